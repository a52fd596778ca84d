/- pp.py and press2.py (wip/tools) wrote this text. -/
import Derived.Test.YtjpedimndkibnaaGreatDoorPx0
import Derived.Test.YtjpedimndkibnaaGreatDoorPxS
import Derived.Test.YtjpedimndkibnaaGreatDoorPxT
import Derived.Test.YtjpedimndkibnaaGreatDoorPx17
import Derived.Test.YtjpedimndkibnaaGreatDoorPx19
import Derived.Test.YtjpedimndkibnaaGreatDoorPx22
namespace Go.Proofs.YtjpedimndkibnaaGreatDoor.P
open Go.RowKit Go.Proofs.YtjpedimndkibnaaGreatDoorW.PrintWords Go.Proofs.YtjpedimndkibnaaGreatDoorW.PrintLast Go.Proofs.YtjpedimndkibnaaGreatDoorW.PrintMore
attribute [local go_sem] max2_int min2_int max_two min_two max_three min_three max_four min_four
attribute [local go_sem] Instr.field asAgg
set_option linter.unusedVariables false
set_option linter.unusedSimpArgs false
set_option maxHeartbeats 8000000
set_option maxRecDepth 100000

/-! ### shutterref15_Do: function 40 -/
def shutterref15_Do.j0 : Nat → Int → Bool → Int → Int → List (S55) → Int → Bool → Bool → Option (Int × Int × (List (S55)) × Int × Bool × Bool × Int)
 | 0, _, _, _, _, _, _, _, _ => none
 | k + 1, j, x12, b, c, d, e, a, g => if x12 = true then (some (b, c, d, e, a, g, 1)) else (if a = true then (some (b, c, d, e, a, g, 7)) else ((shutterref10_Copy.f b c d e a g).bind fun h => ((shutterref15_To.f k b c d e a g j).bind fun i => (some (h.1, h.2.1, h.2.2.1, i, h.2.2.2.2.1, h.2.2.2.2.2, 0)))))
def shutterref15_Do.f (k : Nat) (a b : Int) (g : List (S55)) (c : Int) (d e : Bool) (a1 : Int) : Option (Int × Int × (List (S55)) × Int × Bool × Bool × Int) := if a1 < 2 then (shutterref15_Do.j0 k a1 true a b g c d e) else (shutterref15_Do.j0 k a1 (decide (a1 > 9)) a b g c d e)
theorem shutterref15_Do.mono_l : ∀ k, (∀ b c d e f g i j, LeO (shutterref15_Do.j0 k b c d e f g i j) (shutterref15_Do.j0 (k + 1) b c d e f g i j))
 | 0 => fun _ _ _ _ _ _ _ _ r h => by simp [shutterref15_Do.j0] at h
 | k + 1 => by
  have a := shutterref15_Do.mono_l k
  ·intro b c d e f g i j
   unfold shutterref15_Do.j0
   repeat' first
   | (with_reducible exact a _ _ _ _ _ _ _ _)
   | (with_reducible exact shutterref15_To.mono _ _ _ _ _ _ _ _)
   | (with_reducible exact LeO.refl _)
   | (with_reducible exact LeO.none _)
   | (with_reducible refine LeO.ite ?_ ?_)
   | (with_reducible refine LeO.bind ?_ (fun _ => ?_))
   | exact a _ _ _ _ _ _ _ _
   | exact shutterref15_To.mono _ _ _ _ _ _ _ _
   | exact LeO.none _
   | refine LeO.ite ?_ ?_
   | refine LeO.bind ?_ (fun _ => ?_)
theorem shutterref15_Do.mono : ∀ a0 a1 b c a4 d e k, LeO (shutterref15_Do.f k a0 a1 b c a4 d e) (shutterref15_Do.f (k + 1) a0 a1 b c a4 d e) := by
 intro a0 a1 b c a4 d e k
 have a := shutterref15_Do.mono_l k
 unfold shutterref15_Do.f
 repeat' first
   | (with_reducible exact a _ _ _ _ _ _ _ _)
   | (with_reducible exact shutterref15_To.mono _ _ _ _ _ _ _ _)
   | (with_reducible exact LeO.refl _)
   | (with_reducible exact LeO.none _)
   | (with_reducible refine LeO.ite ?_ ?_)
   | (with_reducible refine LeO.bind ?_ (fun _ => ?_))
   | exact a _ _ _ _ _ _ _ _
   | exact shutterref15_To.mono _ _ _ _ _ _ _ _
   | exact LeO.none _
   | refine LeO.ite ?_ ?_
   | refine LeO.bind ?_ (fun _ => ?_)
theorem shutterref15_Do.calls (k : Nat) (l m : Int) (W : Nat → Prop) (y : Option Addr) (v : Nat) (d : List (S55)) (q : Int) (s r : Bool) (a1 r1 r2 : Int) (r3 : List (S55)) (r4 : Int) (r5 r6 : Bool) (r7 : Int) (w : World) (ay : Kd.V k55 55 w w.heap.size (fun k_ => W k_) (.slice y d.length v) d) (h : shutterref15_Do.f k l m d q s r a1 = some (r1, r2, r3, r4, r5, r6, r7)) :
  Calls Tryz.prog 40 #[.agg #[.int .i64 l, .int .i64 m, .slice y d.length v, .int .i64 q, .bool s, .bool r], .int .i64 a1] w fun e w' => ∃ aB : Value, e = .returned (.tuple #[.agg #[.int .i64 r1, .int .i64 r2, aB, .int .i64 r4, .bool r5, .bool r6], .int .i64 r7]) ∧ Kd.V k55 55 w' w.heap.size (fun k_ => (W k_ ∨ w.heap.size ≤ k_)) aB r3 ∧ Below w.heap.size w w' := by
 have cK := Tryz.underlying24
 have C := Z (show Kd.V k55 55 w w.heap.size (fun k_ => (W k_ ∨ w.heap.size ≤ k_)) (.slice y d.length v) d from Kd.V_mono ay (fun k_ hk => .inl hk))
 have HB := Z (Below.refl w.heap.size w)
 unfold shutterref15_Do.f at h
 have H := h
 clear h
 have au := Z H
 clear H
 go_enter Tryz.func40, Tryz.ntmps40
 go_upto_region 1 with (first | ((with_reducible refine gD_ 2 rfl ?_); refine bx_ 2 24 #[.int .i64 l, .int .i64 m, .slice y d.length v, .int .i64 q, .bool s, .bool r] ?_; intro U hg w4 hbox hb; replace C := ve' C hg hb; have i := Z hbox; have cx := ln' w hg; replace HB := bs_ hb; clear hb hbox hg) | ((with_reducible refine gD_ 4 rfl ?_); refine bx_ 4 24 zS_ ?_; intro a hg w5 hbox hb; replace C := ve' C hg hb; have j := Z hbox; have cy := ln' w hg; replace HB := bs_ hb; have R := nl' i hg; replace i := kb' i hb; clear hb hbox hg))
 (try simp only [Act.put, sA, sB, sC])
 go_cut [12] (fun ct wc => ∃ (kq : Nat) (ab : Bool), ct = .bool ab ∧ Aside0 (shutterref15_Do.j0 kq a1 ab l m d q s r = some (r1, r2, r3, r4, r5, r6, r7)) ∧ Aside0 (kq ≤ k) ∧ Aside0 (Kd.V k55 55 wc w.heap.size (fun k_ => (W k_ ∨ w.heap.size ≤ k_) ∧ k_ ≠ U ∧ k_ ≠ a) (.slice y d.length v) d) ∧ Aside0 (wc.heap[U]? = some (.cells #[.int .i64 l, .int .i64 m, (.slice y d.length v), .int .i64 q, .bool s, .bool r] 24 (0, 0))) ∧ Aside0 (wc.heap[a]? = some (.cells zS_ 24 (0, 0))) ∧ Aside0 (Below w.heap.size w wc))
 case first =>
  have H := au.out
  clear au
  by_cases c6 : a1 < 2
  ·rw [if_pos c6] at H
   have X := decide_eq_true c6
   clear c6
   (first | rw [X] | (simp only [i64_w, i32_w]; rw [X]) | skip)
   have H' := Z H
   clear H
   go_wp2
   go_meet
   case rel => exact ⟨_, (true), (dn_), H', ⟨by first | omega | exact Nat.le_refl _⟩, ⟨by (with_reducible repeat apply pV); exact Kd.V_mono C.out im_⟩, ⟨vK i.out⟩, ⟨vK j.out⟩, ⟨bl_⟩⟩
  rw [if_neg c6] at H
  have X := decide_eq_false c6
  clear c6
  (first | rw [X] | (simp only [i64_w, i32_w]; rw [X]) | skip)
  have H' := Z H
  clear H
  go_wp2
  go_meet
  case rel => exact ⟨_, (decide (a1 > 9)), (dn_), H', ⟨by first | omega | exact Nat.le_refl _⟩, ⟨by (with_reducible repeat apply pV); exact Kd.V_mono C.out im_⟩, ⟨vK i.out⟩, ⟨vK j.out⟩, ⟨bl_⟩⟩
 clear au
 obtain ⟨kq, ab, rfl, HA, cM, GA, i, j, HB⟩ := hcut
 cases kq with
 | zero => exact absurd HA.out (by simp [shutterref15_Do.j0])
 | succ ap =>
  have H := HA.out
  clear HA
  simp only [shutterref15_Do.j0] at H
  by_cases c7 : ab = true
  ·subst c7
   rw [if_pos rfl] at H
   obtain ⟨rfl, rfl, rfl, rfl, rfl, rfl, rfl⟩ := ij7_ H
   have cI := ns_ R
   have cg := cells6 i.out
   have aD := cells6 j.out
   go_wp2
   refine rc2_ (put6 j.out) Tryz.underlying24 ?_
   exact ⟨_, er_, by (with_reducible repeat apply pV); exact Kd.V_mono (f6V a (Kd.V_mono GA.out (fun k_ hk => (⟨hk, hk.2.2⟩ : _ ∧ k_ ≠ a))) im_) im_, bl_⟩
  replace c7 := Bool.eq_false_iff.mpr c7
  subst c7
  rw [iF_] at H
  by_cases ao : s = true
  ·subst ao
   rw [if_pos rfl] at H
   obtain ⟨rfl, rfl, rfl, rfl, rfl, rfl, rfl⟩ := ij7_ H
   have cA := ns_ R
   have aJ := cells6 i.out
   have aP := cells6 j.out
   go_wp2
   refine rc2_ (put6 j.out) Tryz.underlying24 ?_
   exact ⟨_, er_, by (with_reducible repeat apply pV); exact Kd.V_mono (f6V a (Kd.V_mono GA.out (fun k_ hk => (⟨hk, hk.2.2⟩ : _ ∧ k_ ≠ a))) im_) im_, bl_⟩
  replace ao := Bool.eq_false_iff.mpr ao
  subst ao
  rw [iF_] at H
  replace H := bn_ H
  obtain ⟨⟨x, z, A, ac, O, Q⟩, cd, H⟩ := H
  try dsimp only at H
  replace H := bn_ H
  obtain ⟨B, ce, H⟩ := H
  obtain ⟨rfl, rfl, rfl, rfl, rfl, rfl, rfl⟩ := ij7_ H
  have cB := ns_ R
  have aV := cells6 i.out
  go_wp2_with (first | ((with_reducible refine gF_ 32 rfl ?_); refine gd_ (some 18) Tryz.func32 (shutterref10_Copy.calls l m _ _ d q false r x z A ac O Q _ (vC_ GA) (vL_ GA) cd.out) ?_; rintro e cN ⟨cL, rfl, av, hb⟩; refine ⟨_, rfl, ?_⟩; replace GA := Z (Kd.V_elder' (vV GA.out) (Kd.R_base av) hb); have D := Z (Kd.R_lower (Kd.R_newM (M := fun k_ => (w.heap.size ≤ k_)) av (below_size bl_) (fun k_ h_ => h_)) (below_size bl_)); replace i := kb' i hb; replace j := kb' j hb; replace HB := bs_ hb; (try clear hb); (try clear hk); (try clear av)) | ((with_reducible refine gD_ 6 rfl ?_); refine bx_ 6 24 zS_ ?_; intro b hg cO hbox hb; replace GA := ve' GA hg hb; replace D := rb' D hb; have P := Z hbox; have cz := ln' w hg; replace HB := bs_ hb; have Y := nl' i hg; replace i := kb' i hb; have T := nl' j hg; replace j := kb' j hb; clear hb hbox hg; have cC := ns_ Y; have cD := ns_ T; have a2 := cells6 P.out; obtain ⟨K, L, aC⟩ := Kd.R_slice D.out; subst aC; have a8 := cells6 i.out) | ((with_reducible refine gF_ 82 rfl ?_); refine gd_ (some 21) Tryz.func82 (shutterref15_To.calls ap l m _ _ d q false r a1 B _ ?side1 (vL_ GA) ce.out) ?_; (case side1 => refine (Kd.V_reads' (e := 55) (base := w.heap.size) (ok := fun k_ => (((((W k_ ∨ w.heap.size ≤ k_)) ∧ (k_ ≠ U ∧ k_ ≠ a)) ∧ some k_ ≠ (.slice K A.length L : Value).ownBlock) ∧ k_ ≠ b)) (n := d.length) (c := v) ?_).2.2; exact (by (with_reducible repeat apply pV); exact (Kd.V_mono (f6V b (Kd.V_mono GA.out (fun k_ hk => (⟨hk, hk.2⟩ : _ ∧ k_ ≠ b))) (fun _ hk => hk.2)) (fun _ h_ => h_.1)))); rintro e cP ⟨rfl, hb⟩; refine ⟨_, rfl, ?_⟩; replace GA := Z (Kd.V_below (by (with_reducible repeat apply pV); exact (Kd.V_mono (f6V b (Kd.V_mono GA.out (fun k_ hk => (⟨hk, hk.2⟩ : _ ∧ k_ ≠ b))) (fun _ hk => hk.2)) (fun _ h_ => h_.1))) hb); replace D := Z (Kd.R_below (by (with_reducible repeat apply pR); exact (Kd.R_mono (f6R b (Kd.R_types D.out P.out (by decide)) (fun _ hk => hk.2)) (fun _ h_ => h_.1))) hb); replace i := Z (blk_below (g := U) (o := .cells #[.int .i64 l, .int .i64 m, .slice y d.length v, .int .i64 q, .bool false, .bool r] 24 (0, 0)) (blk_off i.out Y.out off2_) hb); replace j := Z (blk_below (g := a) (o := .cells zS_ 24 (0, 0)) (blk_off j.out T.out off2_) hb); replace P := Z (blk_below (g := b) (o := .cells #[.int .i64 x, .int .i64 z, .slice K A.length L, .int .i64 ac, .bool O, .bool Q] 24 (0, 0)) (put6 P.out) hb); replace HB := bs_ hb; (try clear hb); (try clear hk); have be := cells6 P.out; have bk := cells6 j.out))
  refine bodyPost_ret (results_ct rfl _ _ a 24 #[.int .i64 x, .int .i64 z, .slice K A.length L, .int .i64 B, .bool O, .bool Q] (0, 0) _ rfl (put6 (by (with_reducible repeat apply pK); refine blk_far ?_ T.out _; (with_reducible repeat apply pK); exact j.out)) Tryz.underlying24 rfl (by kernel_rfl)) rfl ?_
  exact ⟨_, er_, Kd.V_mono (Kd.R_V (by (with_reducible repeat apply pR); exact Kd.R_mono (f6R a (Kd.R_far (p := ⟨b, 3, none⟩) (Kd.R_types (Kd.R_types D.out P.out (by decide)) j.out (by decide)) im_ (.int .i64 B)) im_) (fun _ hk => hk.1.1.1))) (fun k_ hk => by first | exact ⟨(.inr (hk.1)), hk.2⟩ | exact (.inr (hk))), bl_⟩

/-! ### shutterref13_Reset: function 33 -/
def shutterref13_Reset.l0 : Nat → Bool → Int → Int → Int → List (S55) → Int → Bool → Bool → Int → Int → List (S55) → Int → Bool → Bool → Option (Int × Int × (List (S55)) × Int × Bool × Bool)
 | 0, _, _, _, _, _, _, _, _, _, _, _, _, _, _ => none
 | k + 1, o, c, i, j, b, l, m, n, d, e, a, f, g, h => if c < (a.length : Int) then (if 0 ≤ c then (if c < (b.length : Int) then (if (rd_T55 b c).f0 = true then (if o = true then (shutterref13_Reset.l0 k o (wrap64 (c + 1)) i j b l m n d e (a.set (c : Int).toNat (⟨(rd_T55 a c).f0, (⟨(rd_T55 a c).f1.f0, (rd_T55 a c).f1.f1, (rd_T55 a c).f1.f2, false⟩ : S53), (rd_T55 a c).f2⟩ : S55)) f g h) else (if ((rd_T55 b c).f1.f0 = true) then (shutterref13_Reset.l0 k o (wrap64 (c + 1)) i j b l m n d e a f g h) else (shutterref13_Reset.l0 k o (wrap64 (c + 1)) i j b l m n d e (a.set (c : Int).toNat (⟨(rd_T55 a c).f0, (⟨(rd_T55 a c).f1.f0, (rd_T55 a c).f1.f1, (rd_T55 a c).f1.f2, false⟩ : S53), (rd_T55 a c).f2⟩ : S55)) f g h))) else (shutterref13_Reset.l0 k o (wrap64 (c + 1)) i j b l m n d e a f g h)) else (none)) else (none)) else (some (d, e, a, f, g, h))
def shutterref13_Reset.f (k : Nat) (b c : Int) (h : List (S55)) (d : Int) (e g a1 : Bool) : Option (Int × Int × (List (S55)) × Int × Bool × Bool) := (shutterref10_Copy.f b c h d e g).bind fun a => (shutterref13_Reset.l0 k a1 0 b c h d e g a.1 a.2.1 a.2.2.1 a.2.2.2.1 a.2.2.2.2.1 a.2.2.2.2.2)
theorem shutterref13_Reset.mono_l : ∀ k, (∀ f g i j l m n o p q a b c d, LeO (shutterref13_Reset.l0 k f g i j l m n o p q a b c d) (shutterref13_Reset.l0 (k + 1) f g i j l m n o p q a b c d))
 | 0 => fun _ _ _ _ _ _ _ _ _ _ _ _ _ _ r h => by simp [shutterref13_Reset.l0] at h
 | k + 1 => by
  have e := shutterref13_Reset.mono_l k
  ·intro f g i j l m n o p q a b c d
   unfold shutterref13_Reset.l0
   repeat' first
   | (with_reducible exact e _ _ _ _ _ _ _ _ _ _ _ _ _ _)
   | (with_reducible exact LeO.refl _)
   | (with_reducible exact LeO.none _)
   | (with_reducible refine LeO.ite ?_ ?_)
   | (with_reducible refine LeO.bind ?_ (fun _ => ?_))
   | exact e _ _ _ _ _ _ _ _ _ _ _ _ _ _
   | exact LeO.none _
   | refine LeO.ite ?_ ?_
   | refine LeO.bind ?_ (fun _ => ?_)
theorem shutterref13_Reset.mono : ∀ a0 a1 b c a4 d e k, LeO (shutterref13_Reset.f k a0 a1 b c a4 d e) (shutterref13_Reset.f (k + 1) a0 a1 b c a4 d e) := by
 intro a0 a1 b c a4 d e k
 have a := shutterref13_Reset.mono_l k
 unfold shutterref13_Reset.f
 repeat' first
   | (with_reducible exact a _ _ _ _ _ _ _ _ _ _ _ _ _ _)
   | (with_reducible exact LeO.refl _)
   | (with_reducible exact LeO.none _)
   | (with_reducible refine LeO.ite ?_ ?_)
   | (with_reducible refine LeO.bind ?_ (fun _ => ?_))
   | exact a _ _ _ _ _ _ _ _ _ _ _ _ _ _
   | exact LeO.none _
   | refine LeO.ite ?_ ?_
   | refine LeO.bind ?_ (fun _ => ?_)
theorem shutterref13_Reset.calls (k : Nat) (s u : Int) (aJ : Option Addr) (au : Nat) (c : List (S55)) (x : Int) (y z a1 : Bool) (r1 r2 : Int) (r3 : List (S55)) (r4 : Int) (r5 r6 : Bool) (w : World) (bc : Kd.C k55 w aJ c.length c) (a7 : c.length ≤ au) (h : shutterref13_Reset.f k s u c x y z a1 = some (r1, r2, r3, r4, r5, r6)) :
  Calls Tryz.prog 33 #[.agg #[.int .i64 s, .int .i64 u, .slice aJ c.length au, .int .i64 x, .bool y, .bool z], .bool a1] w fun e w' => ∃ ce : Value, e = .returned (.agg #[.int .i64 r1, .int .i64 r2, ce, .int .i64 r4, .bool r5, .bool r6]) ∧ Kd.R k55 55 w' w.heap.size (fun _ => True) ce r3 ∧ Below w.heap.size w w' := by
 have fN := Tryz.underlying24
 have ak := Z bc
 have b3 := Z a7
 clear bc a7
 have HB := Z (Below.refl w.heap.size w)
 unfold shutterref13_Reset.f at h
 have H := h
 clear h
 replace H := bn_ H
 obtain ⟨⟨E, F, aL, G, I, J⟩, A3, H⟩ := H
 try dsimp only at H
 have H' := Z H
 clear H
 go_enter Tryz.func33, Tryz.ntmps33
 go_wp2_with (first | ((with_reducible refine gD_ 2 rfl ?_); refine bx_ 2 24 #[.int .i64 s, .int .i64 u, .slice aJ c.length au, .int .i64 x, .bool y, .bool z] ?_; intro aF hg w4 hbox hb; have d := Z hbox; have eV := ln' w hg; replace HB := bs_ hb; clear hb hbox hg) | ((with_reducible refine gD_ 4 rfl ?_); refine bx_ 4 24 zS_ ?_; intro V hg w5 hbox hb; have q := Z hbox; have eW := ln' w hg; replace HB := bs_ hb; have Y := nl' d hg; replace d := kb' d hb; clear hb hbox hg; have fL := ns_ Y; have bI := cells6 d.out) | ((with_reducible refine gF_ 32 rfl ?_); refine gd_ (some 8) Tryz.func32 (shutterref10_Copy.calls s u _ _ c x y z E F aL G I J _ (cB_ ak HB) b3.out A3.out) ?_; rintro e w8 ⟨fP, rfl, ca, hb⟩; refine ⟨_, rfl, ?_⟩; have aE := Z (Kd.R_lower ca (below_size bl_)); replace d := kb' d hb; replace q := kb' q hb; replace HB := bs_ hb; (try clear hb); (try clear ca)) | ((with_reducible refine gD_ 5 rfl ?_); refine bx_ 5 24 zS_ ?_; intro ad hg w9 hbox hb; replace aE := rb' aE hb; have D := Z hbox; have eX := ln' w hg; replace HB := bs_ hb; have T := nl' d hg; replace d := kb' d hb; have U := nl' q hg; replace q := kb' q hb; clear hb hbox hg; have e0 := ns_ T; have e1 := ns_ U; have bd := cells6 D.out; obtain ⟨bp, bx, cl⟩ := Kd.R_slice aE.out; subst cl))
 go_loopg [6] k (fun kq v6 w' => ∃ (b : Int) (a : List (S55)) (GB : Value), v6 = .int .i64 b ∧ Aside0 (shutterref13_Reset.l0 kq a1 b s u c x y z E F a G I J = some (r1, r2, r3, r4, r5, r6)) ∧ Aside0 (kq ≤ k) ∧ Aside0 (Kd.R k55 55 w' w.heap.size (fun _ => True) GB a) ∧ Aside0 (w'.heap[aF]? = some (.cells #[.int .i64 s, .int .i64 u, (.slice aJ c.length au), .int .i64 x, .bool y, .bool z] 24 (0, 0))) ∧ Aside0 (w'.heap[V]? = some (.cells zS_ 24 (0, 0))) ∧ Aside0 (w'.heap[ad]? = some (.cells #[.int .i64 E, .int .i64 F, GB, .int .i64 G, .bool I, .bool J] 24 (0, 0))) ∧ Aside0 (Below w.heap.size w w'))
 case atStart => exact ⟨(0), (aL), (.slice bp aL.length bx), (dn_), H', ⟨Nat.le_refl _⟩, ⟨by (with_reducible repeat apply pR); exact Kd.R_mono (f6R ad (Kd.R_types aE.out D.out (by decide)) im_) im_⟩, ⟨blk_off d.out T.out off2_⟩, ⟨blk_off q.out U.out off2_⟩, ⟨put6 D.out⟩, ⟨bl_⟩⟩
 case round =>
  clear H'
  try clear bd
  try clear bI
  obtain ⟨b, a, GB, rfl, HA, aI, GA, d, q, D, HB⟩ := hrel
  cases gk with
  | zero => exact absurd HA.out (by simp [shutterref13_Reset.l0])
  | succ k1 =>
   have H := HA.out
   clear HA
   simp only [shutterref13_Reset.l0] at H
   by_cases aM : b < (a.length : Int)
   rotate_left
   ·rw [if_neg aM] at H
    have b6 := decide_eq_false aM
    clear aM
    obtain ⟨rfl, rfl, rfl, rfl, rfl, rfl⟩ := ij6_ H
    have fe := ns_ T
    have ff := ns_ U
    have dj := cells6 D.out
    obtain ⟨bq, bz, cq⟩ := Kd.R_slice GA.out
    subst cq
    have fg := ns_ Y
    have dq := cells6 q.out
    go_wp2
    refine rc1_ (put6 q.out) Tryz.underlying24 ?_
    exact ⟨_, er_, by (with_reducible repeat apply pR); exact Kd.R_mono (f6R V (Kd.R_types GA.out q.out (by decide)) im_) im_, bl_⟩
   rw [if_pos aM] at H
   have b6 := decide_eq_true aM
   clear aM
   obtain ⟨a2, H⟩ := gt_ H
   have eY := decide_eq_true a2
   clear a2
   obtain ⟨a3, H⟩ := gt_ H
   have eZ := decide_eq_true a3
   clear a3
   obtain ⟨bv, aQ⟩ : ∃ b_ : Bool, b_ = ((rd_T55 c b).f0) := ⟨_, rfl⟩
   replace H : (if bv = true then (if a1 = true then (shutterref13_Reset.l0 k1 a1 (wrap64 (b + 1)) s u c x y z E F (a.set (b : Int).toNat (⟨(rd_T55 a b).f0, (⟨(rd_T55 a b).f1.f0, (rd_T55 a b).f1.f1, (rd_T55 a b).f1.f2, false⟩ : S53), (rd_T55 a b).f2⟩ : S55)) G I J) else (if ((rd_T55 c b).f1.f0 = true) then (shutterref13_Reset.l0 k1 a1 (wrap64 (b + 1)) s u c x y z E F a G I J) else (shutterref13_Reset.l0 k1 a1 (wrap64 (b + 1)) s u c x y z E F (a.set (b : Int).toNat (⟨(rd_T55 a b).f0, (⟨(rd_T55 a b).f1.f0, (rd_T55 a b).f1.f1, (rd_T55 a b).f1.f2, false⟩ : S53), (rd_T55 a b).f2⟩ : S55)) G I J))) else (shutterref13_Reset.l0 k1 a1 (wrap64 (b + 1)) s u c x y z E F a G I J)) = some (r1, r2, r3, r4, r5, r6) := by rw [← aQ] at H; exact H
   have r := Z aQ
   clear aQ
   cases bv
   ·rw [iF_] at H
    have H' := Z H
    clear H
    have fb := ns_ T
    have fc := ns_ U
    have c7 := cells6 D.out
    obtain ⟨cg, ck, cp⟩ := Kd.R_slice GA.out
    subst cp
    have fd := ns_ Y
    have dd := cells6 d.out
    have W : 0 ≤ (b : Int) := od_
    have X : b < (c.length : Int) := od_
    obtain ⟨al, av, i, l, m, A, n, B⟩ := at_T55 ak.out b W X
    (try rw [← r.out] at i)
    (try rw [← r.out] at l)
    (try rw [← r.out] at m)
    (try rw [← r.out] at n)
    cases av
    replace i := (HB.out.cell (bk_ w _ i)).trans i
    replace l := (HB.out.cell (bk_ w _ l)).trans l
    replace m := (HB.out.cell (bk_ w _ m)).trans m
    replace A := (HB.out.cell (bk_ w _ A)).trans A
    replace n := (HB.out.cell (bk_ w _ n)).trans n
    replace B := (HB.out.cell (bk_ w _ B)).trans B
    replace W := eq_true W
    replace X := eq_true X
    go_wp2
    go_roundg k1
    case measure => have := aI.out; omega
    case rel => exact ⟨(wrap64 (b + 1)), (a), (.slice cg a.length ck), (dn_), H', ⟨by have := aI.out; omega⟩, ⟨by (with_reducible repeat apply pR); exact GA.out⟩, ⟨vK d.out⟩, ⟨vK q.out⟩, ⟨vK D.out⟩, ⟨bl_⟩⟩
   rw [if_pos rfl] at H
   by_cases a5 : a1 = true
   ·subst a5
    rw [if_pos rfl] at H
    obtain ⟨aZ, aG⟩ : ∃ y_ : List (S55), y_ = (a.set (b : Int).toNat (⟨(rd_T55 a b).f0, (⟨(rd_T55 a b).f1.f0, (rd_T55 a b).f1.f1, (rd_T55 a b).f1.f2, false⟩ : S53), (rd_T55 a b).f2⟩ : S55)) := ⟨_, rfl⟩
    replace H : (shutterref13_Reset.l0 k1 true (wrap64 (b + 1)) s u c x y z E F aZ G I J) = some (r1, r2, r3, r4, r5, r6) := by first | (rw [aG]; with_reducible exact H) | (have aK := (Option.bind_some _ _).symm.trans H; rw [aG]; with_reducible exact aK) | (have aK := (Option.bind_some _ _).symm.trans H; with_reducible exact aK) | with_reducible exact H | (rw [aG]; exact H) | exact H
    have b4 := Z aG
    clear aG
    have H' := Z H
    clear H
    have e2 := ns_ T
    have e3 := ns_ U
    have cu := cells6 D.out
    obtain ⟨fz, aO, cm⟩ := Kd.R_slice GA.out
    subst cm
    have e4 := ns_ Y
    have cA := cells6 d.out
    have W : 0 ≤ (b : Int) := od_
    have X : b < (c.length : Int) := od_
    obtain ⟨al, av, i, l, m, A, n, B⟩ := at_T55 ak.out b W X
    (try rw [← r.out] at i)
    (try rw [← r.out] at l)
    (try rw [← r.out] at m)
    (try rw [← r.out] at n)
    cases av
    replace i := (HB.out.cell (bk_ w _ i)).trans i
    replace l := (HB.out.cell (bk_ w _ l)).trans l
    replace m := (HB.out.cell (bk_ w _ m)).trans m
    replace A := (HB.out.cell (bk_ w _ A)).trans A
    replace n := (HB.out.cell (bk_ w _ n)).trans n
    replace B := (HB.out.cell (bk_ w _ B)).trans B
    replace W := eq_true W
    replace X := eq_true X
    have bZ : 0 ≤ (b : Int) := od_
    have b0 : (b : Int) < ((a.length : Int) : Int) := od_
    obtain ⟨Q, fJ, bA, bC, cr, fH, br⟩ := Kd.R_form GA.out (by omega)
    (first | cases bA | (injection bA with ea_ en_ ec_; (first | subst ea_ | (injection ea_ with ea_; subst ea_)); subst ec_; clear en_))
    have ch := Z bC
    have fB := Z br
    clear bC cr br
    obtain ⟨fD, b7, bE, am, ao⟩ := Kd.R_elem GA.out z55 (b : Int) bZ b0
    obtain rfl := k55_openM bE
    have eG := ce_ am
    have eu := cf_ ao
    clear b7 am ao bE
    replace bZ := eq_true bZ
    replace b0 := eq_true b0
    have bt := Z (show Kd.R k55 55 wr w.heap.size (fun _ => True) (.slice (some ⟨Q, 0, none⟩) a.length aO) a from (by (with_reducible repeat apply pR); exact GA.out))
    obtain ⟨fE, a8, bF, aS, ba⟩ := Kd.R_elem bt.out z55 (b : Int) (od_) (by have h_ : (b : Int) < ((a.length : Int) : Int) := od_; first | exact h_ | (have e_ := (Kd.R_reads' GA.out).1; omega) | simpa using h_)
    obtain rfl := k55_openM bF
    have aW := Kd.R_seg bt.out (b : Int) (od_) (by have h_ : (b : Int) < ((a.length : Int) : Int) := od_; first | exact h_ | (have e_ := (Kd.R_reads' GA.out).1; omega) | simpa using h_) (seg := [.bool false]) (j := 4) a8 aS (show 5 ≤ 6 from by decide) (x' := (⟨(rd_T55 a b).f0, (⟨(rd_T55 a b).f1.f0, (rd_T55 a b).f1.f1, (rd_T55 a b).f1.f2, false⟩ : S53), (rd_T55 a b).f2⟩ : S55)) (k55_mkM _ _ _ (⟨(rd_T55 a b).f0, (⟨(rd_T55 a b).f1.f0, (rd_T55 a b).f1.f1, (rd_T55 a b).f1.f2, false⟩ : S53), (rd_T55 a b).f2⟩ : S55) ) (fun _ hk => hk)
    have bW := aS 4 _ rfl
    (try simp only [show (k55).sz = 6 from rfl, Nat.mul_one, Nat.add_zero] at bW)
    have bO := ba 4
    (try simp only [show (k55).sz = 6 from rfl, Nat.mul_one, Nat.add_zero] at bO)
    clear a8 aS ba bF
    go_wp2_with (first | ((with_reducible refine gate_store (t := 4) (p := 40) rfl ?_); refine sx_ 4 40 (wr.setCell ⟨Q, (b : Int).toNat * 6 + 4, none⟩ (.bool false)) ?_; intro b1 hw; have hg : wr.grownBy b1 (some Q) := (by rw [hw]; exact aW.2); have hp_ : Kd.R k55 55 b1 w.heap.size (fun _ => True) (.slice (some ⟨Q, 0, none⟩) a.length aO) aZ := (by rw [hw, b4.out]; exact aW.1); clear aW; replace d := gw_ ⟨vK d.out⟩ hg (Kd.R_ne GA.out d.out (by decide)); replace q := gw_ ⟨vK q.out⟩ hg (Kd.R_ne GA.out q.out (by decide)); replace D := gw_ ⟨vK D.out⟩ hg (Kd.R_ne GA.out D.out (by decide)); replace GA := Z (hp_); replace HB := Z ((by rw [hw]; exact below_set (HB.out) ch.out : Below w.heap.size w b1)); clear hg hw hp_))
    go_roundg k1
    case measure => have := aI.out; omega
    case rel => exact ⟨(wrap64 (b + 1)), (aZ), (.slice (some ⟨Q, 0, none⟩) a.length aO), (dn_), H', ⟨by have := aI.out; omega⟩, ⟨by (with_reducible repeat apply pR); exact GA.out⟩, ⟨vK d.out⟩, ⟨vK q.out⟩, ⟨vK D.out⟩, ⟨bl_⟩⟩
   replace a5 := Bool.eq_false_iff.mpr a5
   subst a5
   rw [iF_] at H
   obtain ⟨bw, aR⟩ : ∃ b_ : Bool, b_ = ((rd_T55 c b).f1.f0) := ⟨_, rfl⟩
   replace H : (if (bw = true) then (shutterref13_Reset.l0 k1 false (wrap64 (b + 1)) s u c x y z E F a G I J) else (shutterref13_Reset.l0 k1 false (wrap64 (b + 1)) s u c x y z E F (a.set (b : Int).toNat (⟨(rd_T55 a b).f0, (⟨(rd_T55 a b).f1.f0, (rd_T55 a b).f1.f1, (rd_T55 a b).f1.f2, false⟩ : S53), (rd_T55 a b).f2⟩ : S55)) G I J)) = some (r1, r2, r3, r4, r5, r6) := by rw [← aR] at H; exact H
   have K := Z aR
   clear aR
   by_cases a6 : (bw = true)
   ·subst a6
    rw [if_pos rfl] at H
    have H' := Z H
    clear H
    have e5 := ns_ T
    have e6 := ns_ U
    have cG := cells6 D.out
    obtain ⟨cf, cj, cn⟩ := Kd.R_slice GA.out
    subst cn
    have e7 := ns_ Y
    have cM := cells6 d.out
    have W : 0 ≤ (b : Int) := od_
    have X : b < (c.length : Int) := od_
    obtain ⟨al, av, i, l, m, A, n, B⟩ := at_T55 ak.out b W X
    (try rw [← r.out] at i)
    (try rw [← K.out] at i)
    (try rw [← r.out] at l)
    (try rw [← K.out] at l)
    (try rw [← r.out] at m)
    (try rw [← K.out] at m)
    (try rw [← r.out] at n)
    (try rw [← K.out] at n)
    cases av
    replace i := (HB.out.cell (bk_ w _ i)).trans i
    replace l := (HB.out.cell (bk_ w _ l)).trans l
    replace m := (HB.out.cell (bk_ w _ m)).trans m
    replace A := (HB.out.cell (bk_ w _ A)).trans A
    replace n := (HB.out.cell (bk_ w _ n)).trans n
    replace B := (HB.out.cell (bk_ w _ B)).trans B
    replace W := eq_true W
    replace X := eq_true X
    have aw : 0 ≤ (b : Int) := od_
    have ax : b < (c.length : Int) := od_
    obtain ⟨aN, aY, L, M, O, ae, P, af⟩ := at_T55 ak.out b aw ax
    (try rw [← r.out] at L)
    (try rw [← K.out] at L)
    (try rw [← r.out] at M)
    (try rw [← K.out] at M)
    (try rw [← r.out] at O)
    (try rw [← K.out] at O)
    (try rw [← r.out] at P)
    (try rw [← K.out] at P)
    obtain rfl : al = aN := (by injection aY)
    replace L := (HB.out.cell (bk_ w _ L)).trans L
    replace M := (HB.out.cell (bk_ w _ M)).trans M
    replace O := (HB.out.cell (bk_ w _ O)).trans O
    replace ae := (HB.out.cell (bk_ w _ ae)).trans ae
    replace P := (HB.out.cell (bk_ w _ P)).trans P
    replace af := (HB.out.cell (bk_ w _ af)).trans af
    replace aw := eq_true aw
    replace ax := eq_true ax
    go_wp2
    go_roundg k1
    case measure => have := aI.out; omega
    case rel => exact ⟨(wrap64 (b + 1)), (a), (.slice cf a.length cj), (dn_), H', ⟨by have := aI.out; omega⟩, ⟨by (with_reducible repeat apply pR); exact GA.out⟩, ⟨vK d.out⟩, ⟨vK q.out⟩, ⟨vK D.out⟩, ⟨bl_⟩⟩
   replace a6 := Bool.eq_false_iff.mpr a6
   subst a6
   rw [iF_] at H
   obtain ⟨a0, aH⟩ : ∃ y_ : List (S55), y_ = (a.set (b : Int).toNat (⟨(rd_T55 a b).f0, (⟨(rd_T55 a b).f1.f0, (rd_T55 a b).f1.f1, (rd_T55 a b).f1.f2, false⟩ : S53), (rd_T55 a b).f2⟩ : S55)) := ⟨_, rfl⟩
   replace H : (shutterref13_Reset.l0 k1 false (wrap64 (b + 1)) s u c x y z E F a0 G I J) = some (r1, r2, r3, r4, r5, r6) := by first | (rw [aH]; with_reducible exact H) | (have aK := (Option.bind_some _ _).symm.trans H; rw [aH]; with_reducible exact aK) | (have aK := (Option.bind_some _ _).symm.trans H; with_reducible exact aK) | with_reducible exact H | (rw [aH]; exact H) | exact H
   have b5 := Z aH
   clear aH
   have H' := Z H
   clear H
   have e8 := ns_ T
   have e9 := ns_ U
   have cS := cells6 D.out
   obtain ⟨fA, aP, co⟩ := Kd.R_slice GA.out
   subst co
   have fa := ns_ Y
   have cY := cells6 d.out
   have W : 0 ≤ (b : Int) := od_
   have X : b < (c.length : Int) := od_
   obtain ⟨al, av, i, l, m, A, n, B⟩ := at_T55 ak.out b W X
   (try rw [← r.out] at i)
   (try rw [← K.out] at i)
   (try rw [← r.out] at l)
   (try rw [← K.out] at l)
   (try rw [← r.out] at m)
   (try rw [← K.out] at m)
   (try rw [← r.out] at n)
   (try rw [← K.out] at n)
   cases av
   replace i := (HB.out.cell (bk_ w _ i)).trans i
   replace l := (HB.out.cell (bk_ w _ l)).trans l
   replace m := (HB.out.cell (bk_ w _ m)).trans m
   replace A := (HB.out.cell (bk_ w _ A)).trans A
   replace n := (HB.out.cell (bk_ w _ n)).trans n
   replace B := (HB.out.cell (bk_ w _ B)).trans B
   replace W := eq_true W
   replace X := eq_true X
   have aw : 0 ≤ (b : Int) := od_
   have ax : b < (c.length : Int) := od_
   obtain ⟨aN, aY, L, M, O, ae, P, af⟩ := at_T55 ak.out b aw ax
   (try rw [← r.out] at L)
   (try rw [← K.out] at L)
   (try rw [← r.out] at M)
   (try rw [← K.out] at M)
   (try rw [← r.out] at O)
   (try rw [← K.out] at O)
   (try rw [← r.out] at P)
   (try rw [← K.out] at P)
   obtain rfl : al = aN := (by injection aY)
   replace L := (HB.out.cell (bk_ w _ L)).trans L
   replace M := (HB.out.cell (bk_ w _ M)).trans M
   replace O := (HB.out.cell (bk_ w _ O)).trans O
   replace ae := (HB.out.cell (bk_ w _ ae)).trans ae
   replace P := (HB.out.cell (bk_ w _ P)).trans P
   replace af := (HB.out.cell (bk_ w _ af)).trans af
   replace aw := eq_true aw
   replace ax := eq_true ax
   have p37 : 0 ≤ (b : Int) := od_
   have q37 : (b : Int) < ((a.length : Int) : Int) := od_
   obtain ⟨S, fK, bB, bD, ct, fI, bs⟩ := Kd.R_form GA.out (by omega)
   (first | cases bB | (injection bB with ea_ en_ ec_; (first | subst ea_ | (injection ea_ with ea_; subst ea_)); subst ec_; clear en_))
   have ci := Z bD
   have fC := Z bs
   clear bD ct bs
   obtain ⟨fF, b8, bG, an, ap⟩ := Kd.R_elem GA.out z55 (b : Int) p37 q37
   obtain rfl := k55_openM bG
   have eM := ce_ an
   have eA := cf_ ap
   clear b8 an ap bG
   replace p37 := eq_true p37
   replace q37 := eq_true q37
   have bu := Z (show Kd.R k55 55 wr w.heap.size (fun _ => True) (.slice (some ⟨S, 0, none⟩) a.length aP) a from (by (with_reducible repeat apply pR); exact GA.out))
   obtain ⟨fG, a9, bH, aT, bb⟩ := Kd.R_elem bu.out z55 (b : Int) (od_) (by have h_ : (b : Int) < ((a.length : Int) : Int) := od_; first | exact h_ | (have e_ := (Kd.R_reads' GA.out).1; omega) | simpa using h_)
   obtain rfl := k55_openM bH
   have aX := Kd.R_seg bu.out (b : Int) (od_) (by have h_ : (b : Int) < ((a.length : Int) : Int) := od_; first | exact h_ | (have e_ := (Kd.R_reads' GA.out).1; omega) | simpa using h_) (seg := [.bool false]) (j := 4) a9 aT (show 5 ≤ 6 from by decide) (x' := (⟨(rd_T55 a b).f0, (⟨(rd_T55 a b).f1.f0, (rd_T55 a b).f1.f1, (rd_T55 a b).f1.f2, false⟩ : S53), (rd_T55 a b).f2⟩ : S55)) (k55_mkM _ _ _ (⟨(rd_T55 a b).f0, (⟨(rd_T55 a b).f1.f0, (rd_T55 a b).f1.f1, (rd_T55 a b).f1.f2, false⟩ : S53), (rd_T55 a b).f2⟩ : S55) ) (fun _ hk => hk)
   have bX := aT 4 _ rfl
   (try simp only [show (k55).sz = 6 from rfl, Nat.mul_one, Nat.add_zero] at bX)
   have bP := bb 4
   (try simp only [show (k55).sz = 6 from rfl, Nat.mul_one, Nat.add_zero] at bP)
   clear a9 aT bb bH
   go_wp2_with (first | ((with_reducible refine gate_store (t := 4) (p := 40) rfl ?_); refine sx_ 4 40 (wr.setCell ⟨S, (b : Int).toNat * 6 + 4, none⟩ (.bool false)) ?_; intro b2 hw; have hg : wr.grownBy b2 (some S) := (by rw [hw]; exact aX.2); have hp_ : Kd.R k55 55 b2 w.heap.size (fun _ => True) (.slice (some ⟨S, 0, none⟩) a.length aP) a0 := (by rw [hw, b5.out]; exact aX.1); clear aX; replace d := gw_ ⟨vK d.out⟩ hg (Kd.R_ne GA.out d.out (by decide)); replace q := gw_ ⟨vK q.out⟩ hg (Kd.R_ne GA.out q.out (by decide)); replace D := gw_ ⟨vK D.out⟩ hg (Kd.R_ne GA.out D.out (by decide)); replace GA := Z (hp_); replace HB := Z ((by rw [hw]; exact below_set (HB.out) ci.out : Below w.heap.size w b2)); clear hg hw hp_))
   go_roundg k1
   case measure => have := aI.out; omega
   case rel => exact ⟨(wrap64 (b + 1)), (a0), (.slice (some ⟨S, 0, none⟩) a.length aP), (dn_), H', ⟨by have := aI.out; omega⟩, ⟨by (with_reducible repeat apply pR); exact GA.out⟩, ⟨vK d.out⟩, ⟨vK q.out⟩, ⟨vK D.out⟩, ⟨bl_⟩⟩

/-! ### shutterref10_Span: function 107 -/
def shutterref10_Span.l0 : Nat → Int → Int → List Int → Int → Int → Int → List (S55) → Int → Bool → Bool → Option (List Int)
 | 0, _, _, _, _, _, _, _, _, _, _ => none
 | k + 1, l, m, h, i, a, b, c, d, e, g => if i = m then (some h) else (if i = l then (some h) else (if h.length < 17592186044416 then ((shutterref10_Next.f a b c d e g i).bind fun j => (shutterref10_Span.l0 k l m (h ++ [i]) j a b c d e g)) else (none)))
def shutterref10_Span.f (k : Nat) (a b : Int) (g : List (S55)) (c : Int) (d e : Bool) (a1 i : Int) : Option (List Int) := (shutterref10_Next.f a b g c d e a1).bind fun h => (shutterref10_Span.l0 k a1 i (([a1] : List Int)) h a b g c d e)
theorem shutterref10_Span.mono_l : ∀ k, (∀ b c d e f g i j l m, LeO (shutterref10_Span.l0 k b c d e f g i j l m) (shutterref10_Span.l0 (k + 1) b c d e f g i j l m))
 | 0 => fun _ _ _ _ _ _ _ _ _ _ r h => by simp [shutterref10_Span.l0] at h
 | k + 1 => by
  have a := shutterref10_Span.mono_l k
  ·intro b c d e f g i j l m
   unfold shutterref10_Span.l0
   repeat' first
   | (with_reducible exact a _ _ _ _ _ _ _ _ _ _)
   | (with_reducible exact LeO.refl _)
   | (with_reducible exact LeO.none _)
   | (with_reducible refine LeO.ite ?_ ?_)
   | (with_reducible refine LeO.bind ?_ (fun _ => ?_))
   | exact a _ _ _ _ _ _ _ _ _ _
   | exact LeO.none _
   | refine LeO.ite ?_ ?_
   | refine LeO.bind ?_ (fun _ => ?_)
theorem shutterref10_Span.mono : ∀ a0 a1 b c a4 d e g k, LeO (shutterref10_Span.f k a0 a1 b c a4 d e g) (shutterref10_Span.f (k + 1) a0 a1 b c a4 d e g) := by
 intro a0 a1 b c a4 d e g k
 have a := shutterref10_Span.mono_l k
 unfold shutterref10_Span.f
 repeat' first
   | (with_reducible exact a _ _ _ _ _ _ _ _ _ _)
   | (with_reducible exact LeO.refl _)
   | (with_reducible exact LeO.none _)
   | (with_reducible refine LeO.ite ?_ ?_)
   | (with_reducible refine LeO.bind ?_ (fun _ => ?_))
   | exact a _ _ _ _ _ _ _ _ _ _
   | exact LeO.none _
   | refine LeO.ite ?_ ?_
   | refine LeO.bind ?_ (fun _ => ?_)
theorem shutterref10_Span.calls (k : Nat) (i j : Int) (u : Option Addr) (v : Nat) (c : List (S55)) (l : Int) (m n : Bool) (a1 A : Int) (r : List Int) (w : World) (V : Kd.C k55 w u c.length c) (U : c.length ≤ v) (h : shutterref10_Span.f k i j c l m n a1 A = some r) :
  Calls Tryz.prog 107 #[.agg #[.int .i64 i, .int .i64 j, .slice u c.length v, .int .i64 l, .bool m, .bool n], .int .i64 a1, .int .i64 A] w fun e w' => ∃ av : Value, e = .returned (av) ∧ Kd.R (Kd.int .i64) 3 w' w.heap.size (fun _ => True) av r ∧ Below w.heap.size w w' := by
 have aT := Tryz.underlying24
 have Q := Z V
 have P := Z U
 clear V U
 have HB := Z (Below.refl w.heap.size w)
 unfold shutterref10_Span.f at h
 have H := h
 clear h
 obtain ⟨L, y⟩ : ∃ y_ : List Int, y_ = (([a1] : List Int)) := ⟨_, rfl⟩
 replace H : ((shutterref10_Next.f i j c l m n a1).bind fun x => (shutterref10_Span.l0 k a1 A L x i j c l m n)) = some r := by first | (rw [y]; with_reducible exact H) | (have G := (Option.bind_some _ _).symm.trans H; rw [y]; with_reducible exact G) | (have G := (Option.bind_some _ _).symm.trans H; with_reducible exact G) | with_reducible exact H | (rw [y]; exact H) | exact H
 have S := Z y
 clear y
 replace H := bn_ H
 obtain ⟨x, A4, H⟩ := H
 have H' := Z H
 clear H
 go_enter Tryz.func107, Tryz.ntmps107
 go_wp2_with (first | ((with_reducible refine gD_ 3 rfl ?_); refine bx_ 3 24 #[.int .i64 i, .int .i64 j, .slice u c.length v, .int .i64 l, .bool m, .bool n] ?_; intro F hg w5 hbox hb; have a := Z hbox; have aQ := ln' w hg; replace HB := bs_ hb; clear hb hbox hg) | ((with_reducible refine gD_ 10 rfl ?_); refine Kd.R_lit (Kd.int .i64) _ 3 ?hg (N := 10) ?hd (xs := ([a1] : List Int)) (inner := [.int .i64 a1]) (ok := fun _ => True) (okp := fun _ => True) ?hr ?hp (fun _ hk => hk) trivial (Below.refl _ _) (Nat.le_refl _) (by simp) ?_; (case hd => rfl); (case hg => rfl); (case hr => first | (go_simp; done) | (go_simp; rfl)); (case hp => exact (Reps.one (show Kd.M (Kd.int .i64) _ _ _ a1 [.int .i64 a1] from rfl) (Reps.none _ _))); intro aW w6 K hb hg_ hnew_; clear hg_ hnew_; (first | rw [← S.out] at K | (simp only [Int.reduceToNat] at K; rw [← S.out] at K)); have D := Z (Kd.R_lower K (below_size bl_)); replace a := kb' a hb; replace HB := bs_ hb; clear hb K; have X := cells6 a.out) | ((with_reducible refine gF_ 81 rfl ?_); refine gd_ (some 13) Tryz.func81 (shutterref10_Next.calls i j _ _ c l m n a1 x _ (cB_ Q HB) P.out A4.out) ?_; rintro e w9 ⟨rfl, hb⟩; refine ⟨_, rfl, ?_⟩; replace D := rb' D hb; replace a := kb' a hb; replace HB := bs_ hb; (try clear hb); (try clear hk)))
 go_loopg [7, 8] k (fun kq v7 v8 w' => ∃ (B : List Int) (d : Int), v8 = .int .i64 d ∧ Aside0 (shutterref10_Span.l0 kq a1 A B d i j c l m n = some r) ∧ Aside0 (kq ≤ k) ∧ Aside0 (Kd.R (Kd.int .i64) 3 w' w.heap.size (fun _ => True) v7 B) ∧ Aside0 (w'.heap[F]? = some (.cells #[.int .i64 i, .int .i64 j, (.slice u c.length v), .int .i64 l, .bool m, .bool n] 24 (0, 0))) ∧ Aside0 (Below w.heap.size w w'))
 case atStart => exact ⟨(L), (x), (dn_), H', ⟨Nat.le_refl _⟩, ⟨by (with_reducible repeat apply pR); exact D.out⟩, ⟨vK a.out⟩, ⟨bl_⟩⟩
 case round =>
  clear H'
  try clear X
  obtain ⟨B, d, rfl, HA, ar, GA, a, HB⟩ := hrel
  cases gk with
  | zero => exact absurd HA.out (by simp [shutterref10_Span.l0])
  | succ k1 =>
   have H := HA.out
   clear HA
   simp only [shutterref10_Span.l0] at H
   by_cases c10 : d = A
   ·rw [if_pos c10] at H
    obtain ⟨am, an⟩ := eT_ c10
    clear c10
    obtain rfl := Option.some.inj H
    go_wp2
    go_ret
    exact ⟨_, er_, by (with_reducible repeat apply pR); exact GA.out, bl_⟩
   rw [if_neg c10] at H
   obtain ⟨am, an⟩ := eF_ c10
   by_cases I : d = a1
   ·rw [if_pos I] at H
    obtain ⟨ao, ap⟩ := eT_ I
    clear I
    obtain rfl := Option.some.inj H
    go_wp2
    go_ret
    exact ⟨_, er_, by (with_reducible repeat apply pR); exact GA.out, bl_⟩
   rw [if_neg I] at H
   obtain ⟨ao, ap⟩ := eF_ I
   by_cases T : B.length < 17592186044416
   ·rw [if_pos T] at H
    have ak := Z T
    clear T
    obtain ⟨O, z⟩ : ∃ y_ : List Int, y_ = (B ++ [d]) := ⟨_, rfl⟩
    replace H : ((shutterref10_Next.f i j c l m n d).bind fun J => (shutterref10_Span.l0 k1 a1 A O J i j c l m n)) = some r := by first | (rw [z]; with_reducible exact H) | (have G := (Option.bind_some _ _).symm.trans H; rw [z]; with_reducible exact G) | (have G := (Option.bind_some _ _).symm.trans H; with_reducible exact G) | with_reducible exact H | (rw [z]; exact H) | exact H
    have al := Z z
    clear z
    replace H := bn_ H
    obtain ⟨J, aK, H⟩ := H
    have H' := Z H
    clear H
    go_wp2_with (first | ((with_reducible refine gate_builtin (b := .append) (xs := #[.tmp 22, .tmp 24]) rfl ?_); at_builtin; refine Kd.R_append (Kd.int .i64) (w0 := w) w.heap.size rfl (.tmp 22) (.tmp 24) 121 3 (.int .i64 0) 8 rfl Tryz.underlying121 info3 rfl (by decide) (by omega) u7 B d [.int .i64 d] (fun _ => True) (fun _ => False) rfl rfl ?aP (fun _ hk => hk.elim) ?aF ?aO ?aB ?aS ?aL ?_; (case aP => exact rfl); (case aB => exact bl_); (case aF => exact (fun _ _ => trivial)); (case aO => exact (by (with_reducible repeat apply pR); exact GA.out)); (case aS => exact (below_size bl_)); (case aL => have := ak.out; omega); intro aX aY ho hb hg hat; rw [← al.out] at ho; replace a := gw_ ⟨vK a.out⟩ hg (Kd.R_ne GA.out a.out (by decide)); replace HB := Z (hb); have E := Z (ho); clear GA; clear ho hb hg hat; have aw := cells6 a.out) | ((with_reducible refine gF_ 81 rfl ?_); refine gd_ (some 28) Tryz.func81 (shutterref10_Next.calls i j _ _ c l m n d J _ (cB_ Q HB) P.out aK.out) ?_; rintro e aZ ⟨rfl, hb⟩; refine ⟨_, rfl, ?_⟩; replace E := rb' E hb; replace a := kb' a hb; replace HB := bs_ hb; (try clear hb); (try clear hk)))
    go_roundg k1
    case measure => have := ar.out; omega
    case rel => exact ⟨(O), (J), (dn_), H', ⟨by have := ar.out; omega⟩, ⟨by (with_reducible repeat apply pR); exact E.out⟩, ⟨vK a.out⟩, ⟨bl_⟩⟩
   rw [if_neg T] at H
   exact absurd H (by simp)

end Go.Proofs.YtjpedimndkibnaaGreatDoor.P
