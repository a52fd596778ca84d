/- pp.py and press2.py (wip/tools) wrote this text. -/
import Derived.Test.YtgboplhcjhlabaaDoorPx0
import Derived.Test.YtgboplhcjhlabaaDoorPxS
import Derived.Test.YtgboplhcjhlabaaDoorPx1
import Derived.Test.YtgboplhcjhlabaaDoorPx3
import Derived.Test.YtgboplhcjhlabaaDoorPx5
import Derived.Test.YtgboplhcjhlabaaDoorPx6
import Derived.Test.YtgboplhcjhlabaaDoorPx8
namespace Go.Proofs.YtgboplhcjhlabaaDoor.P
open Go.RowKit Go.Proofs.YtgboplhcjhlabaaDoorW.PrintWords Go.Proofs.YtgboplhcjhlabaaDoorW.PrintLast Go.Proofs.YtgboplhcjhlabaaDoorW.PrintMore
attribute [local go_sem] max2_int min2_int max_two min_two max_three min_three max_four min_four
attribute [local go_sem] Instr.field asAgg
set_option linter.unusedVariables false
set_option linter.unusedSimpArgs false

attribute [local go_sem high] eqA28
theorem V_ne_9 {α : Type} {d : Kd α} {e base g n c : Nat} {ok : Nat → Prop} {W : World} {ad : Addr} {xs : List α} (h : Kd.V d e W base ok (.slice (some ad) n c) xs) (hg : ∀ k, ok k → k ≠ g) (hn : 0 < n) (hs : 0 < d.sz) : ad.block ≠ g := by
 intro he
 have hl := (Kd.V_at h).1
 have hC : d.C { W with heap := W.heap.setIfInBounds g (.cells #[] 0) } (some ad) xs.length xs := (Kd.V_at h).2.2 _ (fun k hk _ => by simp [Ne.symm (hg k hk)])
 obtain ⟨ad', hea, hc⟩ := hC.2.2 (by omega)
 injection hea with hea
 subst hea
 obtain ⟨cl, hcl, _, hcell⟩ := hc 0 _ (List.getElem?_eq_getElem (by omega))
 have a := hcell 0 _ (List.getElem?_eq_getElem (by omega))
 rw [Nat.zero_mul, Nat.zero_add, Addr.add_zero'] at a
 subst he
 by_cases hlt : ad.block < W.heap.size <;> simp [World.cell?, hlt] at a
/-! ### paint_One: function 16 -/
section
/-- paint.One: what is wrong, or the order done on a copy. -/
def paint_One.f (k : Nat) (a : Int) (b : Int) (h : List (S44)) (i : Int) (c : Bool) (g : Bool) (a1 : Int) (j : Int) (r : List Int) (l : Bool) (m : Bool) (n : Int) (o : Bool) (p : Int) (q : Int) : Option (Int × Int × (List (S44)) × Int × Bool × Bool × Int × Option Er × List S184) :=
 (grid_Size.f a b h i c g).bind fun sz => (order_Right.f k j r l m n o p q sz).bind fun e => if e.1.isSome = true then some (a, b, h, i, c, g, a1, e.1, e.2) else (if h.length ≤ 16383 then (doF k a b h i c g a1 j r l m n o p q).bind fun d => some (a, b, d.1, d.2.1, c, g, d.2.2, none, []) else none)
theorem paint_One.mono (a0 a1 : Int) (a : List (S44)) (b : Int) (a4 c : Bool) (d e : Int) (g : List Int) (h i : Bool) (j : Int) (l : Bool) (b3 b4 : Int) (k : Nat) : LeO (paint_One.f k a0 a1 a b a4 c d e g h i j l b3 b4) (paint_One.f (k + 1) a0 a1 a b a4 c d e g h i j l b3 b4) := by
 unfold paint_One.f doF
 repeat' first
  | (with_reducible exact order_Right.mono _ _ _ _ _ _ _ _ _ _)
  | (with_reducible exact grid_Span.mono _ _ _ _ _ _ _ _ _)
  | (with_reducible exact LeO.refl _)
  | (with_reducible exact LeO.none _)
  | (with_reducible refine LeO.ite ?_ ?_)
  | (with_reducible refine LeO.bind ?_ (fun _ => ?_))
set_option maxHeartbeats 8000000 in
set_option maxRecDepth 100000 in
theorem paint_One.calls (k : Nat) (o : Int) (p : Int) (P : Nat → Prop) (z : Option Addr) (J : Nat) (j : List (S44)) (s : Int) (q : Bool) (r : Bool) (a1 : Int) (B : Int) (L : Option Addr) (M : Nat) (x : List Int) (D : Bool) (E : Bool) (F : Int) (G : Bool) (H : Int) (I : Int) (r1 : Int) (r2 : Int) (r3 : List (S44)) (r4 : Int) (r5 : Bool) (r6 : Bool) (r7 : Int) (r8 : Option Er) (r9 : List S184) (w : World) (aa : Kd.V k44 44 w w.heap.size (fun k_ => P k_) (.slice z j.length J) j) (Y : Kd.C (Kd.int .u8) w L x.length x) (X : x.length ≤ M) (h : paint_One.f k o p j s q r a1 B x D E F G H I = some (r1, r2, r3, r4, r5, r6, r7, r8, r9)) :
  Calls Tryd.prog 16 #[.agg #[.int .i64 o, .int .i64 p, .slice z j.length J, .int .i64 s, .bool q, .bool r], .int .i64 a1, .agg #[.int .i64 B, .slice L x.length M, .bool D, .bool E, .int .i64 F, .bool G, .int .i64 H, .int .u8 I]] w fun e w' => ∃ al am : Value, e = .returned (.tuple #[.agg #[.int .i64 r1, .int .i64 r2, al, .int .i64 r4, .bool r5, .bool r6], .int .i64 r7, errW am r8]) ∧ Kd.V k44 44 w' w.heap.size (fun k_ => (P k_ ∨ w.heap.size ≤ k_)) al r3 ∧ Kd.V k184 184 w' w.heap.size (fun k_ => (P k_ ∨ w.heap.size ≤ k_)) am r9 ∧ Below w.heap.size w w' := by
 unfold paint_One.f at h
 obtain ⟨sz, hsz, h⟩ := Option.bind_eq_some_iff.mp h
 obtain ⟨⟨e1, e2⟩, hR, h⟩ := Option.bind_eq_some_iff.mp h
 have HZ := Z hsz
 have HR := Z hR
 have HS := Z (show Kd.V k44 44 w w.heap.size P (.slice z j.length J) j from aa)
 have HT := Z Y
 have HTc := Z X
 have HB := Z (Below.refl w.heap.size w)
 have HH := Z h
 have hu := Tryd.underlying24
 have bb := Tryd.underlying30
 have bc := Tryd.underlying71
 have bd := Tryd.underlying34
 have be := Tryd.underlying28
 clear hsz hR aa Y X h
 go_enter Tryd.func16, Tryd.ntmps16
 go_wp2_with (first | ((with_reducible refine gate_dst (N := 3) rfl ?_); refine bx_ 3 24 #[.int .i64 o, .int .i64 p, .slice z j.length J, .int .i64 s, .bool q, .bool r] ?_; intro W hg bf hbox hb; replace HS := Z (ve HS.out hg hb); have b := Z (hbox); have a7 := Z (le_new hg (below_size bl_) : w.heap.size ≤ W); replace HB := Z (below_step bl_ hb); clear hb hbox hg) | ((with_reducible refine gate_dst (N := 5) rfl ?_); refine bx_ 5 30 #[.int .i64 B, .slice L x.length M, .bool D, .bool E, .int .i64 F, .bool G, .int .i64 H, .int .u8 I] ?_; intro T hg bg hbox hb; replace HS := Z (ve HS.out hg hb); have a := Z (hbox); have a8 := Z (le_new hg (below_size bl_) : w.heap.size ≤ T); have ba := Z (nl b.out hg); replace b := Z (kb b.out hb); replace HB := Z (below_step bl_ hb); clear hb hbox hg) | ((with_reducible refine gate_dst (N := 6) rfl ?_); refine bx_ 6 24 #[.int .i64 0, .int .i64 0, .slice none 0 0, .int .i64 0, .bool false, .bool false] ?_; intro g3 hg bh hbox hb; replace HS := Z (ve HS.out hg hb); have c := Z (hbox); have a9 := Z (le_new hg (below_size bl_) : w.heap.size ≤ g3); have aS := Z (nl b.out hg); replace b := Z (kb b.out hb); have aT := Z (nl a.out hg); replace a := Z (kb a.out hb); replace HB := Z (below_step bl_ hb); clear hb hbox hg))
 have d := Z (Kd.V_below HS.out (below_drew (Below.refl _ _)))
 have g := Z (blk_drew b.out)
 have l := Z (blk_drew a.out)
 have m := Z (blk_drew c.out)
 have u := Z (below_drew1 HB.out)
 clear HS b a c HB
 have HS := d
 have b := g
 have a := l
 have c := m
 have HB := u
 clear d g l m u
 refine start_ (n := 5) (S := fun w' => w'.cell? ⟨T, 0, none⟩ = some (.int .i64 B) ∧ w'.cell? ⟨T, 1, none⟩ = some (.slice L x.length M) ∧ w'.cell? ⟨T, 2, none⟩ = some (.bool D) ∧ w'.cell? ⟨T, 3, none⟩ = some (.bool E) ∧ w'.cell? ⟨T, 4, none⟩ = some (.int .i64 F) ∧ w'.cell? ⟨T, 5, none⟩ = some (.bool G) ∧ w'.cell? ⟨T, 6, none⟩ = some (.int .i64 H) ∧ w'.cell? ⟨T, 7, none⟩ = some (.int .u8 I) ∧ w'.cell? ⟨W, 0, none⟩ = some (.int .i64 o) ∧ w'.cell? ⟨W, 1, none⟩ = some (.int .i64 p) ∧ w'.cell? ⟨W, 2, none⟩ = some (.slice z j.length J) ∧ w'.cell? ⟨W, 3, none⟩ = some (.int .i64 s) ∧ w'.cell? ⟨W, 4, none⟩ = some (.bool q) ∧ w'.cell? ⟨W, 5, none⟩ = some (.bool r)) (ds := []) (bv 5 0) (by kernel_rfl) rfl rfl ⟨(blk_cell a.out 0).trans rfl, (blk_cell a.out 1).trans rfl, (blk_cell a.out 2).trans rfl, (blk_cell a.out 3).trans rfl, (blk_cell a.out 4).trans rfl, (blk_cell a.out 5).trans rfl, (blk_cell a.out 6).trans rfl, (blk_cell a.out 7).trans rfl, (blk_cell b.out 0).trans rfl, (blk_cell b.out 1).trans rfl, (blk_cell b.out 2).trans rfl, (blk_cell b.out 3).trans rfl, (blk_cell b.out 4).trans rfl, (blk_cell b.out 5).trans rfl⟩ (fun hHeld => ?_)
 generalize World.drew _ = w5 at HS b a c HB hHeld ⊢
 refine take_ (i := 0) (N := some 11) (v := ?_) (a' := ?_) (bv 5 1) rfl rfl (by kernel_rfl) (fun _ _ _ h => h) (Or.inl ⟨by rfl, ?_⟩) hHeld ?_ ?_
 rotate_left
 ·rintro w' ⟨s0, s1, s2, s3, s4, s5, s6, s7, s8, s9, aG, aH, aI, aJ⟩
  go_simp
  with_reducible rfl
 rotate_left
 ·simp only [Act.put, sA, sB, sC, i64_w, i32_w]
  rfl
 refine take_ (i := 1) (N := some 12) (v := ?_) (a' := ?_) (bv 5 3) rfl rfl (by kernel_rfl) (fun _ _ _ h => h) (Or.inl ⟨by rfl, ?_⟩) hHeld ?_ ?_
 rotate_left
 ·rintro w' ⟨s0, s1, s2, s3, s4, s5, s6, s7, s8, s9, aG, aH, aI, aJ⟩
  go_simp
  with_reducible rfl
 rotate_left
 ·simp only [Act.put, sA, sB, sC, i64_w, i32_w]
  rfl
 refine one_ (i := 2) (N := some 13) (bv 5 7) rfl rfl (by kernel_rfl) (by decide) (fun K hK => ?_)
 refine goes_ Tryd.func37 (by kernel_rfl) rfl #[.agg #[.int .i64 o, .int .i64 p, .slice z j.length J, .int .i64 s, .bool q, .bool r]] (by rfl) rfl rfl (by simp only [List.map_toArray, List.map_cons, List.map_nil]; rfl) ?_
 with_reducible refine (grid_Size.calls o p _ _ j s q r sz _ ?side1 ?side2 HZ.out).mono ?_
 (case side1 => exact (Kd.V_reads' HS.out).2.2)
 (case side2 => exact (Kd.V_reads' HS.out).2.1)
 rintro e w8 ⟨rfl, hb⟩
 refine ⟨_, rfl, ?_⟩
 have d := Z (vb HS.out hb)
 have g := Z (kb b.out hb)
 have l := Z (kb a.out hb)
 have m := Z (kb c.out hb)
 have u := Z (below_step bl_ hb)
 clear HS b a c HB hb
 have HS := d
 have b := g
 have a := l
 have c := m
 have HB := u
 clear d g l m u
 refine hK.out _ _ ⟨(blk_cell a.out 0).trans rfl, (blk_cell a.out 1).trans rfl, (blk_cell a.out 2).trans rfl, (blk_cell a.out 3).trans rfl, (blk_cell a.out 4).trans rfl, (blk_cell a.out 5).trans rfl, (blk_cell a.out 6).trans rfl, (blk_cell a.out 7).trans rfl, (blk_cell b.out 0).trans rfl, (blk_cell b.out 1).trans rfl, (blk_cell b.out 2).trans rfl, (blk_cell b.out 3).trans rfl, (blk_cell b.out 4).trans rfl, (blk_cell b.out 5).trans rfl⟩ (fun hHeld => ?_)
 clear hK K
 refine norm_ (a' := ?_) ?_ ?_
 rotate_left
 ·show Act.put _ (some 13) _ = _
  simp only [Act.put, sA, sB, sC, i64_w, i32_w]
  rfl
 refine one_ (i := 3) (N := some 14) (bv 5 15) rfl rfl (by kernel_rfl) (by decide) (fun K hK => ?_)
 refine goes_ Tryd.func36 (by kernel_rfl) rfl #[.agg #[.int .i64 B, .slice L x.length M, .bool D, .bool E, .int .i64 F, .bool G, .int .i64 H, .int .u8 I], .int .i64 sz] (by rfl) rfl rfl (by simp only [List.map_toArray, List.map_cons, List.map_nil]; rfl) ?_
 with_reducible refine (order_Right.calls k B _ _ x D E F G H I sz e1 e2 _ ?side1 ?side2 HR.out).mono ?_
 (case side1 => exact Kd.C_below HT.out HB.out)
 (case side2 => exact HTc.out)
 rintro e w9 ⟨ev, rfl, he, hb⟩
 refine ⟨_, rfl, ?_⟩
 have HE := Z (Kd.V_mono (ok' := fun k_ => (w.heap.size ≤ k_) ∧ k_ ≠ g3) he (fun k_ hk_ => ⟨Nat.le_trans (below_size bl_) hk_, Kd.freshB c.out k_ hk_⟩))
 clear he
 have d := Z (vb HS.out hb)
 have g := Z (kb b.out hb)
 have l := Z (kb a.out hb)
 have m := Z (kb c.out hb)
 have u := Z (below_step bl_ hb)
 clear HS b a c HB hb
 have HS := d
 have b := g
 have a := l
 have c := m
 have HB := u
 clear d g l m u
 refine hK.out _ _ ⟨(blk_cell a.out 0).trans rfl, (blk_cell a.out 1).trans rfl, (blk_cell a.out 2).trans rfl, (blk_cell a.out 3).trans rfl, (blk_cell a.out 4).trans rfl, (blk_cell a.out 5).trans rfl, (blk_cell a.out 6).trans rfl, (blk_cell a.out 7).trans rfl, (blk_cell b.out 0).trans rfl, (blk_cell b.out 1).trans rfl, (blk_cell b.out 2).trans rfl, (blk_cell b.out 3).trans rfl, (blk_cell b.out 4).trans rfl, (blk_cell b.out 5).trans rfl⟩ (fun hHeld => ?_)
 clear hK K
 refine norm_ (a' := ?_) ?_ ?_
 rotate_left
 ·show Act.put _ (some 14) _ = _
  simp only [Act.put, sA, sB, sC, i64_w, i32_w]
  rfl
 refine pure_ (i := 4) (N := some 9) (v := ?_) (a' := ?_) (bv 5 31) rfl rfl (by kernel_rfl) (fun _ _ _ h => h) (Or.inl ⟨by rfl, ?_⟩) ?_ ?_
 rotate_left
 ·intro w'
  go_simp
  with_reducible rfl
 rotate_left
 ·simp only [Act.put, sA, sB, sC, i64_w, i32_w]
  rfl
 refine done_ (by kernel_rfl) ?_
 have h := HH.out
 clear HH
 obtain ⟨z0, z1, z2, z3, z4, z5, y0, y1, y2, y3, y4, y5⟩ := cells6 b.out
 obtain ⟨s0, s1, s2, s3, s4, s5, p0, p1, p2, p3, p4, p5⟩ := cells6 c.out
 cases e1 with
 | some er =>
  simp only [Option.isSome_some, if_true, Option.some.injEq, Prod.mk.injEq] at h
  obtain ⟨rfl, rfl, rfl, rfl, rfl, rfl, rfl, rfl, rfl⟩ := h
  simp only [errW_some]
  go_wp2
  refine bodyPost_ret (results_ctt rfl _ _ g3 24 #[.int .i64 o, .int .i64 p, .slice z j.length J, .int .i64 s, .bool q, .bool r] (0, 0) _ rfl (put6 c.out) Tryd.underlying24 rfl (by kernel_rfl)) rfl ?_
  exact ⟨_, ev, rfl, V_off HS.out (fun _ hk => hk.2) off2_ (fun _ hk => .inl hk.1.1.1), V_off HE.out (fun _ hk => hk.2) off2_ (fun _ hk => .inr hk.1), bl_⟩
 | none =>
  simp only [Option.isSome_none, Bool.false_eq_true, if_false] at h
  by_cases hn : j.length ≤ 16383
  ·rw [if_pos hn] at h
   obtain ⟨⟨l', cu', at'⟩, hD, h⟩ := Option.bind_eq_some_iff.mp h
   simp only [Option.some.injEq, Prod.mk.injEq] at h
   obtain ⟨rfl, rfl, rfl, rfl, rfl, rfl, rfl, rfl, rfl⟩ := h
   have HC := Z (show grid_Copy.f o p j s q r = some (o, p, j, s, q, r) by unfold grid_Copy.f slices_Clone_shutter_api_Cell_shutter_api_Cell.f; rw [if_pos hn]; rfl)
   have HP := Z (doF_pos hD)
   have HD := Z hD
   simp only [errW_none]
   clear hn hD HE
   go_wp2_with (first | ((with_reducible refine gate_callee (f := 38) rfl ?_); refine goesL_ (some 21) rfl rfl Tryd.func38 (by kernel_rfl) rfl #[.agg #[.int .i64 o, .int .i64 p, .slice z j.length J, .int .i64 s, .bool q, .bool r]] rfl ag_ ?_; (with_reducible refine (grid_Copy.calls o p _ _ j s q r o p j s q r _ ?side1 ?side2 HC.out).mono ?_); (case side1 => exact (Kd.V_reads' HS.out).2.2); (case side2 => exact (Kd.V_reads' HS.out).2.1); rintro e w6 ⟨v1, rfl, R, hb⟩; refine ⟨_, rfl, ?_⟩; obtain ⟨Ao, co, eo⟩ := Kd.R_slice R; subst eo; obtain ⟨go, co', eo', gb, gl, cl, HG⟩ := Kd.R_form R HP.out; (first | cases eo' | (injection eo' with ea_ en_ ec_; (first | subst ea_ | (injection ea_ with ea_; subst ea_)); subst ec_; clear en_)); have NG := Z (Nat.lt_of_lt_of_le (blk_lt c.out) (Kd.R_base R go rfl) : g3 < go); have GO := Z (Nat.le_trans (below_size bl_) (Kd.R_base R go rfl) : w.heap.size ≤ go); clear z0 z1 z2 z3 z4 z5 y0 y1 y2 y3 y4 y5 s0 s1 s2 s3 s4 s5 p0 p1 p2 p3 p4 p5 HG gb gl cl; have HO := Z (Kd.R_lower R (below_size bl_)); replace a := Z (kb a.out hb); replace c := Z (kb c.out hb); replace HB := Z (below_step bl_ hb); clear HS b R hb) | ((with_reducible refine gate_dst (N := 24) rfl ?_); refine bx_ 24 71 #[.int .i64 o, .int .i64 p, .slice (some ⟨go, 0, none⟩) j.length co, .int .i64 s, .bool q, .bool r, .int .i64 a1] ?_; intro Q hg bi hbox hb; replace HO := Z (rb HO.out hb); replace a := Z (kb a.out hb); have A := Z (nl c.out hg); replace c := Z (kb c.out hb); have y := Z (hbox); have ai := Z (le_new hg (below_size bl_) : w.heap.size ≤ Q); replace HB := Z (below_step bl_ hb); obtain ⟨ap, aq, ar, au, av, aw, ax, ay, aK, aL, aM, aN, aO, aP, aQ, aR⟩ := cells8 a.out; clear hb hbox hg) | ((with_reducible refine gate_callee (f := 39) rfl ?_); refine goesL_ (some 27) rfl rfl Tryd.func39 (by kernel_rfl) rfl #[.pointer (some ⟨Q, 0, none⟩), .agg #[.int .i64 B, .slice L x.length M, .bool D, .bool E, .int .i64 F, .bool G, .int .i64 H, .int .u8 I]] rfl ag_ ?_; (with_reducible refine (brush_do k o p go co j s q r a1 L M B x D E F G H I l' cu' at' Q _ _ _ y.out HO.out ?side1 HD.out).mono ?_); (case side1 => intro W' hF; exact Kd.C_below HT.out (hF.below HB.out ai.out GO.out)); rintro e w8 ⟨rfl, aj, ho_, hF⟩; refine ⟨_, rfl, ?_⟩; clear ap aq ar au av aw ax ay aK aL aM aN aO aP aQ aR; replace c := Z ((hF.out.block g3 (blk_lt c.out) A.out (Nat.ne_of_lt NG.out)).trans c.out); replace HB := Z (hF.out.below HB.out ai.out GO.out); clear a HO y hF; have HO := ho_; have y := aj; clear ho_ aj))
   have d := Z (Kd.R_drew HO.out)
   have g := Z (blk_drew c.out)
   have l := Z (blk_drew y.out)
   have m := Z (below_drew1 HB.out)
   clear HO c y HB
   have HO := d
   have c := g
   have y := l
   have HB := m
   clear d g l m
   refine start_ (n := 11) (S := fun w' => w'.cell? ⟨Q, 0, none⟩ = some (.int .i64 o) ∧ w'.cell? ⟨Q, 1, none⟩ = some (.int .i64 p) ∧ w'.cell? ⟨Q, 2, none⟩ = some (.slice (some ⟨go, 0, none⟩) j.length co) ∧ w'.cell? ⟨Q, 3, none⟩ = some (.int .i64 cu') ∧ w'.cell? ⟨Q, 4, none⟩ = some (.bool q) ∧ w'.cell? ⟨Q, 5, none⟩ = some (.bool r) ∧ w'.cell? ⟨Q, 6, none⟩ = some (.int .i64 at')) (ds := []) (bv 11 0) (by kernel_rfl) rfl rfl ⟨(blk_cell y.out 0).trans rfl, (blk_cell y.out 1).trans rfl, (blk_cell y.out 2).trans rfl, (blk_cell y.out 3).trans rfl, (blk_cell y.out 4).trans rfl, (blk_cell y.out 5).trans rfl, (blk_cell y.out 6).trans rfl⟩ (fun hHeld => ?_)
   generalize World.drew _ = w9 at HO c y HB hHeld ⊢
   obtain ⟨t0, t1, t2, t3, t4, t5, p0, p1, p2, p3, p4, p5⟩ := cells6 c.out
   refine pure_ (i := 0) (N := some 28) (v := ?_) (a' := ?_) (bv 11 1) rfl rfl (by kernel_rfl) (fun _ _ _ h => h) (Or.inl ⟨by rfl, ?_⟩) ?_ ?_
   rotate_left
   ·intro w'
    go_simp
    with_reducible rfl
   rotate_left
   ·simp only [Act.put, sA, sB, sC, i64_w, i32_w]
    rfl
   refine pure_ (i := 1) (N := some 29) (v := ?_) (a' := ?_) (bv 11 3) rfl rfl (by kernel_rfl) (fun _ _ _ h => h) (Or.inl ⟨by rfl, ?_⟩) ?_ ?_
   rotate_left
   ·intro w'
    go_simp
    with_reducible rfl
   rotate_left
   ·simp only [Act.put, sA, sB, sC, i64_w, i32_w]
    rfl
   refine pure_ (i := 2) (N := some 30) (v := ?_) (a' := ?_) (bv 11 7) rfl rfl (by kernel_rfl) (fun _ _ _ h => h) (Or.inl ⟨by rfl, ?_⟩) ?_ ?_
   rotate_left
   ·intro w'
    go_simp
    with_reducible rfl
   rotate_left
   ·simp only [Act.put, sA, sB, sC, i64_w, i32_w]
    rfl
   refine pure_ (i := 4) (N := some 32) (v := ?_) (a' := ?_) (bv 11 23) rfl rfl (by kernel_rfl) (fun _ _ _ h => h) (Or.inl ⟨by rfl, ?_⟩) ?_ ?_
   rotate_left
   ·intro w'
    go_simp
    with_reducible rfl
   rotate_left
   ·simp only [Act.put, sA, sB, sC, i64_w, i32_w]
    rfl
   refine pure_ (i := 5) (N := some 33) (v := ?_) (a' := ?_) (bv 11 55) rfl rfl (by kernel_rfl) (fun _ _ _ h => h) (Or.inl ⟨by rfl, ?_⟩) ?_ ?_
   rotate_left
   ·intro w'
    go_simp
    with_reducible rfl
   rotate_left
   ·simp only [Act.put, sA, sB, sC, i64_w, i32_w]
    rfl
   refine pure_ (i := 6) (N := some 34) (v := ?_) (a' := ?_) (bv 11 119) rfl rfl (by kernel_rfl) (fun _ _ _ h => h) (Or.inl ⟨by rfl, ?_⟩) ?_ ?_
   rotate_left
   ·intro w'
    go_simp
    with_reducible rfl
   rotate_left
   ·simp only [Act.put, sA, sB, sC, i64_w, i32_w]
    rfl
   refine take_ (i := 3) (N := some 31) (v := ?_) (a' := ?_) (bv 11 127) rfl rfl (by kernel_rfl) (fun _ _ _ h => h) (Or.inl ⟨by rfl, ?_⟩) hHeld ?_ ?_
   rotate_left
   ·rintro w' ⟨s0, s1, s2, s3, s4, s5, s6⟩
    go_simp
    with_reducible rfl
   rotate_left
   ·simp only [Act.put, sA, sB, sC, i64_w, i32_w]
    rfl
   refine take_ (i := 7) (N := some 35) (v := ?_) (a' := ?_) (bv 11 255) rfl rfl (by kernel_rfl) (fun _ _ _ h => h) (Or.inl ⟨by rfl, ?_⟩) hHeld ?_ ?_
   rotate_left
   ·rintro w' ⟨s0, s1, s2, s3, s4, s5, s6⟩
    go_simp
    with_reducible rfl
   rotate_left
   ·simp only [Act.put, sA, sB, sC, i64_w, i32_w]
    rfl
   refine one_ (i := 8) (N := none) (bv 11 511) rfl rfl (by kernel_rfl) (by decide) (fun K hK => ?_)
   refine skip_ (w1 := ?_) (by rfl) rfl ?_ ?_
   rotate_left
   ·go_simp
    rfl
   refine hK.out _ _ ⟨cl_offB hHeld.1 A.out.symm off2_, cl_offB hHeld.2.1 A.out.symm off2_, cl_offB hHeld.2.2.1 A.out.symm off2_, cl_offB hHeld.2.2.2.1 A.out.symm off2_, cl_offB hHeld.2.2.2.2.1 A.out.symm off2_, cl_offB hHeld.2.2.2.2.2.1 A.out.symm off2_, cl_offB hHeld.2.2.2.2.2.2 A.out.symm off2_⟩ (fun hHeld => ?_)
   clear hK K
   refine pure_ (i := 9) (N := some 7) (v := ?_) (a' := ?_) (bv 11 1023) rfl rfl (by kernel_rfl) (fun _ _ _ h => h) (Or.inl ⟨by rfl, ?_⟩) ?_ ?_
   rotate_left
   ·intro w'
    go_simp
    with_reducible rfl
   rotate_left
   ·simp only [Act.put, sA, sB, sC, i64_w, i32_w]
    rfl
   refine pure_ (i := 10) (N := some 8) (v := ?_) (a' := ?_) (bv 11 2047) rfl rfl (by kernel_rfl) (fun _ _ _ h => h) (Or.inl ⟨by rfl, ?_⟩) ?_ ?_
   rotate_left
   ·intro w'
    go_simp
    with_reducible rfl
   rotate_left
   ·simp only [Act.put, sA, sB, sC, i64_w, i32_w]
    rfl
   refine done_ (by kernel_rfl) ?_
   try go_wp2
   refine bodyPost_ret (results_ctt rfl _ _ g3 24 #[.int .i64 o, .int .i64 p, .slice (some ⟨go, 0, none⟩) j.length co, .int .i64 cu', .bool q, .bool r] (0, 0) _ rfl (put6 c.out) Tryd.underlying24 rfl (by kernel_rfl)) rfl ?_
   exact ⟨_, .slice none 0 0, rfl, Kd.V_mono (Kd.R_V (Kd.R_reok (ok := fun k_ => w.heap.size ≤ k_) rfl (R_off HO.out c.out (by decide) off2_) (fun k_ e_ => Kd.R_base (R_off HO.out c.out (by decide) off2_) k_ e_))) (fun _ hk => .inr hk), Kd.V_nil _ _ _ _ _, bl_⟩
  ·rw [if_neg hn] at h; cases h
end

/-! ### api_Code: function 18 -/
section
/-- api.Code: an error's number, a spot's number, or 0. -/
def api_Code.f (a : Option Er) (b : List S184) : Option Int :=
 match a with
 | none => some 0
 | some (.num n) => some n
 | some .spot => match b with | [s] => some s.f1 | _ => none
set_option maxRecDepth 100000 in
set_option maxHeartbeats 4000000 in
theorem api_Code.calls (c : Option Er) (g : Option Addr) (d : Nat) (a : List S184) (r : Int) (w : World) (b : Kd.C k184 w g a.length a) (i : a.length ≤ d) (hG : LaidG w) (h : api_Code.f c a = some r) :
  Calls Tryd.prog 18 #[errW (.slice g a.length d) c] w fun e w' => e = .returned (.int .i64 r) ∧ Below w.heap.size w w' := by
 rcases c with _ | q
 ·obtain rfl := Option.some.inj h
  rw [errW_none]
  clear b h
  go_enter Tryd.func18, Tryd.ntmps18
  go_wp2
  go_ret
  exact ⟨rfl, below_alloc (Below.refl _ _) _⟩
 ·cases q with
  | num n =>
   obtain rfl := Option.some.inj h
   rw [errW_some, show (Er.num n).ty = 75 from rfl, show (Er.num n).pay _ = .int .i64 n from rfl]
   clear b h
   have HA := Z (EA.hit n ⟨w.heap.size, 0, none⟩ (.int .i64 0) (w.alloc (.cells #[.int .i64 0] 75)) (laidG_alloc hG _) (by simp) (by rw [frozen?_alloc_cells]; simp [World.frozen?]))
   go_enter Tryd.func18, Tryd.ntmps18
   go_wp2_with (go_at_call 42; refine HA.out.mono ?_; rintro e w' ⟨rfl, rfl⟩)
   go_ret
   exact ⟨rfl, below_alloc (below_alloc (below_alloc (below_alloc (below_alloc (Below.refl _ _) _) _) _) _) _⟩
  | spot =>
   match a, b, i, h with
   | [s], hr, hc, h =>
    obtain rfl := Option.some.inj h
    obtain ⟨ad, rfl, k, j⟩ := spot_at hr
    rw [errW_some, show Er.spot.ty = 83 from rfl, show Er.spot.pay (.slice (some ad) ([s] : List S184).length d) = .pointer (some ad) from rfl]
    have hlt := bk_ w ⟨ad.block, ad.off + 1, none⟩ j
    have HA := Z (EA.spot ad s.f1 ⟨w.heap.size, 0, none⟩ (.int .i64 0) (w.alloc (.cells #[.int .i64 0] 75)) (by rw [World.cell?_alloc_lt _ _ ⟨ad.block, ad.off + 1, none⟩ hlt]; exact j) (laidG_alloc hG _) (by simp) (by rw [frozen?_alloc_cells]; simp [World.frozen?]))
    clear k j hr hlt h
    go_enter Tryd.func18, Tryd.ntmps18
    go_wp2_with (go_at_call 42; refine HA.out.mono ?_; rintro e w' ⟨rfl, rfl⟩)
    go_ret
    exact ⟨rfl, below_alloc (below_alloc (below_alloc (below_alloc (below_alloc (Below.refl _ _) _) _) _) _) _⟩
end

/-! ### shutterref10_Sized: function 45 -/
def shutterref10_Sized.f (a0 : Int) (a1 : Int) : Option (Bool) := if a0 ≥ 1 then (if a1 ≥ 1 then (if a0 ≤ 16383 then (if a1 ≤ 16383 then (some (decide ((wrap64 (a0 * a1)) ≤ 16383))) else (some false)) else (some false)) else (some false)) else (some false)
set_option maxHeartbeats 8000000 in
set_option maxRecDepth 100000 in
theorem shutterref10_Sized.calls (a0 : Int) (a1 : Int) (r : Bool) (w : World) (h : shutterref10_Sized.f a0 a1 = some r) :
  Calls Tryd.prog 45 #[.int .i64 a0, .int .i64 a1] w fun e w' => e = .returned (.bool r) ∧ Drawn0 w w' := by
 have H : (if a0 ≥ 1 then (if a1 ≥ 1 then (if a0 ≤ 16383 then (if a1 ≤ 16383 then (some (decide ((wrap64 (a0 * a1)) ≤ 16383))) else (some false)) else (some false)) else (some false)) else (some false)) = some r := h
 clear h
 by_cases c3 : a0 ≥ 1
 ·rw [if_pos c3] at H
  have a : decide (1 ≤ a0) = true := decide_eq_true c3
  clear c3
  by_cases c4 : a1 ≥ 1
  ·rw [if_pos c4] at H
   have b : decide (1 ≤ a1) = true := decide_eq_true c4
   clear c4
   by_cases c5 : a0 ≤ 16383
   ·rw [if_pos c5] at H
    have c : decide (a0 ≤ 16383) = true := decide_eq_true c5
    clear c5
    by_cases c6 : a1 ≤ 16383
    ·rw [if_pos c6] at H
     have d : decide (a1 ≤ 16383) = true := decide_eq_true c6
     clear c6
     obtain rfl := Option.some.inj H
     go_enter Tryd.func45, Tryd.ntmps45
     go_wp2
     go_ret
     exact ⟨dn_, dr_⟩
    ·rw [if_neg c6] at H
     have d : decide (a1 ≤ 16383) = false := decide_eq_false c6
     clear c6
     obtain rfl := Option.some.inj H
     go_enter Tryd.func45, Tryd.ntmps45
     go_wp2
     go_ret
     exact ⟨dn_, dr_⟩
   ·rw [if_neg c5] at H
    have c : decide (a0 ≤ 16383) = false := decide_eq_false c5
    clear c5
    obtain rfl := Option.some.inj H
    go_enter Tryd.func45, Tryd.ntmps45
    go_wp2
    go_ret
    exact ⟨dn_, dr_⟩
  ·rw [if_neg c4] at H
   have b : decide (1 ≤ a1) = false := decide_eq_false c4
   clear c4
   obtain rfl := Option.some.inj H
   go_enter Tryd.func45, Tryd.ntmps45
   go_wp2
   go_ret
   exact ⟨dn_, dr_⟩
 ·rw [if_neg c3] at H
  have a : decide (1 ≤ a0) = false := decide_eq_false c3
  clear c3
  obtain rfl := Option.some.inj H
  go_enter Tryd.func45, Tryd.ntmps45
  go_wp2
  go_ret
  exact ⟨dn_, dr_⟩

/-! ### shutterref05_Char: function 41 -/
def shutterref05_Char.f (a0 : Int) : Option (Bool) := if a0 = 0 then (some true) else (if a0 = 28 then (some true) else (if a0 = 30 then (some true) else (if a0 ≥ 64 then (some (decide (a0 ≤ 254))) else (some false))))
set_option maxHeartbeats 8000000 in
set_option maxRecDepth 100000 in
theorem shutterref05_Char.calls (a0 : Int) (r : Bool) (w : World) (h : shutterref05_Char.f a0 = some r) :
  Calls Tryd.prog 41 #[.int .u8 a0] w fun e w' => e = .returned (.bool r) ∧ Drawn0 w w' := by
 have H : (if a0 = 0 then (some true) else (if a0 = 28 then (some true) else (if a0 = 30 then (some true) else (if a0 ≥ 64 then (some (decide (a0 ≤ 254))) else (some false))))) = some r := h
 clear h
 by_cases c2 : a0 = 0
 ·rw [if_pos c2] at H
  have a : (a0 == 0) = true := beq_iff_eq.mpr c2
  have b : (a0 != 0) = false := bne_eq_false_iff_eq.mpr c2
  clear c2
  obtain rfl := Option.some.inj H
  go_enter Tryd.func41, Tryd.ntmps41
  go_wp2
  go_ret
  exact ⟨dn_, dr_⟩
 ·rw [if_neg c2] at H
  have a : (a0 == 0) = false := beq_eq_false_iff_ne.mpr c2
  have b : (a0 != 0) = true := bne_iff_ne.mpr c2
  by_cases c3 : a0 = 28
  ·rw [if_pos c3] at H
   have c : (a0 == 28) = true := beq_iff_eq.mpr c3
   have d : (a0 != 28) = false := bne_eq_false_iff_eq.mpr c3
   clear c3
   obtain rfl := Option.some.inj H
   go_enter Tryd.func41, Tryd.ntmps41
   go_wp2
   go_ret
   exact ⟨dn_, dr_⟩
  ·rw [if_neg c3] at H
   have c : (a0 == 28) = false := beq_eq_false_iff_ne.mpr c3
   have d : (a0 != 28) = true := bne_iff_ne.mpr c3
   by_cases c4 : a0 = 30
   ·rw [if_pos c4] at H
    have g : (a0 == 30) = true := beq_iff_eq.mpr c4
    have i : (a0 != 30) = false := bne_eq_false_iff_eq.mpr c4
    clear c4
    obtain rfl := Option.some.inj H
    go_enter Tryd.func41, Tryd.ntmps41
    go_wp2
    go_ret
    exact ⟨dn_, dr_⟩
   ·rw [if_neg c4] at H
    have g : (a0 == 30) = false := beq_eq_false_iff_ne.mpr c4
    have i : (a0 != 30) = true := bne_iff_ne.mpr c4
    by_cases c5 : a0 ≥ 64
    ·rw [if_pos c5] at H
     have j : decide (64 ≤ a0) = true := decide_eq_true c5
     clear c5
     obtain rfl := Option.some.inj H
     go_enter Tryd.func41, Tryd.ntmps41
     go_wp2
     go_ret
     exact ⟨dn_, dr_⟩
    ·rw [if_neg c5] at H
     have j : decide (64 ≤ a0) = false := decide_eq_false c5
     clear c5
     obtain rfl := Option.some.inj H
     go_enter Tryd.func41, Tryd.ntmps41
     go_wp2
     go_ret
     exact ⟨dn_, dr_⟩

/-! ### shutterref10_Cell: function 46 -/
def shutterref10_Cell.f (c : Bool) (d : Bool) (e : Bool) (a : Int) (g : Bool) (b : Int) : Option (Bool) := if c = true then (if b = 0 then (if a ≥ 0 then (some (decide (a ≤ 3))) else (some false)) else (some false)) else (if (!d && (!e && (a == 0 && (!g)))) = true then ((shutterref05_Char.f b).bind fun h => (some h)) else (some false))
set_option maxHeartbeats 8000000 in
set_option maxRecDepth 100000 in
theorem shutterref10_Cell.calls (u : Bool) (d : Bool) (g : Bool) (a : Int) (i : Bool) (c : Int) (r : Bool) (w : World) (h : shutterref10_Cell.f u d g a i c = some r) :
  Calls Tryd.prog 46 #[.agg #[.bool u, .bool d, .bool g, .int .i64 a, .bool i, .int .u8 c]] w fun e w' => e = .returned (.bool r) ∧ Below w.heap.size w w' := by
 have aQ := Tryd.underlying44
 have aP := Tryd.underlying28
 have HB := Z (Below.refl w.heap.size w)
 have H : (if u = true then (if c = 0 then (if a ≥ 0 then (some (decide (a ≤ 3))) else (some false)) else (some false)) else (if (!d && (!g && (a == 0 && (!i)))) = true then ((shutterref05_Char.f c).bind fun o => (some o)) else (some false))) = some r := h
 clear h
 by_cases c2 : u = true
 ·subst c2
  have H1 : (if c = 0 then (if a ≥ 0 then (some (decide (a ≤ 3))) else (some false)) else (some false)) = some r := by rw [if_pos rfl] at H; exact H
  clear H
  have H := H1
  clear H1
  by_cases c3 : c = 0
  ·rw [if_pos c3] at H
   have y : (c == 0) = true := beq_iff_eq.mpr c3
   have z : (c != 0) = false := bne_eq_false_iff_eq.mpr c3
   clear c3
   by_cases c4 : a ≥ 0
   ·rw [if_pos c4] at H
    have A : decide (0 ≤ a) = true := decide_eq_true c4
    clear c4
    obtain rfl := Option.some.inj H
    go_enter Tryd.func46, Tryd.ntmps46
    go_wp2_with (first | ((with_reducible refine gate_dst (N := 1) rfl ?_); refine bx_ 1 44 #[.bool true, .bool d, .bool g, .int .i64 a, .bool i, .int .u8 c] ?_; intro b hg w5 hbox hb; have j := Z (hbox); have q := Z (ln_ hg : w.heap.size ≤ b); have p := Z (ln_ hg : w.heap.size ≤ b); replace HB := Z (below_step bl_ hb); clear hb hbox hg; obtain ⟨ap, aq, ar, au, av, aw, aD, aE, aF, aG, aH, aI⟩ := cells6 j.out))
    go_ret
    exact ⟨er_, bl_⟩
   ·rw [if_neg c4] at H
    have A : decide (0 ≤ a) = false := decide_eq_false c4
    clear c4
    obtain rfl := Option.some.inj H
    go_enter Tryd.func46, Tryd.ntmps46
    go_wp2_with (first | ((with_reducible refine gate_dst (N := 1) rfl ?_); refine bx_ 1 44 #[.bool true, .bool d, .bool g, .int .i64 a, .bool i, .int .u8 c] ?_; intro b hg w7 hbox hb; have j := Z (hbox); have q := Z (ln_ hg : w.heap.size ≤ b); have p := Z (ln_ hg : w.heap.size ≤ b); replace HB := Z (below_step bl_ hb); clear hb hbox hg; obtain ⟨ax, ay, az, aA, aB, aC, aJ, aK, aL, aM, aN, aO⟩ := cells6 j.out))
    go_ret
    exact ⟨er_, bl_⟩
  ·rw [if_neg c3] at H
   have y : (c == 0) = false := beq_eq_false_iff_ne.mpr c3
   have z : (c != 0) = true := bne_iff_ne.mpr c3
   obtain rfl := Option.some.inj H
   go_enter Tryd.func46, Tryd.ntmps46
   go_wp2_with (first | ((with_reducible refine gate_dst (N := 1) rfl ?_); refine bx_ 1 44 #[.bool true, .bool d, .bool g, .int .i64 a, .bool i, .int .u8 c] ?_; intro b hg w9 hbox hb; have j := Z (hbox); have q := Z (ln_ hg : w.heap.size ≤ b); have p := Z (ln_ hg : w.heap.size ≤ b); replace HB := Z (below_step bl_ hb); clear hb hbox hg; obtain ⟨B, C, D, E, F, G, V, W, X, Y, aa, ab⟩ := cells6 j.out))
   go_ret
   exact ⟨er_, bl_⟩
 ·replace c2 := Bool.eq_false_iff.mpr c2
  subst c2
  have H1 : (if (!d && (!g && (a == 0 && (!i)))) = true then ((shutterref05_Char.f c).bind fun o => (some o)) else (some false)) = some r := by rw [if_neg (show ¬ (false = true) by decide)] at H; exact H
  clear H
  have H := H1
  clear H1
  by_cases s : (!d && (!g && (a == 0 && (!i)))) = true
  ·rw [if_pos s] at H
   have x : (!d && (!g && (a == 0 && (!i)))) = true := s
   clear s
   replace H := Option.bind_eq_some_iff.mp H
   obtain ⟨o, v, H⟩ := H
   replace H : (some o) = some r := H
   have ao := Z v
   clear v
   obtain rfl := Option.some.inj H
   go_enter Tryd.func46, Tryd.ntmps46
   go_wp2_with (first | ((with_reducible refine gate_dst (N := 1) rfl ?_); refine bx_ 1 44 #[.bool false, .bool d, .bool g, .int .i64 a, .bool i, .int .u8 c] ?_; intro b hg aR hbox hb; have j := Z (hbox); have q := Z (ln_ hg : w.heap.size ≤ b); have p := Z (ln_ hg : w.heap.size ≤ b); replace HB := Z (below_step bl_ hb); clear hb hbox hg; obtain ⟨I, J, K, L, M, O, ac, ad, ae, af, ag, ah⟩ := cells6 j.out) | (go_at_call 41; (with_reducible refine (shutterref05_Char.calls c o _ ao.out).mono ?_); rintro e w' ⟨rfl, ⟨nd, rfl⟩⟩))
   go_ret
   exact ⟨er_, bl_⟩
  ·rw [if_neg s] at H
   have x : (!d && (!g && (a == 0 && (!i)))) = false := by simpa using s
   clear s
   obtain rfl := Option.some.inj H
   go_enter Tryd.func46, Tryd.ntmps46
   go_wp2_with (first | ((with_reducible refine gate_dst (N := 1) rfl ?_); refine bx_ 1 44 #[.bool false, .bool d, .bool g, .int .i64 a, .bool i, .int .u8 c] ?_; intro b hg aS hbox hb; have j := Z (hbox); have q := Z (ln_ hg : w.heap.size ≤ b); have p := Z (ln_ hg : w.heap.size ≤ b); replace HB := Z (below_step bl_ hb); clear hb hbox hg; obtain ⟨P, Q, R, S, T, U, ai, aj, ak, al, am, an⟩ := cells6 j.out))
   go_ret
   exact ⟨er_, bl_⟩

end Go.Proofs.YtgboplhcjhlabaaDoor.P
