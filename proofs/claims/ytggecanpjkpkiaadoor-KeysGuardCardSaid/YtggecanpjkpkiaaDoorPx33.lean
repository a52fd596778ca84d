/- pp.py and press2.py (wip/tools) wrote this text. -/
import Derived.Test.YtggecanpjkpkiaaDoorPx0
import Derived.Test.YtggecanpjkpkiaaDoorPxS
import Derived.Test.YtggecanpjkpkiaaDoorPx5
namespace Go.Proofs.YtggecanpjkpkiaaDoor.P
open Go.RowKit Go.Proofs.YtggecanpjkpkiaaDoorW.PrintWords Go.Proofs.YtggecanpjkpkiaaDoorW.PrintLast Go.Proofs.YtggecanpjkpkiaaDoorW.PrintMore
attribute [local go_sem] max2_int min2_int max_two min_two max_three min_three max_four min_four
attribute [local go_sem] Instr.field asAgg
set_option linter.unusedVariables false
set_option linter.unusedSimpArgs false

/-! ### keys_set: function 88 -/
def keys_set.j0 : Nat → Int → Bool → Int → Int → List (S35) → Int → Bool → Bool → Option (Int × Int × (List (S35)) × Int × Bool × Bool × Option Er × (List (S164)))
 | 0, _, _, _, _, _, _, _, _ => none
 | k + 1, i, x11, b, c, d, e, g, h => if x11 = true then (some (b, c, d, e, g, h, some (Er.num 7), ([] : List (S164)))) else ((grid_Copy.f b c d e g h).bind fun a => (if i = 16 then (some (a.1, a.2.1, a.2.2.1, a.2.2.2.1, false, (i == 15), none, ([] : List (S164)))) else (some (a.1, a.2.1, a.2.2.1, a.2.2.2.1, a.2.2.2.2.1, (i == 15), none, ([] : List (S164))))))
def keys_set.f (k : Nat) (b : Int) (c : Int) (g : List (S35)) (d : Int) (a : Bool) (e : Bool) (a1 : Int) : Option (Int × Int × (List (S35)) × Int × Bool × Bool × Option Er × (List (S164))) := if a1 = 15 then (keys_set.j0 k a1 a b c g d a e) else (keys_set.j0 k a1 false b c g d a e)
theorem keys_set.mono_l : ∀ k, (∀ b c d e f g i j, LeO (keys_set.j0 k b c d e f g i j) (keys_set.j0 (k + 1) b c d e f g i j))
 | 0 => fun _ _ _ _ _ _ _ _ r h => by simp [keys_set.j0] at h
 | k + 1 => by
  have a := keys_set.mono_l k
  ·intro b c d e f g i j
   unfold keys_set.j0
   repeat' first
   | (with_reducible exact a _ _ _ _ _ _ _ _)
   | (with_reducible exact LeO.refl _)
   | (with_reducible exact LeO.none _)
   | (with_reducible refine LeO.ite ?_ ?_)
   | (with_reducible refine LeO.bind ?_ (fun _ => ?_))
   | exact a _ _ _ _ _ _ _ _
   | exact LeO.none _
   | refine LeO.ite ?_ ?_
   | refine LeO.bind ?_ (fun _ => ?_)
theorem keys_set.mono : ∀ a0 a1 b c a4 d e k, LeO (keys_set.f k a0 a1 b c a4 d e) (keys_set.f (k + 1) a0 a1 b c a4 d e) := by
 intro a0 a1 b c a4 d e k
 have a := keys_set.mono_l k
 unfold keys_set.f
 repeat' first
   | (with_reducible exact a _ _ _ _ _ _ _ _)
   | (with_reducible exact LeO.refl _)
   | (with_reducible exact LeO.none _)
   | (with_reducible refine LeO.ite ?_ ?_)
   | (with_reducible refine LeO.bind ?_ (fun _ => ?_))
   | exact a _ _ _ _ _ _ _ _
   | exact LeO.none _
   | refine LeO.ite ?_ ?_
   | refine LeO.bind ?_ (fun _ => ?_)
set_option maxHeartbeats 8000000 in
set_option maxRecDepth 100000 in
theorem keys_set.calls (k : Nat) (E : Int) (F : Int) (Q : Nat → Prop) (C : Option Addr) (J : Nat) (n : List (S35)) (G : Int) (z : Bool) (I : Bool) (a1 : Int) (r1 : Int) (r2 : Int) (r3 : List (S35)) (r4 : Int) (r5 : Bool) (r6 : Bool) (r7 : Option Er) (r8 : List (S164)) (w : World) (aE : Kd.V k35 35 w w.heap.size (fun k_ => Q k_) (.slice C n.length J) n) (h : keys_set.f k E F n G z I a1 = some (r1, r2, r3, r4, r5, r6, r7, r8)) :
  Calls Tryd.prog 88 #[.agg #[.int .i64 E, .int .i64 F, .slice C n.length J, .int .i64 G, .bool z, .bool I], .int .i64 a1] w fun e w' => ∃ aK aL : Value, e = .returned (.tuple #[.agg #[.int .i64 r1, .int .i64 r2, aK, .int .i64 r4, .bool r5, .bool r6], errW aL r7]) ∧ Kd.V k35 35 w' w.heap.size (fun k_ => (Q k_ ∨ w.heap.size ≤ k_)) aK r3 ∧ Kd.V k164 164 w' w.heap.size (fun k_ => (Q k_ ∨ w.heap.size ≤ k_)) aL r8 ∧ Below w.heap.size w w' := by
 have c3 := Tryd.underlying24
 have c4 := Tryd.underlying28
 have c5 := Tryd.underlying52
 have S := Z (show Kd.V k35 35 w w.heap.size (fun k_ => (Q k_ ∨ w.heap.size ≤ k_)) (.slice C n.length J) n from Kd.V_mono aE (fun k_ hk => .inl hk))
 have HB := Z (Below.refl w.heap.size w)
 have H : (if a1 = 15 then (keys_set.j0 k a1 z E F n G z I) else (keys_set.j0 k a1 false E F n G z I)) = some (r1, r2, r3, r4, r5, r6, r7, r8) := h
 clear h
 have am := Z H
 clear H
 go_enter Tryd.func88, Tryd.ntmps88
 go_upto_region 1 with (first | ((with_reducible refine gate_dst (N := 2) rfl ?_); refine bx_ 2 24 #[.int .i64 E, .int .i64 F, .slice C n.length J, .int .i64 G, .bool z, .bool I] ?_; intro b hg w4 hbox hb; replace S := Z (ve S.out hg hb); have c := Z (hbox); have cP := Z (ln_ hg : w.heap.size ≤ b); have cN := Z (ln_ hg : w.heap.size ≤ b); replace HB := Z (below_step bl_ hb); clear hb hbox hg) | ((with_reducible refine gate_dst (N := 4) rfl ?_); refine bx_ 4 24 #[.int .i64 0, .int .i64 0, .slice none 0 0, .int .i64 0, .bool false, .bool false] ?_; intro a hg w5 hbox hb; replace S := Z (ve S.out hg hb); have g := Z (hbox); have cQ := Z (ln_ hg : w.heap.size ≤ a); have cO := Z (ln_ hg : w.heap.size ≤ a); replace HB := Z (below_step bl_ hb); have i := Z (nl c.out hg); have o := Z (ng c.out hg); replace c := Z (kb c.out hb); clear hb hbox hg))
 (try simp only [Act.put, sA, sB, sC])
 go_cut [11] (fun cS wc => ∃ (kq : Nat) (U : Bool), cS = .bool U ∧ Aside0 (keys_set.j0 kq a1 U E F n G z I = some (r1, r2, r3, r4, r5, r6, r7, r8)) ∧ Aside0 (kq ≤ k) ∧ Aside0 (Kd.V k35 35 wc w.heap.size (fun k_ => (Q k_ ∨ w.heap.size ≤ k_) ∧ k_ ≠ b ∧ k_ ≠ a) (.slice C n.length J) n) ∧ Aside0 (wc.heap[b]? = some (.cells #[.int .i64 E, .int .i64 F, (.slice C n.length J), .int .i64 G, .bool z, .bool I] 24 (0, 0))) ∧ Aside0 (wc.heap[a]? = some (.cells #[.int .i64 0, .int .i64 0, (.slice none 0 0), .int .i64 0, .bool false, .bool false] 24 (0, 0))) ∧ Aside0 (Below w.heap.size w wc))
 case first =>
  have H := am.out
  clear am
  by_cases c6 : a1 = 15
  ·rw [if_pos c6] at H
   have T : (a1 == 15) = true := beq_iff_eq.mpr c6
   have an : (a1 != 15) = false := bne_eq_false_iff_eq.mpr c6
   clear c6
   (first | rw [T] | (simp only [i64_w, i32_w]; rw [T]) | skip)
   have H' := Z H
   clear H
   have c1 := i.out
   have c2 := o.out
   obtain ⟨ao, ap, aq, ar, au, av, aw, ax, ay, az, aA, aB⟩ := cells6 c.out
   go_wp2
   go_meet
   case rel => exact ⟨_, (z), (dn_), H', ⟨by first | omega | exact Nat.le_refl _⟩, ⟨by (with_reducible repeat apply pV); exact Kd.V_mono S.out (fun _ hk => ⟨hk.1.1, ⟨hk.1.2, hk.2⟩⟩)⟩, ⟨vK c.out⟩, ⟨vK g.out⟩, ⟨bl_⟩⟩
  ·rw [if_neg c6] at H
   have T : (a1 == 15) = false := beq_eq_false_iff_ne.mpr c6
   have an : (a1 != 15) = true := bne_iff_ne.mpr c6
   (first | rw [T] | (simp only [i64_w, i32_w]; rw [T]) | skip)
   have H' := Z H
   clear H
   go_wp2
   go_meet
   case rel => exact ⟨_, (false), (dn_), H', ⟨by first | omega | exact Nat.le_refl _⟩, ⟨by (with_reducible repeat apply pV); exact Kd.V_mono S.out (fun _ hk => ⟨hk.1.1, ⟨hk.1.2, hk.2⟩⟩)⟩, ⟨vK c.out⟩, ⟨vK g.out⟩, ⟨bl_⟩⟩
 case rest =>
  clear am
  try clear p2
  try clear c6
  try clear T
  try clear an
  try clear c7
  try clear c8
  try clear ao
  try clear ap
  try clear aq
  try clear ar
  try clear au
  try clear av
  try clear aw
  try clear ax
  try clear ay
  try clear az
  try clear aA
  try clear aB
  obtain ⟨kq, U, rfl, HA, da, HO_1281002, c, g, HB⟩ := hcut
  cases kq with
  | zero => exact absurd HA.out (by simp [keys_set.j0])
  | succ db =>
   have H := HA.out
   clear HA
   simp only [keys_set.j0] at H
   by_cases c9 : U = true
   ·subst c9
    have H1 : (some (E, F, n, G, z, I, some (Er.num 7), ([] : List (S164)))) = some (r1, r2, r3, r4, r5, r6, r7, r8) := by rw [if_pos rfl] at H; exact H
    clear H
    have H := H1
    clear H1
    simp only [Option.some.injEq, Prod.mk.injEq] at H
    obtain ⟨rfl, rfl, rfl, rfl, rfl, rfl, rfl, rfl⟩ := H
    have cV := i.out
    have cY := o.out
    obtain ⟨aO, aP, aQ, aR, aS, aT, bO, bP, bQ, bR, bS, bT⟩ := cells6 c.out
    obtain ⟨aU, aV, aW, aX, aY, aZ, bU, bV, bW, bX, bY, bZ⟩ := cells6 g.out
    go_wp2_with (first | ((with_reducible refine gate_store (t := 24) (p := 4) rfl ?_); refine sx_ 24 4 ((((((wc.setCell ⟨a, 0, none⟩ (.int .i64 E)).setCell ⟨a, 1, none⟩ (.int .i64 F)).setCell ⟨a, 2, none⟩ (.slice C n.length J)).setCell ⟨a, 3, none⟩ (.int .i64 G)).setCell ⟨a, 4, none⟩ (.bool z)).setCell ⟨a, 5, none⟩ (.bool I)) ?_; intro ak hw; replace HO_1281002 : Aside0 (Kd.V k35 35 ak w.heap.size (fun k_ => (Q k_ ∨ w.heap.size ≤ k_) ∧ k_ ≠ b ∧ k_ ≠ a) (.slice C n.length J) n) := ⟨(by rw [hw]; exact (by (with_reducible repeat apply pV); exact V_off HO_1281002.out (fun k_ hk => hk.2.2) off2_ (fun _ hk => ⟨hk.1, ⟨hk.2.1, hk.2.2⟩⟩)))⟩; replace c := Z (sM hw (blk_off c.out i.out off2_)); replace g : Aside0 (ak.heap[a]? = some (.cells #[.int .i64 E, .int .i64 F, .slice C n.length J, .int .i64 G, .bool z, .bool I] 24 (0, 0))) := ⟨by rw [hw]; exact (put6 g.out)⟩; replace HB : Aside0 (Below w.heap.size w ak) := ⟨by rw [hw]; exact bl_⟩; clear hw))
    refine bodyPost_ret (results_ct rfl _ _ a 24 #[.int .i64 E, .int .i64 F, .slice C n.length J, .int .i64 G, .bool z, .bool I] (0, 0) _ rfl (vK g.out) Tryd.underlying24 rfl (by kernel_rfl)) rfl ?_
    exact ⟨_, _, er_, by (with_reducible repeat apply pV); exact Kd.V_mono HO_1281002.out (fun _ hk => hk.1), Kd.R_V (Kd.R_nil _ _ _ 0 _), bl_⟩
   ·replace c9 := Bool.eq_false_iff.mpr c9
    subst c9
    have H1 : ((grid_Copy.f E F n G z I).bind fun O => (if a1 = 16 then (some (O.1, O.2.1, O.2.2.1, O.2.2.2.1, false, (a1 == 15), none, ([] : List (S164)))) else (some (O.1, O.2.1, O.2.2.1, O.2.2.2.1, O.2.2.2.2.1, (a1 == 15), none, ([] : List (S164)))))) = some (r1, r2, r3, r4, r5, r6, r7, r8) := by rw [if_neg (show ¬ (false = true) by decide)] at H; exact H
    clear H
    have H := H1
    clear H1
    replace H := Option.bind_eq_some_iff.mp H
    obtain ⟨⟨j, l, d, m, r, P⟩, al, H⟩ := H
    replace H : (if a1 = 16 then (some (j, l, d, m, false, (a1 == 15), none, ([] : List (S164)))) else (some (j, l, d, m, r, (a1 == 15), none, ([] : List (S164))))) = some (r1, r2, r3, r4, r5, r6, r7, r8) := H
    have aG := Z al
    clear al
    by_cases W : a1 = 16
    ·rw [if_pos W] at H
     have aC : (a1 == 16) = true := beq_iff_eq.mpr W
     have aD : (a1 != 16) = false := bne_eq_false_iff_eq.mpr W
     clear W
     simp only [Option.some.injEq, Prod.mk.injEq] at H
     obtain ⟨rfl, rfl, rfl, rfl, rfl, rfl, rfl, rfl⟩ := H
     have cW := i.out
     have cZ := o.out
     obtain ⟨a0, a2, a3, a4, a5, a6, b0, b1, b2, b3, b4, b5⟩ := cells6 c.out
     go_wp2_with (first | ((with_reducible refine gate_callee (f := 61) rfl ?_); refine goesL_ (some 15) rfl rfl Tryd.func61 (by kernel_rfl) rfl #[.agg #[.int .i64 E, .int .i64 F, .slice C n.length J, .int .i64 G, .bool z, .bool I]] rfl ag_ ?_; (with_reducible refine (grid_Copy.calls E F _ _ n G z I j l d m r P _ ?side1 ?side2 aG.out).mono ?_); (case side1 => repeat (first | exact (Kd.V_reads' HO_1281002.out).2.2 | (with_reducible apply pC))); (case side2 => exact (Kd.V_reads' HO_1281002.out).2.1); rintro e cT ⟨aF, rfl, X, hb⟩; refine ⟨_, rfl, ?_⟩; replace HO_1281002 := Z (Kd.V_elder' (vV HO_1281002.out) (Kd.R_base X) hb); have q := Z (Kd.R_lower (Kd.R_newM (M := fun k_ => (w.heap.size ≤ k_)) X (below_size bl_) (fun k_ h_ => h_)) (below_size bl_)); replace c := Z (kb c.out hb); replace g := Z (kb g.out hb); replace HB := Z (below_step bl_ hb); (try clear hb); (try clear cR); (try clear hk); (try clear hi); (try clear X); obtain ⟨a7, a8, a9, ba, bb, bc, b6, b7, b8, b9, ca, cb⟩ := cells6 c.out; obtain ⟨A, B, aM⟩ := Kd.R_slice q.out; subst aM) | ((with_reducible refine gate_store (t := 24) (p := 2) rfl ?_); refine sx_ 24 2 ((((((cT.setCell ⟨b, 0, none⟩ (.int .i64 j)).setCell ⟨b, 1, none⟩ (.int .i64 l)).setCell ⟨b, 2, none⟩ (.slice A d.length B)).setCell ⟨b, 3, none⟩ (.int .i64 m)).setCell ⟨b, 4, none⟩ (.bool r)).setCell ⟨b, 5, none⟩ (.bool P)) ?_; intro Y hw; replace HO_1281002 : Aside0 (Kd.V k35 35 Y w.heap.size (fun k_ => (Q k_ ∨ w.heap.size ≤ k_) ∧ some k_ ≠ (.slice A d.length B : Value).ownBlock ∧ k_ ≠ b ∧ k_ ≠ a) (.slice C n.length J) n) := ⟨(by rw [hw]; exact (by (with_reducible repeat apply pV); exact V_off HO_1281002.out (fun k_ hk => hk.1.2.1) off2_ (fun _ hk => ⟨hk.1.1, ⟨hk.2, ⟨hk.1.2.1, hk.1.2.2⟩⟩⟩)))⟩; replace q : Aside0 (Kd.R k35 35 Y w.heap.size (fun k_ => (w.heap.size ≤ k_)) (.slice A d.length B) d) := ⟨(by rw [hw]; exact (by (with_reducible repeat apply pR); exact Kd.R_mono (f6R b (Kd.R_types q.out c.out (by decide)) (fun _ hk => hk.2)) (fun _ hk => hk.1.1)))⟩; replace c : Aside0 (Y.heap[b]? = some (.cells #[.int .i64 j, .int .i64 l, .slice A d.length B, .int .i64 m, .bool r, .bool P] 24 (0, 0))) := ⟨by rw [hw]; exact (put6 c.out)⟩; replace g := Z (sM hw (blk_off g.out o.out off2_)); replace HB : Aside0 (Below w.heap.size w Y) := ⟨by rw [hw]; exact bl_⟩; clear hw; obtain ⟨bd, be, bf, bg, bh, bi, cc, cd, ce, cf, cg, ch⟩ := cells6 c.out; obtain ⟨bj, bk, bl, bm, bn, bo, ci, cj, ck, cl, cm, cn⟩ := cells6 g.out) | ((with_reducible refine gate_store (t := 24) (p := 4) rfl ?_); refine sx_ 24 4 ((((((((Y.setCell ⟨b, 4, none⟩ (.bool false)).setCell ⟨b, 5, none⟩ (.bool (a1 == 15))).setCell ⟨a, 0, none⟩ (.int .i64 j)).setCell ⟨a, 1, none⟩ (.int .i64 l)).setCell ⟨a, 2, none⟩ (.slice A d.length B)).setCell ⟨a, 3, none⟩ (.int .i64 m)).setCell ⟨a, 4, none⟩ (.bool false)).setCell ⟨a, 5, none⟩ (.bool (a1 == 15))) ?_; intro ab hw; replace HO_1281002 : Aside0 (Kd.V k35 35 ab w.heap.size (fun k_ => (Q k_ ∨ w.heap.size ≤ k_) ∧ some k_ ≠ (.slice A d.length B : Value).ownBlock ∧ k_ ≠ b ∧ k_ ≠ a) (.slice C n.length J) n) := ⟨(by rw [hw]; exact (by (with_reducible repeat apply pV); exact Kd.V_mono (f6V a (Kd.V_far (p := ⟨b, 5, none⟩) (Kd.V_far (p := ⟨b, 4, none⟩) (Kd.V_mono (Kd.V_mono HO_1281002.out (fun k_ hk => (⟨hk, hk.2.2.1⟩ : _ ∧ k_ ≠ b))) (fun k_ hk => (⟨hk, hk.1.2.2.2⟩ : _ ∧ k_ ≠ a))) (fun _ hk => hk.1.2) (.bool false)) (fun _ hk => hk.1.2) (.bool (a1 == 15))) (fun _ hk => hk.2)) (fun _ hk => ⟨hk.1.1.1, ⟨hk.1.1.2.1, ⟨hk.1.1.2.2.1, hk.1.1.2.2.2⟩⟩⟩)))⟩; replace q : Aside0 (Kd.R k35 35 ab w.heap.size (fun k_ => (w.heap.size ≤ k_)) (.slice A d.length B) d) := ⟨(by rw [hw]; exact (by (with_reducible repeat apply pR); exact Kd.R_mono (f6R a (Kd.R_far (p := ⟨b, 5, none⟩) (Kd.R_far (p := ⟨b, 4, none⟩) (Kd.R_types (Kd.R_types q.out c.out (by decide)) g.out (by decide)) (fun _ hk => hk.1.2) (.bool false)) (fun _ hk => hk.1.2) (.bool (a1 == 15))) (fun _ hk => hk.2)) (fun _ hk => hk.1.1)))⟩; replace c : Aside0 (ab.heap[b]? = some (.cells #[.int .i64 j, .int .i64 l, .slice A d.length B, .int .i64 m, .bool false, .bool (a1 == 15)] 24 (0, 0))) := ⟨(by rw [hw]; exact (by (with_reducible repeat apply pK); refine blk_far ?_ i.out _; (with_reducible repeat apply pK); refine blk_far ?_ i.out _; (with_reducible repeat apply pK); refine blk_far ?_ i.out _; (with_reducible repeat apply pK); refine blk_far ?_ i.out _; (with_reducible repeat apply pK); refine blk_far ?_ i.out _; (with_reducible repeat apply pK); refine blk_far ?_ i.out _; (with_reducible repeat apply pK); refine blk_put (cs := #[.int .i64 j, .int .i64 l, .slice A d.length B, .int .i64 m, .bool false, .bool P]) ?_ 5 _ rfl; (with_reducible repeat apply pK); refine blk_put (cs := #[.int .i64 j, .int .i64 l, .slice A d.length B, .int .i64 m, .bool r, .bool P]) ?_ 4 _ rfl; (with_reducible repeat apply pK); exact c.out))⟩; replace g : Aside0 (ab.heap[a]? = some (.cells #[.int .i64 j, .int .i64 l, .slice A d.length B, .int .i64 m, .bool false, .bool (a1 == 15)] 24 (0, 0))) := ⟨(by rw [hw]; exact (by (with_reducible repeat apply pK); refine blk_put (cs := #[.int .i64 j, .int .i64 l, .slice A d.length B, .int .i64 m, .bool false, .bool false]) ?_ 5 _ rfl; (with_reducible repeat apply pK); refine blk_put (cs := #[.int .i64 j, .int .i64 l, .slice A d.length B, .int .i64 m, .bool false, .bool false]) ?_ 4 _ rfl; (with_reducible repeat apply pK); refine blk_put (cs := #[.int .i64 j, .int .i64 l, .slice A d.length B, .int .i64 0, .bool false, .bool false]) ?_ 3 _ rfl; (with_reducible repeat apply pK); refine blk_put (cs := #[.int .i64 j, .int .i64 l, .slice none 0 0, .int .i64 0, .bool false, .bool false]) ?_ 2 _ rfl; (with_reducible repeat apply pK); refine blk_put (cs := #[.int .i64 j, .int .i64 0, .slice none 0 0, .int .i64 0, .bool false, .bool false]) ?_ 1 _ rfl; (with_reducible repeat apply pK); refine blk_put (cs := #[.int .i64 0, .int .i64 0, .slice none 0 0, .int .i64 0, .bool false, .bool false]) ?_ 0 _ rfl; (with_reducible repeat apply pK); refine blk_far ?_ o.out _; (with_reducible repeat apply pK); refine blk_far ?_ o.out _; (with_reducible repeat apply pK); exact g.out))⟩; replace HB : Aside0 (Below w.heap.size w ab) := ⟨by rw [hw]; exact bl_⟩; clear hw))
     refine bodyPost_ret (results_ct rfl _ _ a 24 #[.int .i64 j, .int .i64 l, .slice A d.length B, .int .i64 m, .bool false, .bool (a1 == 15)] (0, 0) _ rfl (vK g.out) Tryd.underlying24 rfl (by kernel_rfl)) rfl ?_
     exact ⟨_, _, er_, Kd.V_mono (Kd.R_V (by (with_reducible repeat apply pR); exact q.out)) (fun k_ hk => by first | exact ⟨(.inr (hk.1)), hk.2⟩ | exact (.inr (hk))), Kd.R_V (Kd.R_nil _ _ _ 0 _), bl_⟩
    ·rw [if_neg W] at H
     have aC : (a1 == 16) = false := beq_eq_false_iff_ne.mpr W
     have aD : (a1 != 16) = true := bne_iff_ne.mpr W
     simp only [Option.some.injEq, Prod.mk.injEq] at H
     obtain ⟨rfl, rfl, rfl, rfl, rfl, rfl, rfl, rfl⟩ := H
     have cX := i.out
     have c0 := o.out
     obtain ⟨bp, bq, br, bs, bt, bu, co, cp, cq, cr, ct, cu⟩ := cells6 c.out
     go_wp2_with (first | ((with_reducible refine gate_callee (f := 61) rfl ?_); refine goesL_ (some 15) rfl rfl Tryd.func61 (by kernel_rfl) rfl #[.agg #[.int .i64 E, .int .i64 F, .slice C n.length J, .int .i64 G, .bool z, .bool I]] rfl ag_ ?_; (with_reducible refine (grid_Copy.calls E F _ _ n G z I j l d m r P _ ?side1 ?side2 aG.out).mono ?_); (case side1 => repeat (first | exact (Kd.V_reads' HO_1281002.out).2.2 | (with_reducible apply pC))); (case side2 => exact (Kd.V_reads' HO_1281002.out).2.1); rintro e cU ⟨aF, rfl, X, hb⟩; refine ⟨_, rfl, ?_⟩; replace HO_1281002 := Z (Kd.V_elder' (vV HO_1281002.out) (Kd.R_base X) hb); have q := Z (Kd.R_lower (Kd.R_newM (M := fun k_ => (w.heap.size ≤ k_)) X (below_size bl_) (fun k_ h_ => h_)) (below_size bl_)); replace c := Z (kb c.out hb); replace g := Z (kb g.out hb); replace HB := Z (below_step bl_ hb); (try clear hb); (try clear cR); (try clear hk); (try clear hi); (try clear X); obtain ⟨bv, bw, bx, bz, bA, bB, cv, cw, cx, cy, cz, cA⟩ := cells6 c.out; obtain ⟨D, K, aN⟩ := Kd.R_slice q.out; subst aN) | ((with_reducible refine gate_store (t := 24) (p := 2) rfl ?_); refine sx_ 24 2 ((((((cU.setCell ⟨b, 0, none⟩ (.int .i64 j)).setCell ⟨b, 1, none⟩ (.int .i64 l)).setCell ⟨b, 2, none⟩ (.slice D d.length K)).setCell ⟨b, 3, none⟩ (.int .i64 m)).setCell ⟨b, 4, none⟩ (.bool r)).setCell ⟨b, 5, none⟩ (.bool P)) ?_; intro aa hw; replace HO_1281002 : Aside0 (Kd.V k35 35 aa w.heap.size (fun k_ => (Q k_ ∨ w.heap.size ≤ k_) ∧ some k_ ≠ (.slice D d.length K : Value).ownBlock ∧ k_ ≠ b ∧ k_ ≠ a) (.slice C n.length J) n) := ⟨(by rw [hw]; exact (by (with_reducible repeat apply pV); exact V_off HO_1281002.out (fun k_ hk => hk.1.2.1) off2_ (fun _ hk => ⟨hk.1.1, ⟨hk.2, ⟨hk.1.2.1, hk.1.2.2⟩⟩⟩)))⟩; replace q : Aside0 (Kd.R k35 35 aa w.heap.size (fun k_ => (w.heap.size ≤ k_)) (.slice D d.length K) d) := ⟨(by rw [hw]; exact (by (with_reducible repeat apply pR); exact Kd.R_mono (f6R b (Kd.R_types q.out c.out (by decide)) (fun _ hk => hk.2)) (fun _ hk => hk.1.1)))⟩; replace c : Aside0 (aa.heap[b]? = some (.cells #[.int .i64 j, .int .i64 l, .slice D d.length K, .int .i64 m, .bool r, .bool P] 24 (0, 0))) := ⟨by rw [hw]; exact (put6 c.out)⟩; replace g := Z (sM hw (blk_off g.out o.out off2_)); replace HB : Aside0 (Below w.heap.size w aa) := ⟨by rw [hw]; exact bl_⟩; clear hw; obtain ⟨bC, bD, bE, bF, bG, bH, cB, cC, cD, cE, cF, cG⟩ := cells6 c.out; obtain ⟨bI, bJ, bK, bL, bM, bN, cH, cI, cJ, cK, cL, cM⟩ := cells6 g.out) | ((with_reducible refine gate_store (t := 24) (p := 4) rfl ?_); refine sx_ 24 4 (((((((aa.setCell ⟨b, 5, none⟩ (.bool (a1 == 15))).setCell ⟨a, 0, none⟩ (.int .i64 j)).setCell ⟨a, 1, none⟩ (.int .i64 l)).setCell ⟨a, 2, none⟩ (.slice D d.length K)).setCell ⟨a, 3, none⟩ (.int .i64 m)).setCell ⟨a, 4, none⟩ (.bool r)).setCell ⟨a, 5, none⟩ (.bool (a1 == 15))) ?_; intro ac hw; replace HO_1281002 : Aside0 (Kd.V k35 35 ac w.heap.size (fun k_ => (Q k_ ∨ w.heap.size ≤ k_) ∧ some k_ ≠ (.slice D d.length K : Value).ownBlock ∧ k_ ≠ b ∧ k_ ≠ a) (.slice C n.length J) n) := ⟨(by rw [hw]; exact (by (with_reducible repeat apply pV); exact Kd.V_mono (f6V a (Kd.V_far (p := ⟨b, 5, none⟩) (Kd.V_mono (Kd.V_mono HO_1281002.out (fun k_ hk => (⟨hk, hk.2.2.1⟩ : _ ∧ k_ ≠ b))) (fun k_ hk => (⟨hk, hk.1.2.2.2⟩ : _ ∧ k_ ≠ a))) (fun _ hk => hk.1.2) (.bool (a1 == 15))) (fun _ hk => hk.2)) (fun _ hk => ⟨hk.1.1.1, ⟨hk.1.1.2.1, ⟨hk.1.1.2.2.1, hk.1.1.2.2.2⟩⟩⟩)))⟩; replace q : Aside0 (Kd.R k35 35 ac w.heap.size (fun k_ => (w.heap.size ≤ k_)) (.slice D d.length K) d) := ⟨(by rw [hw]; exact (by (with_reducible repeat apply pR); exact Kd.R_mono (f6R a (Kd.R_far (p := ⟨b, 5, none⟩) (Kd.R_types (Kd.R_types q.out c.out (by decide)) g.out (by decide)) (fun _ hk => hk.1.2) (.bool (a1 == 15))) (fun _ hk => hk.2)) (fun _ hk => hk.1.1)))⟩; replace c : Aside0 (ac.heap[b]? = some (.cells #[.int .i64 j, .int .i64 l, .slice D d.length K, .int .i64 m, .bool r, .bool (a1 == 15)] 24 (0, 0))) := ⟨(by rw [hw]; exact (by (with_reducible repeat apply pK); refine blk_far ?_ i.out _; (with_reducible repeat apply pK); refine blk_far ?_ i.out _; (with_reducible repeat apply pK); refine blk_far ?_ i.out _; (with_reducible repeat apply pK); refine blk_far ?_ i.out _; (with_reducible repeat apply pK); refine blk_far ?_ i.out _; (with_reducible repeat apply pK); refine blk_far ?_ i.out _; (with_reducible repeat apply pK); refine blk_put (cs := #[.int .i64 j, .int .i64 l, .slice D d.length K, .int .i64 m, .bool r, .bool P]) ?_ 5 _ rfl; (with_reducible repeat apply pK); exact c.out))⟩; replace g : Aside0 (ac.heap[a]? = some (.cells #[.int .i64 j, .int .i64 l, .slice D d.length K, .int .i64 m, .bool r, .bool (a1 == 15)] 24 (0, 0))) := ⟨(by rw [hw]; exact (by (with_reducible repeat apply pK); refine blk_put (cs := #[.int .i64 j, .int .i64 l, .slice D d.length K, .int .i64 m, .bool r, .bool false]) ?_ 5 _ rfl; (with_reducible repeat apply pK); refine blk_put (cs := #[.int .i64 j, .int .i64 l, .slice D d.length K, .int .i64 m, .bool false, .bool false]) ?_ 4 _ rfl; (with_reducible repeat apply pK); refine blk_put (cs := #[.int .i64 j, .int .i64 l, .slice D d.length K, .int .i64 0, .bool false, .bool false]) ?_ 3 _ rfl; (with_reducible repeat apply pK); refine blk_put (cs := #[.int .i64 j, .int .i64 l, .slice none 0 0, .int .i64 0, .bool false, .bool false]) ?_ 2 _ rfl; (with_reducible repeat apply pK); refine blk_put (cs := #[.int .i64 j, .int .i64 0, .slice none 0 0, .int .i64 0, .bool false, .bool false]) ?_ 1 _ rfl; (with_reducible repeat apply pK); refine blk_put (cs := #[.int .i64 0, .int .i64 0, .slice none 0 0, .int .i64 0, .bool false, .bool false]) ?_ 0 _ rfl; (with_reducible repeat apply pK); refine blk_far ?_ o.out _; (with_reducible repeat apply pK); exact g.out))⟩; replace HB : Aside0 (Below w.heap.size w ac) := ⟨by rw [hw]; exact bl_⟩; clear hw))
     refine bodyPost_ret (results_ct rfl _ _ a 24 #[.int .i64 j, .int .i64 l, .slice D d.length K, .int .i64 m, .bool r, .bool (a1 == 15)] (0, 0) _ rfl (vK g.out) Tryd.underlying24 rfl (by kernel_rfl)) rfl ?_
     exact ⟨_, _, er_, Kd.V_mono (Kd.R_V (by (with_reducible repeat apply pR); exact q.out)) (fun k_ hk => by first | exact ⟨(.inr (hk.1)), hk.2⟩ | exact (.inr (hk))), Kd.R_V (Kd.R_nil _ _ _ 0 _), bl_⟩
end Go.Proofs.YtggecanpjkpkiaaDoor.P
