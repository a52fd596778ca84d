/- pp.py and press2.py (wip/tools) wrote this text. -/
import Derived.Test.YtgboplhcjhlabaaDoorPx0
import Derived.Test.YtgboplhcjhlabaaDoorPxS
import Derived.Test.YtgboplhcjhlabaaDoorPx2
namespace Go.Proofs.YtgboplhcjhlabaaDoor.P
open Go.RowKit Go.Proofs.YtgboplhcjhlabaaDoorW.PrintWords Go.Proofs.YtgboplhcjhlabaaDoorW.PrintLast Go.Proofs.YtgboplhcjhlabaaDoorW.PrintMore
attribute [local go_sem] max2_int min2_int max_two min_two max_three min_three max_four min_four
attribute [local go_sem] Instr.field asAgg
set_option linter.unusedVariables false
set_option linter.unusedSimpArgs false

attribute [local go_sem high] eqA44
/-! ### shutterref10_Copy: function 25 -/
def shutterref10_Copy.f (c : Int) (d : Int) (a : List (S44)) (e : Int) (g : Bool) (h : Bool) : Option (Int × Int × (List (S44)) × Int × Bool × Bool) := (some (([] : List (S44)) : List (S44))).bind fun b => (if b.length + a.length < 3518437208883 then (some (c, d, (b ++ a), e, g, h)) else (none))
set_option maxHeartbeats 8000000 in
set_option maxRecDepth 100000 in
theorem shutterref10_Copy.calls (c : Int) (i : Int) (I : Option Addr) (J : Nat) (d : List (S44)) (l : Int) (m : Bool) (n : Bool) (S : Int) (T : Int) (U : List (S44)) (V : Int) (W : Bool) (X : Bool) (w : World) (Q : Kd.C k44 w I d.length d) (P : d.length ≤ J) (h : shutterref10_Copy.f c i d l m n = some (S, T, U, V, W, X)) :
  Calls Tryd.prog 25 #[.agg #[.int .i64 c, .int .i64 i, .slice I d.length J, .int .i64 l, .bool m, .bool n]] w fun e w' => ∃ ae : Value, e = .returned (.agg #[.int .i64 S, .int .i64 T, ae, .int .i64 V, .bool W, .bool X]) ∧ Kd.R k44 44 w' w.heap.size (fun _ => True) ae U ∧ Below w.heap.size w w' := by
 have a7 := Tryd.underlying24
 have Y := Z Q
 have a4 := Z P
 clear Q P
 have HB := Z (Below.refl w.heap.size w)
 have H : ((some (([] : List (S44)) : List (S44))).bind fun v => (if v.length + d.length < 3518437208883 then (some (c, i, (v ++ d), l, m, n)) else (none))) = some (S, T, U, V, W, X) := h
 clear h
 obtain ⟨v, y⟩ : ∃ y_ : List (S44), y_ = (([] : List (S44))) := ⟨_, rfl⟩
 replace H : (if v.length + d.length < 3518437208883 then (some (c, i, (v ++ d), l, m, n)) else (none)) = some (S, T, U, V, W, X) := by first | (rw [y]; with_reducible exact H) | (have G := (Option.bind_some _ _).symm.trans H; rw [y]; with_reducible exact G) | (have G := (Option.bind_some _ _).symm.trans H; with_reducible exact G) | with_reducible exact H | (rw [y]; exact H) | exact H
 have O := Z y
 clear y
 by_cases c2 : v.length + d.length < 3518437208883
 ·rw [if_pos c2] at H
  have af := Z c2
  clear c2
  obtain ⟨x, z⟩ : ∃ y_ : List (S44), y_ = (v ++ d) := ⟨_, rfl⟩
  replace H : (some (c, i, x, l, m, n)) = some (S, T, U, V, W, X) := by first | (rw [z]; with_reducible exact H) | (have G := (Option.bind_some _ _).symm.trans H; rw [z]; with_reducible exact G) | (have G := (Option.bind_some _ _).symm.trans H; with_reducible exact G) | with_reducible exact H | (rw [z]; exact H) | exact H
  have aa := Z z
  clear z
  simp only [Option.some.injEq, Prod.mk.injEq] at H
  obtain ⟨rfl, rfl, rfl, rfl, rfl, rfl⟩ := H
  go_enter Tryd.func25, Tryd.ntmps25
  go_wp2_with (first | ((with_reducible refine gate_dst (N := 1) rfl ?_); refine bx_ 1 24 #[.int .i64 c, .int .i64 i, .slice I d.length J, .int .i64 l, .bool m, .bool n] ?_; intro F hg w3 hbox hb; have a := Z (hbox); have a2 := Z (ln_ hg : w.heap.size ≤ F); have a0 := Z (ln_ hg : w.heap.size ≤ F); replace HB := Z (below_step bl_ hb); clear hb hbox hg) | ((with_reducible refine gate_dst (N := 2) rfl ?_); refine bx_ 2 24 #[.int .i64 0, .int .i64 0, .slice none 0 0, .int .i64 0, .bool false, .bool false] ?_; intro k hg w4 hbox hb; have j := Z (hbox); have a3 := Z (ln_ hg : w.heap.size ≤ k); have a1 := Z (ln_ hg : w.heap.size ≤ k); replace HB := Z (below_step bl_ hb); have K := Z (nl a.out hg); have D := Z (ng a.out hg); replace a := Z (kb a.out hb); clear hb hbox hg) | ((with_reducible refine gate_dst (N := 3) rfl ?_); refine Kd.R_lit k44 _ 44 ?hg (N := 3) ?hd (xs := ([] : List (S44))) (inner := []) (ok := fun _ => True) (okp := fun _ => True) ?hr ?hp (fun _ hk => hk) trivial (Below.refl _ _) (Nat.le_refl _) (by simp) ?_; (case hd => rfl); (case hg => rfl); (case hr => first | (go_simp; done) | (go_simp; rfl)); (case hp => exact (Reps.none _ _)); intro ah w5 L hb hg_ hnew_; clear hg_ hnew_; (first | rw [← O.out] at L | (simp only [Int.reduceToNat] at L; rw [← O.out] at L)); have E := Z (Kd.R_lower L (below_size bl_)); replace a := Z (kb a.out hb); replace j := Z (kb j.out hb); replace HB := Z (below_step bl_ hb); clear hb L; have a5 := K.out; have a6 := D.out; obtain ⟨aK, aM, aN, aP, aQ, aT, aU, aV, aW, aX, aY, aZ⟩ := cells6 a.out) | ((with_reducible refine gate_builtin (b := .append) (xs := #[.tmp 3, .tmp 5]) rfl ?_); at_builtin; refine Kd.R_append_rows k44 (w0 := w) w.heap.size rfl (.tmp 3) (.tmp 5) 22 44 (.agg #[(.bool false), (.bool false), (.bool false), (.int .i64 0), (.bool false), (.int .u8 0)]) 40 rfl Tryd.underlying22 info44 rfl (by decide) (by omega) ah v d _ _ _ (fun _ => True) (fun _ => False) rfl rfl ?aO ?aR (fun _ _ h => h) (fun _ h => h.elim) ?aF ?aB ?aS ?aL ?_; (case aR => repeat (first | exact (Kd.C_below Y.out HB.out) | (with_reducible apply pC))); (case aB => exact bl_); (case aF => exact (fun _ _ => trivial)); (case aO => exact (by (with_reducible repeat apply pR); exact E.out)); (case aS => exact (below_size bl_)); (case aL => have := af.out; omega); intro a8 w9 ho hb hg hat; rw [← aa.out] at ho; replace a := Z (blk_grown (g := F) (o := .cells #[.int .i64 c, .int .i64 i, .slice I d.length J, .int .i64 l, .bool m, .bool n] 24 (0, 0)) (vK a.out) hg (Kd.R_ne E.out a.out (by decide))); replace j := Z (blk_grown (g := k) (o := .cells #[.int .i64 0, .int .i64 0, .slice none 0 0, .int .i64 0, .bool false, .bool false] 24 (0, 0)) (vK j.out) hg (Kd.R_ne E.out j.out (by decide))); replace HB := Z (hb); have M := Z (ho); clear E; clear ho hb hg hat; obtain ⟨A, B, ag⟩ := Kd.R_slice M.out; subst ag; obtain ⟨ai, aj, ak, al, am, an, aw, ax, ay, az, aA, aC⟩ := cells6 a.out; obtain ⟨ao, ap, aq, ar, au, av, aD, aE, aG, aH, aI, aJ⟩ := cells6 j.out))
  refine bodyPost_ret (results_cell_row rfl _ _ k 24 #[.int .i64 c, .int .i64 i, .slice A x.length B, .int .i64 l, .bool m, .bool n] (0, 0) _ rfl (by (with_reducible repeat apply pK); refine blk_put (cs := #[.int .i64 c, .int .i64 i, .slice A x.length B, .int .i64 l, .bool m, .bool false]) ?_ 5 _ rfl; (with_reducible repeat apply pK); refine blk_put (cs := #[.int .i64 c, .int .i64 i, .slice A x.length B, .int .i64 l, .bool false, .bool false]) ?_ 4 _ rfl; (with_reducible repeat apply pK); refine blk_put (cs := #[.int .i64 c, .int .i64 i, .slice A x.length B, .int .i64 0, .bool false, .bool false]) ?_ 3 _ rfl; (with_reducible repeat apply pK); refine blk_put (cs := #[.int .i64 c, .int .i64 i, .slice none 0 0, .int .i64 0, .bool false, .bool false]) ?_ 2 _ rfl; (with_reducible repeat apply pK); refine blk_put (cs := #[.int .i64 c, .int .i64 0, .slice none 0 0, .int .i64 0, .bool false, .bool false]) ?_ 1 _ rfl; (with_reducible repeat apply pK); refine blk_put (cs := #[.int .i64 0, .int .i64 0, .slice none 0 0, .int .i64 0, .bool false, .bool false]) ?_ 0 _ rfl; (with_reducible repeat apply pK); refine blk_far ?_ D.out _; (with_reducible repeat apply pK); exact j.out) Tryd.underlying24 rfl (by kernel_rfl)) rfl ?_
  exact ⟨_, er_, by (with_reducible repeat apply pR); exact Kd.R_mono (f6R k (Kd.R_far (p := ⟨F, 2, none⟩) (Kd.R_types (Kd.R_types M.out a.out (by decide)) j.out (by decide)) (fun _ hk => hk.1.2) (.slice A x.length B)) (fun _ hk => hk.2)) (fun _ hk => trivial), bl_⟩
 ·rw [if_neg c2] at H
  exact absurd H (by simp)

/-! ### shutterref13_Reset: function 30 -/
def shutterref13_Reset.l0 : Nat → Bool → Int → Int → Int → List (S44) → Int → Bool → Bool → Int → Int → List (S44) → Int → Bool → Bool → Option (Int × Int × (List (S44)) × Int × Bool × Bool)
 | 0, _, _, _, _, _, _, _, _, _, _, _, _, _, _ => none
 | k + 1, o, c, i, j, b, l, m, n, d, e, a, f, g, h => if c < (a.length : Int) then (if 0 ≤ c then (if c < (b.length : Int) then (if (rd_T44 b c).f0 = true then (if o = true then (shutterref13_Reset.l0 k o (wrap64 (c + 1)) i j b l m n d e (a.set (c : Int).toNat (⟨(rd_T44 a c).f0, (⟨(rd_T44 a c).f1.f0, (rd_T44 a c).f1.f1, (rd_T44 a c).f1.f2, false⟩ : S28), (rd_T44 a c).f2⟩ : S44)) f g h) else (if ((rd_T44 b c).f1.f0 = true) then (shutterref13_Reset.l0 k o (wrap64 (c + 1)) i j b l m n d e a f g h) else (shutterref13_Reset.l0 k o (wrap64 (c + 1)) i j b l m n d e (a.set (c : Int).toNat (⟨(rd_T44 a c).f0, (⟨(rd_T44 a c).f1.f0, (rd_T44 a c).f1.f1, (rd_T44 a c).f1.f2, false⟩ : S28), (rd_T44 a c).f2⟩ : S44)) f g h))) else (shutterref13_Reset.l0 k o (wrap64 (c + 1)) i j b l m n d e a f g h)) else (none)) else (none)) else (some (d, e, a, f, g, h))
def shutterref13_Reset.f (k : Nat) (b : Int) (c : Int) (h : List (S44)) (d : Int) (e : Bool) (g : Bool) (a1 : Bool) : Option (Int × Int × (List (S44)) × Int × Bool × Bool) := (shutterref10_Copy.f b c h d e g).bind fun a => (shutterref13_Reset.l0 k a1 0 b c h d e g a.1 a.2.1 a.2.2.1 a.2.2.2.1 a.2.2.2.2.1 a.2.2.2.2.2)
theorem shutterref13_Reset.mono_l : ∀ k, (∀ f g i j l m n o p q a b c d, LeO (shutterref13_Reset.l0 k f g i j l m n o p q a b c d) (shutterref13_Reset.l0 (k + 1) f g i j l m n o p q a b c d))
 | 0 => fun _ _ _ _ _ _ _ _ _ _ _ _ _ _ r h => by simp [shutterref13_Reset.l0] at h
 | k + 1 => by
  have e := shutterref13_Reset.mono_l k
  ·intro f g i j l m n o p q a b c d
   unfold shutterref13_Reset.l0
   repeat' first
   | (with_reducible exact e _ _ _ _ _ _ _ _ _ _ _ _ _ _)
   | (with_reducible exact LeO.refl _)
   | (with_reducible exact LeO.none _)
   | (with_reducible refine LeO.ite ?_ ?_)
   | (with_reducible refine LeO.bind ?_ (fun _ => ?_))
   | exact e _ _ _ _ _ _ _ _ _ _ _ _ _ _
   | exact LeO.none _
   | refine LeO.ite ?_ ?_
   | refine LeO.bind ?_ (fun _ => ?_)
theorem shutterref13_Reset.mono : ∀ a0 a1 b c a4 d e k, LeO (shutterref13_Reset.f k a0 a1 b c a4 d e) (shutterref13_Reset.f (k + 1) a0 a1 b c a4 d e) := by
 intro a0 a1 b c a4 d e k
 have a := shutterref13_Reset.mono_l k
 unfold shutterref13_Reset.f
 repeat' first
   | (with_reducible exact a _ _ _ _ _ _ _ _ _ _ _ _ _ _)
   | (with_reducible exact LeO.refl _)
   | (with_reducible exact LeO.none _)
   | (with_reducible refine LeO.ite ?_ ?_)
   | (with_reducible refine LeO.bind ?_ (fun _ => ?_))
   | exact a _ _ _ _ _ _ _ _ _ _ _ _ _ _
   | exact LeO.none _
   | refine LeO.ite ?_ ?_
   | refine LeO.bind ?_ (fun _ => ?_)
set_option maxHeartbeats 8000000 in
set_option maxRecDepth 100000 in
theorem shutterref13_Reset.calls (k : Nat) (s : Int) (u : Int) (aJ : Option Addr) (au : Nat) (c : List (S44)) (x : Int) (y : Bool) (z : Bool) (a1 : Bool) (r1 : Int) (r2 : Int) (r3 : List (S44)) (r4 : Int) (r5 : Bool) (r6 : Bool) (w : World) (bc : Kd.C k44 w aJ c.length c) (a7 : c.length ≤ au) (h : shutterref13_Reset.f k s u c x y z a1 = some (r1, r2, r3, r4, r5, r6)) :
  Calls Tryd.prog 30 #[.agg #[.int .i64 s, .int .i64 u, .slice aJ c.length au, .int .i64 x, .bool y, .bool z], .bool a1] w fun e w' => ∃ ce : Value, e = .returned (.agg #[.int .i64 r1, .int .i64 r2, ce, .int .i64 r4, .bool r5, .bool r6]) ∧ Kd.R k44 44 w' w.heap.size (fun _ => True) ce r3 ∧ Below w.heap.size w w' := by
 have fO := Tryd.underlying24
 have ak := Z bc
 have b3 := Z a7
 clear bc a7
 have HB := Z (Below.refl w.heap.size w)
 have H : ((shutterref10_Copy.f s u c x y z).bind fun ar => (shutterref13_Reset.l0 k a1 0 s u c x y z ar.1 ar.2.1 ar.2.2.1 ar.2.2.2.1 ar.2.2.2.2.1 ar.2.2.2.2.2)) = some (r1, r2, r3, r4, r5, r6) := h
 clear h
 replace H := Option.bind_eq_some_iff.mp H
 obtain ⟨⟨E, F, aL, G, I, J⟩, b9, H⟩ := H
 replace H : (shutterref13_Reset.l0 k a1 0 s u c x y z E F aL G I J) = some (r1, r2, r3, r4, r5, r6) := H
 have A3 := Z b9
 clear b9
 have H' := Z H
 clear H
 go_enter Tryd.func30, Tryd.ntmps30
 go_wp2_with (first | ((with_reducible refine gate_dst (N := 2) rfl ?_); refine bx_ 2 24 #[.int .i64 s, .int .i64 u, .slice aJ c.length au, .int .i64 x, .bool y, .bool z] ?_; intro aF hg w4 hbox hb; have d := Z (hbox); have eW := Z (ln_ hg : w.heap.size ≤ aF); have eT := Z (ln_ hg : w.heap.size ≤ aF); replace HB := Z (below_step bl_ hb); clear hb hbox hg) | ((with_reducible refine gate_dst (N := 4) rfl ?_); refine bx_ 4 24 #[.int .i64 0, .int .i64 0, .slice none 0 0, .int .i64 0, .bool false, .bool false] ?_; intro V hg w5 hbox hb; have q := Z (hbox); have eX := Z (ln_ hg : w.heap.size ≤ V); have eU := Z (ln_ hg : w.heap.size ≤ V); replace HB := Z (below_step bl_ hb); have Y := Z (nl d.out hg); have aa := Z (ng d.out hg); replace d := Z (kb d.out hb); clear hb hbox hg; have fM := Y.out; have fN := aa.out; obtain ⟨bI, bJ, bK, bL, bM, bN, bQ, bR, bS, bT, bU, bV⟩ := cells6 d.out) | ((with_reducible refine gate_callee (f := 25) rfl ?_); refine goesL_ (some 8) rfl rfl Tryd.func25 (by kernel_rfl) rfl #[.agg #[.int .i64 s, .int .i64 u, .slice aJ c.length au, .int .i64 x, .bool y, .bool z]] rfl ag_ ?_; (with_reducible refine (shutterref10_Copy.calls s u _ _ c x y z E F aL G I J _ ?side1 ?side2 A3.out).mono ?_); (case side1 => repeat (first | exact (Kd.C_below ak.out HB.out) | (with_reducible apply pC))); (case side2 => exact b3.out); rintro e w8 ⟨fP, rfl, ca, hb⟩; refine ⟨_, rfl, ?_⟩; have aE := Z (Kd.R_lower ca (below_size bl_)); replace d := Z (kb d.out hb); replace q := Z (kb q.out hb); replace HB := Z (below_step bl_ hb); (try clear hb); (try clear fS); (try clear hk); (try clear hi); (try clear ca)) | ((with_reducible refine gate_dst (N := 5) rfl ?_); refine bx_ 5 24 #[.int .i64 0, .int .i64 0, .slice none 0 0, .int .i64 0, .bool false, .bool false] ?_; intro ad hg w9 hbox hb; replace aE := Z (rb aE.out hb); have D := Z (hbox); have eY := Z (ln_ hg : w.heap.size ≤ ad); have eV := Z (ln_ hg : w.heap.size ≤ ad); replace HB := Z (below_step bl_ hb); have T := Z (nl d.out hg); have ab := Z (ng d.out hg); replace d := Z (kb d.out hb); have U := Z (nl q.out hg); have ac := Z (ng q.out hg); replace q := Z (kb q.out hb); clear hb hbox hg; have e1 := ab.out; have fi := T.out; have e2 := ac.out; have fj := U.out; obtain ⟨bd, be, bf, bg, bh, bi, bj, bk, bl, bm, bn, bo⟩ := cells6 D.out; obtain ⟨bp, bx, cl⟩ := Kd.R_slice aE.out; subst cl))
 go_loopg [6] k (fun kq v6 w' => ∃ (b : Int) (a : List (S44)) (u429002 : Value), v6 = .int .i64 b ∧ Aside0 (shutterref13_Reset.l0 kq a1 b s u c x y z E F a G I J = some (r1, r2, r3, r4, r5, r6)) ∧ Aside0 (kq ≤ k) ∧ Aside0 (Kd.R k44 44 w' w.heap.size (fun _ => True) u429002 a) ∧ Aside0 (w'.heap[aF]? = some (.cells #[.int .i64 s, .int .i64 u, (.slice aJ c.length au), .int .i64 x, .bool y, .bool z] 24 (0, 0))) ∧ Aside0 (w'.heap[V]? = some (.cells #[.int .i64 0, .int .i64 0, (.slice none 0 0), .int .i64 0, .bool false, .bool false] 24 (0, 0))) ∧ Aside0 (w'.heap[ad]? = some (.cells #[.int .i64 E, .int .i64 F, u429002, .int .i64 G, .bool I, .bool J] 24 (0, 0))) ∧ Aside0 (Below w.heap.size w w'))
 case atStart => exact ⟨(0), (aL), (.slice bp aL.length bx), (dn_), H', ⟨Nat.le_refl _⟩, ⟨by (with_reducible repeat apply pR); exact Kd.R_mono (f6R ad (Kd.R_types aE.out D.out (by decide)) (fun _ hk => hk.2)) (fun _ hk => trivial)⟩, ⟨blk_off d.out T.out off2_⟩, ⟨blk_off q.out U.out off2_⟩, ⟨put6 D.out⟩, ⟨bl_⟩⟩
 case round =>
  clear H'
  try clear c1
  try clear c2
  try clear p2
  try clear c3
  try clear c6
  try clear c10
  try clear fR
  try clear bd
  try clear be
  try clear bf
  try clear bg
  try clear bh
  try clear bi
  try clear bI
  try clear bJ
  try clear bK
  try clear bL
  try clear bM
  try clear bN
  try clear bj
  try clear bk
  try clear bl
  try clear bm
  try clear bn
  try clear bo
  try clear bQ
  try clear bR
  try clear bS
  try clear bT
  try clear bU
  try clear bV
  obtain ⟨b, a, u429002, rfl, HA, aI, HO_429002, d, q, D, HB⟩ := hrel
  cases gk with
  | zero => exact absurd HA.out (by simp [shutterref13_Reset.l0])
  | succ k1 =>
   have H := HA.out
   clear HA
   simp only [shutterref13_Reset.l0] at H
   by_cases aM : b < (a.length : Int)
   ·rw [if_pos aM] at H
    have b6 : decide (b < (a.length : Int)) = true := decide_eq_true aM
    clear aM
    by_cases a2 : 0 ≤ b
    ·rw [if_pos a2] at H
     have eZ : decide (0 ≤ b) = true := decide_eq_true a2
     clear a2
     by_cases a3 : b < (c.length : Int)
     ·rw [if_pos a3] at H
      have e0 : decide (b < (c.length : Int)) = true := decide_eq_true a3
      clear a3
      obtain ⟨bv, aQ⟩ : ∃ b_ : Bool, b_ = ((rd_T44 c b).f0) := ⟨_, rfl⟩
      replace H : (if bv = true then (if a1 = true then (shutterref13_Reset.l0 k1 a1 (wrap64 (b + 1)) s u c x y z E F (a.set (b : Int).toNat (⟨(rd_T44 a b).f0, (⟨(rd_T44 a b).f1.f0, (rd_T44 a b).f1.f1, (rd_T44 a b).f1.f2, false⟩ : S28), (rd_T44 a b).f2⟩ : S44)) G I J) else (if ((rd_T44 c b).f1.f0 = true) then (shutterref13_Reset.l0 k1 a1 (wrap64 (b + 1)) s u c x y z E F a G I J) else (shutterref13_Reset.l0 k1 a1 (wrap64 (b + 1)) s u c x y z E F (a.set (b : Int).toNat (⟨(rd_T44 a b).f0, (⟨(rd_T44 a b).f1.f0, (rd_T44 a b).f1.f1, (rd_T44 a b).f1.f2, false⟩ : S28), (rd_T44 a b).f2⟩ : S44)) G I J))) else (shutterref13_Reset.l0 k1 a1 (wrap64 (b + 1)) s u c x y z E F a G I J)) = some (r1, r2, r3, r4, r5, r6) := by rw [← aQ] at H; exact H
      have r := Z aQ
      clear aQ
      by_cases a4 : bv = true
      ·subst a4
       have H1 : (if a1 = true then (shutterref13_Reset.l0 k1 a1 (wrap64 (b + 1)) s u c x y z E F (a.set (b : Int).toNat (⟨(rd_T44 a b).f0, (⟨(rd_T44 a b).f1.f0, (rd_T44 a b).f1.f1, (rd_T44 a b).f1.f2, false⟩ : S28), (rd_T44 a b).f2⟩ : S44)) G I J) else (if ((rd_T44 c b).f1.f0 = true) then (shutterref13_Reset.l0 k1 a1 (wrap64 (b + 1)) s u c x y z E F a G I J) else (shutterref13_Reset.l0 k1 a1 (wrap64 (b + 1)) s u c x y z E F (a.set (b : Int).toNat (⟨(rd_T44 a b).f0, (⟨(rd_T44 a b).f1.f0, (rd_T44 a b).f1.f1, (rd_T44 a b).f1.f2, false⟩ : S28), (rd_T44 a b).f2⟩ : S44)) G I J))) = some (r1, r2, r3, r4, r5, r6) := by rw [if_pos rfl] at H; exact H
       clear H
       have H := H1
       clear H1
       by_cases a5 : a1 = true
       ·subst a5
        have H1 : (shutterref13_Reset.l0 k1 true (wrap64 (b + 1)) s u c x y z E F (a.set (b : Int).toNat (⟨(rd_T44 a b).f0, (⟨(rd_T44 a b).f1.f0, (rd_T44 a b).f1.f1, (rd_T44 a b).f1.f2, false⟩ : S28), (rd_T44 a b).f2⟩ : S44)) G I J) = some (r1, r2, r3, r4, r5, r6) := by rw [if_pos rfl] at H; exact H
        clear H
        have H := H1
        clear H1
        obtain ⟨aZ, aG⟩ : ∃ y_ : List (S44), y_ = (a.set (b : Int).toNat (⟨(rd_T44 a b).f0, (⟨(rd_T44 a b).f1.f0, (rd_T44 a b).f1.f1, (rd_T44 a b).f1.f2, false⟩ : S28), (rd_T44 a b).f2⟩ : S44)) := ⟨_, rfl⟩
        replace H : (shutterref13_Reset.l0 k1 true (wrap64 (b + 1)) s u c x y z E F aZ G I J) = some (r1, r2, r3, r4, r5, r6) := by first | (rw [aG]; with_reducible exact H) | (have aK := (Option.bind_some _ _).symm.trans H; rw [aG]; with_reducible exact aK) | (have aK := (Option.bind_some _ _).symm.trans H; with_reducible exact aK) | with_reducible exact H | (rw [aG]; exact H) | exact H
        have b4 := Z aG
        clear aG
        have H' := Z H
        clear H
        have e3 := ab.out
        have fk := T.out
        have e4 := ac.out
        have fl := U.out
        obtain ⟨cu, cv, cw, cx, cy, cz, dx, dy, dz, dA, dB, dC⟩ := cells6 D.out
        obtain ⟨fA, aO, cm⟩ := Kd.R_slice HO_429002.out
        subst cm
        have e5 := Y.out
        have fm := aa.out
        obtain ⟨cA, cB, cC, cD, cE, cF, dD, dE, dF, dG, dH, dI⟩ := cells6 d.out
        have W : 0 ≤ (b : Int) := od_
        have X : b < (c.length : Int) := od_
        obtain ⟨al, av, i, l, m, A, n, B⟩ := at_T44 ak.out b W X
        (try rw [← r.out] at i)
        (try rw [← r.out] at l)
        (try rw [← r.out] at m)
        (try rw [← r.out] at n)
        cases av
        replace i := (HB.out.cell (bk_ w _ i)).trans i
        replace l := (HB.out.cell (bk_ w _ l)).trans l
        replace m := (HB.out.cell (bk_ w _ m)).trans m
        replace A := (HB.out.cell (bk_ w _ A)).trans A
        replace n := (HB.out.cell (bk_ w _ n)).trans n
        replace B := (HB.out.cell (bk_ w _ B)).trans B
        replace W := eq_true W
        replace X := eq_true X
        have bZ : 0 ≤ (b : Int) := od_
        have b0 : (b : Int) < ((a.length : Int) : Int) := od_
        obtain ⟨Q, fK, bA, bC, cr, fI, br⟩ := Kd.R_form HO_429002.out (by omega)
        (first | cases bA | (injection bA with ea_ en_ ec_; (first | subst ea_ | (injection ea_ with ea_; subst ea_)); subst ec_; clear en_))
        have ch := Z bC
        have fC := Z br
        clear bC cr br
        obtain ⟨fE, b7, bE, am, ao⟩ := Kd.R_elem HO_429002.out z44 (b : Int) bZ b0
        obtain rfl := k44_openM bE
        have eH : wr.cell? ⟨Q, (b : Int).toNat * 6, none⟩ = some (.bool ((rd_T44 a b).f0)) := am 0 _ rfl
        have eI : wr.cell? ⟨Q, (b : Int).toNat * 6 + 1, none⟩ = some (.bool ((rd_T44 a b).f1.f0)) := am 1 _ rfl
        have eJ : wr.cell? ⟨Q, (b : Int).toNat * 6 + 2, none⟩ = some (.bool ((rd_T44 a b).f1.f1)) := am 2 _ rfl
        have eK : wr.cell? ⟨Q, (b : Int).toNat * 6 + 3, none⟩ = some (.int .i64 ((rd_T44 a b).f1.f2)) := am 3 _ rfl
        have eL : wr.cell? ⟨Q, (b : Int).toNat * 6 + 4, none⟩ = some (.bool ((rd_T44 a b).f1.f3)) := am 4 _ rfl
        have eM : wr.cell? ⟨Q, (b : Int).toNat * 6 + 5, none⟩ = some (.int .u8 ((rd_T44 a b).f2)) := am 5 _ rfl
        have ev : wr.frozen? ⟨Q, (b : Int).toNat * 6, none⟩ = false := ao 0
        have ew : wr.frozen? ⟨Q, (b : Int).toNat * 6 + 1, none⟩ = false := ao 1
        have ex : wr.frozen? ⟨Q, (b : Int).toNat * 6 + 2, none⟩ = false := ao 2
        have ey : wr.frozen? ⟨Q, (b : Int).toNat * 6 + 3, none⟩ = false := ao 3
        have ez : wr.frozen? ⟨Q, (b : Int).toNat * 6 + 4, none⟩ = false := ao 4
        have eA : wr.frozen? ⟨Q, (b : Int).toNat * 6 + 5, none⟩ = false := ao 5
        clear b7 am ao bE
        replace bZ := eq_true bZ
        replace b0 := eq_true b0
        have bt := Z (show Kd.R k44 44 wr w.heap.size (fun _ => True) (.slice (some ⟨Q, 0, none⟩) a.length aO) a from (by (with_reducible repeat apply pR); exact HO_429002.out))
        obtain ⟨fF, a8, bF, aS, ba⟩ := Kd.R_elem bt.out z44 (b : Int) (od_) (by have h_ : (b : Int) < ((a.length : Int) : Int) := od_; first | exact h_ | (have e_ := (Kd.R_reads' HO_429002.out).1; omega) | simpa using h_)
        obtain rfl := k44_openM bF
        have aW := Kd.R_seg bt.out (b : Int) (od_) (by have h_ : (b : Int) < ((a.length : Int) : Int) := od_; first | exact h_ | (have e_ := (Kd.R_reads' HO_429002.out).1; omega) | simpa using h_) (seg := [.bool false]) (j := 4) a8 aS (show 5 ≤ 6 from by decide) (x' := (⟨(rd_T44 a b).f0, (⟨(rd_T44 a b).f1.f0, (rd_T44 a b).f1.f1, (rd_T44 a b).f1.f2, false⟩ : S28), (rd_T44 a b).f2⟩ : S44)) (k44_mkM _ _ _ (⟨(rd_T44 a b).f0, (⟨(rd_T44 a b).f1.f0, (rd_T44 a b).f1.f1, (rd_T44 a b).f1.f2, false⟩ : S28), (rd_T44 a b).f2⟩ : S44) ) (fun _ hk => hk)
        have bW := aS 4 _ rfl
        (try simp only [show (k44).sz = 6 from rfl, Nat.mul_one, Nat.add_zero] at bW)
        have bO := ba 4
        (try simp only [show (k44).sz = 6 from rfl, Nat.mul_one, Nat.add_zero] at bO)
        clear a8 aS ba bF
        go_wp2_with (first | ((with_reducible refine gate_store (t := 4) (p := 40) rfl ?_); refine sx_ 4 40 (wr.setCell ⟨Q, (b : Int).toNat * 6 + 4, none⟩ (.bool false)) ?_; intro b1 hw; have hg : wr.grownBy b1 (some Q) := (by rw [hw]; exact aW.2); have hp_ : Kd.R k44 44 b1 w.heap.size (fun _ => True) (.slice (some ⟨Q, 0, none⟩) a.length aO) aZ := (by rw [hw, b4.out]; exact aW.1); clear aW; replace d := Z (blk_grown (g := aF) (o := .cells #[.int .i64 s, .int .i64 u, .slice (some al) c.length au, .int .i64 x, .bool y, .bool z] 24 (0, 0)) (vK d.out) hg (Kd.R_ne HO_429002.out d.out (by decide))); replace q := Z (blk_grown (g := V) (o := .cells #[.int .i64 0, .int .i64 0, .slice none 0 0, .int .i64 0, .bool false, .bool false] 24 (0, 0)) (vK q.out) hg (Kd.R_ne HO_429002.out q.out (by decide))); replace D := Z (blk_grown (g := ad) (o := .cells #[.int .i64 E, .int .i64 F, .slice (some ⟨Q, 0, none⟩) a.length aO, .int .i64 G, .bool I, .bool J] 24 (0, 0)) (vK D.out) hg (Kd.R_ne HO_429002.out D.out (by decide))); replace HO_429002 := Z (hp_); replace HB := Z ((by rw [hw]; exact below_set (HB.out) ch.out : Below w.heap.size w b1)); clear hg hw hp_))
        go_roundg k1
        case measure => have := aI.out; omega
        case rel => exact ⟨(wrap64 (b + 1)), (aZ), (.slice (some ⟨Q, 0, none⟩) a.length aO), (dn_), H', ⟨by have := aI.out; omega⟩, ⟨by (with_reducible repeat apply pR); exact HO_429002.out⟩, ⟨vK d.out⟩, ⟨vK q.out⟩, ⟨vK D.out⟩, ⟨bl_⟩⟩
       ·replace a5 := Bool.eq_false_iff.mpr a5
        subst a5
        have H1 : (if ((rd_T44 c b).f1.f0 = true) then (shutterref13_Reset.l0 k1 false (wrap64 (b + 1)) s u c x y z E F a G I J) else (shutterref13_Reset.l0 k1 false (wrap64 (b + 1)) s u c x y z E F (a.set (b : Int).toNat (⟨(rd_T44 a b).f0, (⟨(rd_T44 a b).f1.f0, (rd_T44 a b).f1.f1, (rd_T44 a b).f1.f2, false⟩ : S28), (rd_T44 a b).f2⟩ : S44)) G I J)) = some (r1, r2, r3, r4, r5, r6) := by rw [if_neg (show ¬ (false = true) by decide)] at H; exact H
        clear H
        have H := H1
        clear H1
        obtain ⟨bw, aR⟩ : ∃ b_ : Bool, b_ = ((rd_T44 c b).f1.f0) := ⟨_, rfl⟩
        replace H : (if (bw = true) then (shutterref13_Reset.l0 k1 false (wrap64 (b + 1)) s u c x y z E F a G I J) else (shutterref13_Reset.l0 k1 false (wrap64 (b + 1)) s u c x y z E F (a.set (b : Int).toNat (⟨(rd_T44 a b).f0, (⟨(rd_T44 a b).f1.f0, (rd_T44 a b).f1.f1, (rd_T44 a b).f1.f2, false⟩ : S28), (rd_T44 a b).f2⟩ : S44)) G I J)) = some (r1, r2, r3, r4, r5, r6) := by rw [← aR] at H; exact H
        have K := Z aR
        clear aR
        by_cases a6 : (bw = true)
        ·subst a6
         have H1 : (shutterref13_Reset.l0 k1 false (wrap64 (b + 1)) s u c x y z E F a G I J) = some (r1, r2, r3, r4, r5, r6) := by rw [if_pos rfl] at H; exact H
         clear H
         have H := H1
         clear H1
         have H' := Z H
         clear H
         have e6 := ab.out
         have fn := T.out
         have e7 := ac.out
         have fo := U.out
         obtain ⟨cG, cH, cI, cJ, cK, cL, dJ, dK, dL, dM, dN, dO⟩ := cells6 D.out
         obtain ⟨cf, cj, cn⟩ := Kd.R_slice HO_429002.out
         subst cn
         have e8 := Y.out
         have fp := aa.out
         obtain ⟨cM, cN, cO, cP, cQ, cR, dP, dQ, dR, dS, dT, dU⟩ := cells6 d.out
         have W : 0 ≤ (b : Int) := od_
         have X : b < (c.length : Int) := od_
         obtain ⟨al, av, i, l, m, A, n, B⟩ := at_T44 ak.out b W X
         (try rw [← r.out] at i)
         (try rw [← K.out] at i)
         (try rw [← r.out] at l)
         (try rw [← K.out] at l)
         (try rw [← r.out] at m)
         (try rw [← K.out] at m)
         (try rw [← r.out] at n)
         (try rw [← K.out] at n)
         cases av
         replace i := (HB.out.cell (bk_ w _ i)).trans i
         replace l := (HB.out.cell (bk_ w _ l)).trans l
         replace m := (HB.out.cell (bk_ w _ m)).trans m
         replace A := (HB.out.cell (bk_ w _ A)).trans A
         replace n := (HB.out.cell (bk_ w _ n)).trans n
         replace B := (HB.out.cell (bk_ w _ B)).trans B
         replace W := eq_true W
         replace X := eq_true X
         have aw : 0 ≤ (b : Int) := od_
         have ax : b < (c.length : Int) := od_
         obtain ⟨aN, aY, L, M, O, ae, P, af⟩ := at_T44 ak.out b aw ax
         (try rw [← r.out] at L)
         (try rw [← K.out] at L)
         (try rw [← r.out] at M)
         (try rw [← K.out] at M)
         (try rw [← r.out] at O)
         (try rw [← K.out] at O)
         (try rw [← r.out] at P)
         (try rw [← K.out] at P)
         obtain rfl : al = aN := (by injection aY)
         replace L := (HB.out.cell (bk_ w _ L)).trans L
         replace M := (HB.out.cell (bk_ w _ M)).trans M
         replace O := (HB.out.cell (bk_ w _ O)).trans O
         replace ae := (HB.out.cell (bk_ w _ ae)).trans ae
         replace P := (HB.out.cell (bk_ w _ P)).trans P
         replace af := (HB.out.cell (bk_ w _ af)).trans af
         replace aw := eq_true aw
         replace ax := eq_true ax
         go_wp2
         go_roundg k1
         case measure => have := aI.out; omega
         case rel => exact ⟨(wrap64 (b + 1)), (a), (.slice cf a.length cj), (dn_), H', ⟨by have := aI.out; omega⟩, ⟨by (with_reducible repeat apply pR); exact HO_429002.out⟩, ⟨vK d.out⟩, ⟨vK q.out⟩, ⟨vK D.out⟩, ⟨bl_⟩⟩
        ·replace a6 := Bool.eq_false_iff.mpr a6
         subst a6
         have H1 : (shutterref13_Reset.l0 k1 false (wrap64 (b + 1)) s u c x y z E F (a.set (b : Int).toNat (⟨(rd_T44 a b).f0, (⟨(rd_T44 a b).f1.f0, (rd_T44 a b).f1.f1, (rd_T44 a b).f1.f2, false⟩ : S28), (rd_T44 a b).f2⟩ : S44)) G I J) = some (r1, r2, r3, r4, r5, r6) := by rw [if_neg (show ¬ (false = true) by decide)] at H; exact H
         clear H
         have H := H1
         clear H1
         obtain ⟨a0, aH⟩ : ∃ y_ : List (S44), y_ = (a.set (b : Int).toNat (⟨(rd_T44 a b).f0, (⟨(rd_T44 a b).f1.f0, (rd_T44 a b).f1.f1, (rd_T44 a b).f1.f2, false⟩ : S28), (rd_T44 a b).f2⟩ : S44)) := ⟨_, rfl⟩
         replace H : (shutterref13_Reset.l0 k1 false (wrap64 (b + 1)) s u c x y z E F a0 G I J) = some (r1, r2, r3, r4, r5, r6) := by first | (rw [aH]; with_reducible exact H) | (have aK := (Option.bind_some _ _).symm.trans H; rw [aH]; with_reducible exact aK) | (have aK := (Option.bind_some _ _).symm.trans H; with_reducible exact aK) | with_reducible exact H | (rw [aH]; exact H) | exact H
         have b5 := Z aH
         clear aH
         have H' := Z H
         clear H
         have e9 := ab.out
         have fq := T.out
         have fa := ac.out
         have fr := U.out
         obtain ⟨cS, cT, cU, cV, cW, cX, dV, dW, dX, dY, dZ, d0⟩ := cells6 D.out
         obtain ⟨fB, aP, co⟩ := Kd.R_slice HO_429002.out
         subst co
         have fb := Y.out
         have fs := aa.out
         obtain ⟨cY, cZ, c0, c4, c5, c7, d1, d2, d3, d4, d5, d6⟩ := cells6 d.out
         have W : 0 ≤ (b : Int) := od_
         have X : b < (c.length : Int) := od_
         obtain ⟨al, av, i, l, m, A, n, B⟩ := at_T44 ak.out b W X
         (try rw [← r.out] at i)
         (try rw [← K.out] at i)
         (try rw [← r.out] at l)
         (try rw [← K.out] at l)
         (try rw [← r.out] at m)
         (try rw [← K.out] at m)
         (try rw [← r.out] at n)
         (try rw [← K.out] at n)
         cases av
         replace i := (HB.out.cell (bk_ w _ i)).trans i
         replace l := (HB.out.cell (bk_ w _ l)).trans l
         replace m := (HB.out.cell (bk_ w _ m)).trans m
         replace A := (HB.out.cell (bk_ w _ A)).trans A
         replace n := (HB.out.cell (bk_ w _ n)).trans n
         replace B := (HB.out.cell (bk_ w _ B)).trans B
         replace W := eq_true W
         replace X := eq_true X
         have aw : 0 ≤ (b : Int) := od_
         have ax : b < (c.length : Int) := od_
         obtain ⟨aN, aY, L, M, O, ae, P, af⟩ := at_T44 ak.out b aw ax
         (try rw [← r.out] at L)
         (try rw [← K.out] at L)
         (try rw [← r.out] at M)
         (try rw [← K.out] at M)
         (try rw [← r.out] at O)
         (try rw [← K.out] at O)
         (try rw [← r.out] at P)
         (try rw [← K.out] at P)
         obtain rfl : al = aN := (by injection aY)
         replace L := (HB.out.cell (bk_ w _ L)).trans L
         replace M := (HB.out.cell (bk_ w _ M)).trans M
         replace O := (HB.out.cell (bk_ w _ O)).trans O
         replace ae := (HB.out.cell (bk_ w _ ae)).trans ae
         replace P := (HB.out.cell (bk_ w _ P)).trans P
         replace af := (HB.out.cell (bk_ w _ af)).trans af
         replace aw := eq_true aw
         replace ax := eq_true ax
         have p37 : 0 ≤ (b : Int) := od_
         have q37 : (b : Int) < ((a.length : Int) : Int) := od_
         obtain ⟨S, fL, bB, bD, ct, fJ, bs⟩ := Kd.R_form HO_429002.out (by omega)
         (first | cases bB | (injection bB with ea_ en_ ec_; (first | subst ea_ | (injection ea_ with ea_; subst ea_)); subst ec_; clear en_))
         have ci := Z bD
         have fD := Z bs
         clear bD ct bs
         obtain ⟨fG, b8, bG, an, ap⟩ := Kd.R_elem HO_429002.out z44 (b : Int) p37 q37
         obtain rfl := k44_openM bG
         have eN : wr.cell? ⟨S, (b : Int).toNat * 6, none⟩ = some (.bool ((rd_T44 a b).f0)) := an 0 _ rfl
         have eO : wr.cell? ⟨S, (b : Int).toNat * 6 + 1, none⟩ = some (.bool ((rd_T44 a b).f1.f0)) := an 1 _ rfl
         have eP : wr.cell? ⟨S, (b : Int).toNat * 6 + 2, none⟩ = some (.bool ((rd_T44 a b).f1.f1)) := an 2 _ rfl
         have eQ : wr.cell? ⟨S, (b : Int).toNat * 6 + 3, none⟩ = some (.int .i64 ((rd_T44 a b).f1.f2)) := an 3 _ rfl
         have eR : wr.cell? ⟨S, (b : Int).toNat * 6 + 4, none⟩ = some (.bool ((rd_T44 a b).f1.f3)) := an 4 _ rfl
         have eS : wr.cell? ⟨S, (b : Int).toNat * 6 + 5, none⟩ = some (.int .u8 ((rd_T44 a b).f2)) := an 5 _ rfl
         have eB : wr.frozen? ⟨S, (b : Int).toNat * 6, none⟩ = false := ap 0
         have eC : wr.frozen? ⟨S, (b : Int).toNat * 6 + 1, none⟩ = false := ap 1
         have eD : wr.frozen? ⟨S, (b : Int).toNat * 6 + 2, none⟩ = false := ap 2
         have eE : wr.frozen? ⟨S, (b : Int).toNat * 6 + 3, none⟩ = false := ap 3
         have eF : wr.frozen? ⟨S, (b : Int).toNat * 6 + 4, none⟩ = false := ap 4
         have eG : wr.frozen? ⟨S, (b : Int).toNat * 6 + 5, none⟩ = false := ap 5
         clear b8 an ap bG
         replace p37 := eq_true p37
         replace q37 := eq_true q37
         have bu := Z (show Kd.R k44 44 wr w.heap.size (fun _ => True) (.slice (some ⟨S, 0, none⟩) a.length aP) a from (by (with_reducible repeat apply pR); exact HO_429002.out))
         obtain ⟨fH, a9, bH, aT, bb⟩ := Kd.R_elem bu.out z44 (b : Int) (od_) (by have h_ : (b : Int) < ((a.length : Int) : Int) := od_; first | exact h_ | (have e_ := (Kd.R_reads' HO_429002.out).1; omega) | simpa using h_)
         obtain rfl := k44_openM bH
         have aX := Kd.R_seg bu.out (b : Int) (od_) (by have h_ : (b : Int) < ((a.length : Int) : Int) := od_; first | exact h_ | (have e_ := (Kd.R_reads' HO_429002.out).1; omega) | simpa using h_) (seg := [.bool false]) (j := 4) a9 aT (show 5 ≤ 6 from by decide) (x' := (⟨(rd_T44 a b).f0, (⟨(rd_T44 a b).f1.f0, (rd_T44 a b).f1.f1, (rd_T44 a b).f1.f2, false⟩ : S28), (rd_T44 a b).f2⟩ : S44)) (k44_mkM _ _ _ (⟨(rd_T44 a b).f0, (⟨(rd_T44 a b).f1.f0, (rd_T44 a b).f1.f1, (rd_T44 a b).f1.f2, false⟩ : S28), (rd_T44 a b).f2⟩ : S44) ) (fun _ hk => hk)
         have bX := aT 4 _ rfl
         (try simp only [show (k44).sz = 6 from rfl, Nat.mul_one, Nat.add_zero] at bX)
         have bP := bb 4
         (try simp only [show (k44).sz = 6 from rfl, Nat.mul_one, Nat.add_zero] at bP)
         clear a9 aT bb bH
         go_wp2_with (first | ((with_reducible refine gate_store (t := 4) (p := 40) rfl ?_); refine sx_ 4 40 (wr.setCell ⟨S, (b : Int).toNat * 6 + 4, none⟩ (.bool false)) ?_; intro b2 hw; have hg : wr.grownBy b2 (some S) := (by rw [hw]; exact aX.2); have hp_ : Kd.R k44 44 b2 w.heap.size (fun _ => True) (.slice (some ⟨S, 0, none⟩) a.length aP) a0 := (by rw [hw, b5.out]; exact aX.1); clear aX; replace d := Z (blk_grown (g := aF) (o := .cells #[.int .i64 s, .int .i64 u, .slice (some al) c.length au, .int .i64 x, .bool y, .bool z] 24 (0, 0)) (vK d.out) hg (Kd.R_ne HO_429002.out d.out (by decide))); replace q := Z (blk_grown (g := V) (o := .cells #[.int .i64 0, .int .i64 0, .slice none 0 0, .int .i64 0, .bool false, .bool false] 24 (0, 0)) (vK q.out) hg (Kd.R_ne HO_429002.out q.out (by decide))); replace D := Z (blk_grown (g := ad) (o := .cells #[.int .i64 E, .int .i64 F, .slice (some ⟨S, 0, none⟩) a.length aP, .int .i64 G, .bool I, .bool J] 24 (0, 0)) (vK D.out) hg (Kd.R_ne HO_429002.out D.out (by decide))); replace HO_429002 := Z (hp_); replace HB := Z ((by rw [hw]; exact below_set (HB.out) ci.out : Below w.heap.size w b2)); clear hg hw hp_))
         go_roundg k1
         case measure => have := aI.out; omega
         case rel => exact ⟨(wrap64 (b + 1)), (a0), (.slice (some ⟨S, 0, none⟩) a.length aP), (dn_), H', ⟨by have := aI.out; omega⟩, ⟨by (with_reducible repeat apply pR); exact HO_429002.out⟩, ⟨vK d.out⟩, ⟨vK q.out⟩, ⟨vK D.out⟩, ⟨bl_⟩⟩
      ·replace a4 := Bool.eq_false_iff.mpr a4
       subst a4
       have H1 : (shutterref13_Reset.l0 k1 a1 (wrap64 (b + 1)) s u c x y z E F a G I J) = some (r1, r2, r3, r4, r5, r6) := by rw [if_neg (show ¬ (false = true) by decide)] at H; exact H
       clear H
       have H := H1
       clear H1
       have H' := Z H
       clear H
       have fc := ab.out
       have ft := T.out
       have fd := ac.out
       have fu := U.out
       obtain ⟨c8, c9, da, db, dc, dd, d7, d8, d9, ea, eb, ec⟩ := cells6 D.out
       obtain ⟨cg, ck, cp⟩ := Kd.R_slice HO_429002.out
       subst cp
       have fe := Y.out
       have fv := aa.out
       obtain ⟨de, df, dg, dh, di, dj, ed, ee, ef, eg, eh, ei⟩ := cells6 d.out
       have W : 0 ≤ (b : Int) := od_
       have X : b < (c.length : Int) := od_
       obtain ⟨al, av, i, l, m, A, n, B⟩ := at_T44 ak.out b W X
       (try rw [← r.out] at i)
       (try rw [← r.out] at l)
       (try rw [← r.out] at m)
       (try rw [← r.out] at n)
       cases av
       replace i := (HB.out.cell (bk_ w _ i)).trans i
       replace l := (HB.out.cell (bk_ w _ l)).trans l
       replace m := (HB.out.cell (bk_ w _ m)).trans m
       replace A := (HB.out.cell (bk_ w _ A)).trans A
       replace n := (HB.out.cell (bk_ w _ n)).trans n
       replace B := (HB.out.cell (bk_ w _ B)).trans B
       replace W := eq_true W
       replace X := eq_true X
       go_wp2
       go_roundg k1
       case measure => have := aI.out; omega
       case rel => exact ⟨(wrap64 (b + 1)), (a), (.slice cg a.length ck), (dn_), H', ⟨by have := aI.out; omega⟩, ⟨by (with_reducible repeat apply pR); exact HO_429002.out⟩, ⟨vK d.out⟩, ⟨vK q.out⟩, ⟨vK D.out⟩, ⟨bl_⟩⟩
     ·rw [if_neg a3] at H
      exact absurd H (by simp)
    ·rw [if_neg a2] at H
     exact absurd H (by simp)
   ·rw [if_neg aM] at H
    have b6 : decide (b < (a.length : Int)) = false := decide_eq_false aM
    clear aM
    simp only [Option.some.injEq, Prod.mk.injEq] at H
    obtain ⟨rfl, rfl, rfl, rfl, rfl, rfl⟩ := H
    have ff := ab.out
    have fw := T.out
    have fg := ac.out
    have fx := U.out
    obtain ⟨dk, dl, dm, dn, dp, dq, ej, ek, el, em, en, eo⟩ := cells6 D.out
    obtain ⟨bq, bz, cq⟩ := Kd.R_slice HO_429002.out
    subst cq
    have fh := aa.out
    have fy := Y.out
    obtain ⟨dr, ds, dt, du, dv, dw, ep, eq, er, es, et, eu⟩ := cells6 q.out
    go_wp2
    refine bodyPost_ret (results_cell_row rfl _ _ V 24 #[.int .i64 E, .int .i64 F, .slice bq a.length bz, .int .i64 G, .bool I, .bool J] (0, 0) _ rfl (put6 q.out) Tryd.underlying24 rfl (by kernel_rfl)) rfl ?_
    exact ⟨_, er_, by (with_reducible repeat apply pR); exact Kd.R_mono (f6R V (Kd.R_types HO_429002.out q.out (by decide)) (fun _ hk => hk.2)) (fun _ hk => trivial), bl_⟩

end Go.Proofs.YtgboplhcjhlabaaDoor.P
