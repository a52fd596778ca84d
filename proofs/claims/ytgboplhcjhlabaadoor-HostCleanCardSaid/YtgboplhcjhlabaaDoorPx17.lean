/- pp.py and press2.py (wip/tools) wrote this text. -/
import Derived.Test.YtgboplhcjhlabaaDoorPx0
import Derived.Test.YtgboplhcjhlabaaDoorPxS
import Derived.Test.YtgboplhcjhlabaaDoorPx4
import Derived.Test.YtgboplhcjhlabaaDoorPx7
import Derived.Test.YtgboplhcjhlabaaDoorPx9
import Derived.Test.YtgboplhcjhlabaaDoorPx10
namespace Go.Proofs.YtgboplhcjhlabaaDoor.P
open Go.RowKit Go.Proofs.YtgboplhcjhlabaaDoorW.PrintWords Go.Proofs.YtgboplhcjhlabaaDoorW.PrintLast Go.Proofs.YtgboplhcjhlabaaDoorW.PrintMore
attribute [local go_sem] max2_int min2_int max_two min_two max_three min_three max_four min_four
attribute [local go_sem] Instr.field asAgg
set_option linter.unusedVariables false
set_option linter.unusedSimpArgs false

/-! ### wipe_Wipes: function 53 -/
def wipe_Wipes.f (a0 : Int) : Option (Bool) := if a0 ≥ 12 then (some (decide (a0 ≤ 14))) else (some false)
set_option maxHeartbeats 8000000 in
set_option maxRecDepth 100000 in
theorem wipe_Wipes.calls (a0 : Int) (r : Bool) (w : World) (h : wipe_Wipes.f a0 = some r) :
  Calls Tryd.prog 53 #[.int .i64 a0] w fun e w' => e = .returned (.bool r) ∧ Drawn0 w w' := by
 have H : (if a0 ≥ 12 then (some (decide (a0 ≤ 14))) else (some false)) = some r := h
 clear h
 by_cases c2 : a0 ≥ 12
 ·rw [if_pos c2] at H
  have a : decide (12 ≤ a0) = true := decide_eq_true c2
  clear c2
  obtain rfl := Option.some.inj H
  go_enter Tryd.func53, Tryd.ntmps53
  go_wp2
  go_ret
  exact ⟨dn_, dr_⟩
 ·rw [if_neg c2] at H
  have a : decide (12 ≤ a0) = false := decide_eq_false c2
  clear c2
  obtain rfl := Option.some.inj H
  go_enter Tryd.func53, Tryd.ntmps53
  go_wp2
  go_ret
  exact ⟨dn_, dr_⟩

/-! ### wipe_all: function 54 -/
def wipe_all.l0 : Nat → Int → Int → Int → Int → List (S44) → Int → Bool → Bool → Int → Int → List (S44) → Int → Bool → Bool → Option (Int × Int × (List (S44)) × Int × Bool × Bool)
 | 0, _, _, _, _, _, _, _, _, _, _, _, _, _, _ => none
 | k + 1, r, x10, b, c, d, e, g, h, i, j, a, n, l, m => if x10 < r then ((field_Open.f b c d e g h x10).bind fun o => (if o = true then (if 0 ≤ x10 then (if x10 < (a.length : Int) then (wipe_all.l0 k r (wrap64 (x10 + 1)) b c d e g h i j (a.set (x10 : Int).toNat (⟨(rd_T44 a x10).f0, (⟨(rd_T44 a x10).f1.f0, (rd_T44 a x10).f1.f1, (rd_T44 a x10).f1.f2, (rd_T44 a x10).f1.f3⟩ : S28), 0⟩ : S44)) n l m) else (none)) else (none)) else (wipe_all.l0 k r (wrap64 (x10 + 1)) b c d e g h i j a n l m))) else ((grid_Size.f b c d e g h).bind fun p => ((field_Next.f b c d e g h (wrap64 (p - 1))).bind fun q => (some (i, j, a, mx 0 q, l, m))))
def wipe_all.f (k : Nat) (c : Int) (d : Int) (b : List (S44)) (e : Int) (g : Bool) (h : Bool) : Option (Int × Int × (List (S44)) × Int × Bool × Bool) := (host_Reset.f c d b e g h false).bind fun a => (wipe_all.l0 k (b.length : Int) 0 c d b e g h a.1 a.2.1 a.2.2.1 a.2.2.2.1 a.2.2.2.2.1 a.2.2.2.2.2)
theorem wipe_all.mono_l : ∀ k, (∀ f g i j l m n o p q a b c d, LeO (wipe_all.l0 k f g i j l m n o p q a b c d) (wipe_all.l0 (k + 1) f g i j l m n o p q a b c d))
 | 0 => fun _ _ _ _ _ _ _ _ _ _ _ _ _ _ r h => by simp [wipe_all.l0] at h
 | k + 1 => by
  have e := wipe_all.mono_l k
  ·intro f g i j l m n o p q a b c d
   unfold wipe_all.l0
   repeat' first
   | (with_reducible exact e _ _ _ _ _ _ _ _ _ _ _ _ _ _)
   | (with_reducible exact LeO.refl _)
   | (with_reducible exact LeO.none _)
   | (with_reducible refine LeO.ite ?_ ?_)
   | (with_reducible refine LeO.bind ?_ (fun _ => ?_))
   | exact e _ _ _ _ _ _ _ _ _ _ _ _ _ _
   | exact LeO.none _
   | refine LeO.ite ?_ ?_
   | refine LeO.bind ?_ (fun _ => ?_)
theorem wipe_all.mono : ∀ a0 a1 b c a4 d k, LeO (wipe_all.f k a0 a1 b c a4 d) (wipe_all.f (k + 1) a0 a1 b c a4 d) := by
 intro a0 a1 b c a4 d k
 have a := wipe_all.mono_l k
 unfold wipe_all.f
 repeat' first
   | (with_reducible exact a _ _ _ _ _ _ _ _ _ _ _ _ _ _)
   | (with_reducible exact LeO.refl _)
   | (with_reducible exact LeO.none _)
   | (with_reducible refine LeO.ite ?_ ?_)
   | (with_reducible refine LeO.bind ?_ (fun _ => ?_))
   | exact a _ _ _ _ _ _ _ _ _ _ _ _ _ _
   | exact LeO.none _
   | refine LeO.ite ?_ ?_
   | refine LeO.bind ?_ (fun _ => ?_)
def wipe_all.T8 : Bool × List (List Nat × List Nat) := (true, [([], []), ([], []), ([1], [1]), ([2], [2]), ([0, 3, 2], [0, 3]), ([4], [4]), ([0, 1, 2, 3, 4, 5], []), ([6, 5, 4, 0, 1, 2, 3, 4, 5], [5, 6])])
def wipe_all.B8 : List Nat := [0, 0, 2, 6, 15, 31, 63, 127]
theorem wipe_all.tab8 : rtab .any (opsOf Tryd.f54 8) = wipe_all.T8 := by kernel_rfl
theorem wipe_all.bits8 : waitsOk wipe_all.T8.2 wipe_all.B8 = true := by kernel_rfl
set_option maxHeartbeats 8000000 in
set_option maxRecDepth 100000 in
theorem wipe_all.calls (k : Nat) (r : Int) (s : Int) (V : Option Addr) (W : Nat) (l : List (S44)) (u : Int) (x : Bool) (y : Bool) (r1 : Int) (r2 : Int) (r3 : List (S44)) (r4 : Int) (r5 : Bool) (r6 : Bool) (w : World) (aN : Kd.C k44 w V l.length l) (aK : l.length ≤ W) (h : wipe_all.f k r s l u x y = some (r1, r2, r3, r4, r5, r6)) :
  Calls Tryd.prog 54 #[.agg #[.int .i64 r, .int .i64 s, .slice V l.length W, .int .i64 u, .bool x, .bool y]] w fun e w' => ∃ bU : Value, e = .returned (.agg #[.int .i64 r1, .int .i64 r2, bU, .int .i64 r4, .bool r5, .bool r6]) ∧ Kd.R k44 44 w' w.heap.size (fun _ => True) bU r3 ∧ Below w.heap.size w w' := by
 have d0 := Tryd.underlying24
 have ak := Z aN
 have ai := Z aK
 clear aN aK
 have HB := Z (Below.refl w.heap.size w)
 have H : ((host_Reset.f r s l u x y false).bind fun ag => (wipe_all.l0 k (l.length : Int) 0 r s l u x y ag.1 ag.2.1 ag.2.2.1 ag.2.2.2.1 ag.2.2.2.2.1 ag.2.2.2.2.2)) = some (r1, r2, r3, r4, r5, r6) := h
 clear h
 replace H := Option.bind_eq_some_iff.mp H
 obtain ⟨⟨F, G, aw, U, L, M⟩, bN, H⟩ := H
 replace H : (wipe_all.l0 k (l.length : Int) 0 r s l u x y F G aw U L M) = some (r1, r2, r3, r4, r5, r6) := H
 have A2 := Z bN
 clear bN
 have H' := Z H
 clear H
 go_enter Tryd.func54, Tryd.ntmps54
 go_wp2_with (first | ((with_reducible refine gate_dst (N := 1) rfl ?_); refine bx_ 1 24 #[.int .i64 r, .int .i64 s, .slice V l.length W, .int .i64 u, .bool x, .bool y] ?_; intro Q hg w3 hbox hb; have c := Z (hbox); have dr := Z (ln_ hg : w.heap.size ≤ Q); have dn := Z (ln_ hg : w.heap.size ≤ Q); replace HB := Z (below_step bl_ hb); clear hb hbox hg) | ((with_reducible refine gate_dst (N := 2) rfl ?_); refine bx_ 2 24 #[.int .i64 0, .int .i64 0, .slice none 0 0, .int .i64 0, .bool false, .bool false] ?_; intro P hg w4 hbox hb; have d := Z (hbox); have dt := Z (ln_ hg : w.heap.size ≤ P); have dp := Z (ln_ hg : w.heap.size ≤ P); replace HB := Z (below_step bl_ hb); have Y := Z (nl c.out hg); have aa := Z (ng c.out hg); replace c := Z (kb c.out hb); clear hb hbox hg; have dV := Y.out; have dX := aa.out; obtain ⟨bo, bp, bq, br, bs, bt, bw, bx, bz, bA, bB, bC⟩ := cells6 c.out) | ((with_reducible refine gate_callee (f := 29) rfl ?_); refine goesL_ (some 6) rfl rfl Tryd.func29 (by kernel_rfl) rfl #[.agg #[.int .i64 r, .int .i64 s, .slice V l.length W, .int .i64 u, .bool x, .bool y], .bool false] rfl ag_ ?_; (with_reducible refine (host_Reset.calls r s _ _ l u x y false F G aw U L M _ ?side1 ?side2 A2.out).mono ?_); (case side1 => repeat (first | exact (Kd.C_below ak.out HB.out) | (with_reducible apply pC))); (case side2 => exact ai.out); rintro e w7 ⟨d7, rfl, bQ, hb⟩; refine ⟨_, rfl, ?_⟩; have aj := Z (Kd.R_lower bQ (below_size bl_)); replace c := Z (kb c.out hb); replace d := Z (kb d.out hb); replace HB := Z (below_step bl_ hb); (try clear hb); (try clear aJ); (try clear hk); (try clear hi); (try clear bQ)) | ((with_reducible refine gate_dst (N := 3) rfl ?_); refine bx_ 3 24 #[.int .i64 0, .int .i64 0, .slice none 0 0, .int .i64 0, .bool false, .bool false] ?_; intro z hg w8 hbox hb; replace aj := Z (rb aj.out hb); have m := Z (hbox); have du := Z (ln_ hg : w.heap.size ≤ z); have dq := Z (ln_ hg : w.heap.size ≤ z); replace HB := Z (below_step bl_ hb); have q := Z (nl c.out hg); have T := Z (ng c.out hg); replace c := Z (kb c.out hb); have O := Z (nl d.out hg); have ab := Z (ng d.out hg); replace d := Z (kb d.out hb); clear hb hbox hg; have dW := T.out; have dY := q.out; have dy := ab.out; have dH := O.out; obtain ⟨aO, aP, aQ, aR, aS, aT, a0, a1, a2, a3, a4, a5⟩ := cells6 m.out; obtain ⟨bf, bj, bW⟩ := Kd.R_slice aj.out; subst bW; obtain ⟨aU, aV, aW, aX, aY, aZ, a6, a7, a8, a9, ba, bb⟩ := cells6 c.out))
 go_loopg [10] k (fun kq dl w' => ∃ (b : Int) (a : List (S44)) (u515002 : Value), dl = .int .i64 b ∧ Aside0 (wipe_all.l0 kq (l.length : Int) b r s l u x y F G a U L M = some (r1, r2, r3, r4, r5, r6)) ∧ Aside0 (kq ≤ k) ∧ Aside0 (Kd.R k44 44 w' w.heap.size (fun _ => True) u515002 a) ∧ Aside0 (w'.heap[Q]? = some (.cells #[.int .i64 r, .int .i64 s, (.slice V l.length W), .int .i64 u, .bool x, .bool y] 24 (0, 0))) ∧ Aside0 (w'.heap[P]? = some (.cells #[.int .i64 0, .int .i64 0, (.slice none 0 0), .int .i64 0, .bool false, .bool false] 24 (0, 0))) ∧ Aside0 (w'.heap[z]? = some (.cells #[.int .i64 F, .int .i64 G, u515002, .int .i64 U, .bool L, .bool M] 24 (0, 0))) ∧ Aside0 (Below w.heap.size w w'))
 case atStart => exact ⟨(0), (aw), (.slice bf aw.length bj), (dn_), H', ⟨Nat.le_refl _⟩, ⟨by (with_reducible repeat apply pR); exact Kd.R_mono (f6R z (Kd.R_types aj.out m.out (by decide)) (fun _ hk => hk.2)) (fun _ hk => trivial)⟩, ⟨blk_off c.out q.out off2_⟩, ⟨blk_off d.out O.out off2_⟩, ⟨put6 m.out⟩, ⟨bl_⟩⟩
 case round =>
  clear H'
  try clear c1
  try clear c2
  try clear p2
  try clear c5
  try clear c9
  try clear c10
  try clear aO
  try clear aP
  try clear aQ
  try clear aR
  try clear aS
  try clear aT
  try clear aU
  try clear aV
  try clear aW
  try clear aX
  try clear aY
  try clear aZ
  try clear bo
  try clear bp
  try clear bq
  try clear br
  try clear bs
  try clear bt
  try clear a0
  try clear a1
  try clear a2
  try clear a3
  try clear a4
  try clear a5
  try clear a6
  try clear a7
  try clear a8
  try clear a9
  try clear ba
  try clear bb
  try clear bw
  try clear bx
  try clear bz
  try clear bA
  try clear bB
  try clear bC
  obtain ⟨b, a, u515002, rfl, HA, aF, HO_515002, c, d, m, HB⟩ := hrel
  cases gk with
  | zero => exact absurd HA.out (by simp [wipe_all.l0])
  | succ k1 =>
   have H := HA.out
   clear HA
   simp only [wipe_all.l0] at H
   by_cases ax : b < (l.length : Int)
   ·rw [if_pos ax] at H
    have bK : decide (b < (l.length : Int)) = true := decide_eq_true ax
    clear ax
    replace H := Option.bind_eq_some_iff.mp H
    obtain ⟨bH, bc, H⟩ := H
    replace H : (if bH = true then (if 0 ≤ b then (if b < (a.length : Int) then (wipe_all.l0 k1 (l.length : Int) (wrap64 (b + 1)) r s l u x y F G (a.set (b : Int).toNat (⟨(rd_T44 a b).f0, (⟨(rd_T44 a b).f1.f0, (rd_T44 a b).f1.f1, (rd_T44 a b).f1.f2, (rd_T44 a b).f1.f3⟩ : S28), 0⟩ : S44)) U L M) else (none)) else (none)) else (wipe_all.l0 k1 (l.length : Int) (wrap64 (b + 1)) r s l u x y F G a U L M)) = some (r1, r2, r3, r4, r5, r6) := H
    have bM := Z bc
    clear bc
    by_cases aG : bH = true
    ·subst aG
     have H1 : (if 0 ≤ b then (if b < (a.length : Int) then (wipe_all.l0 k1 (l.length : Int) (wrap64 (b + 1)) r s l u x y F G (a.set (b : Int).toNat (⟨(rd_T44 a b).f0, (⟨(rd_T44 a b).f1.f0, (rd_T44 a b).f1.f1, (rd_T44 a b).f1.f2, (rd_T44 a b).f1.f3⟩ : S28), 0⟩ : S44)) U L M) else (none)) else (none)) = some (r1, r2, r3, r4, r5, r6) := by rw [if_pos rfl] at H; exact H
     clear H
     have H := H1
     clear H1
     by_cases aH : 0 ≤ b
     ·rw [if_pos aH] at H
      have dv : decide (0 ≤ b) = true := decide_eq_true aH
      clear aH
      by_cases aI : b < (a.length : Int)
      ·rw [if_pos aI] at H
       have dw : decide (b < (a.length : Int)) = true := decide_eq_true aI
       clear aI
       obtain ⟨aE, al⟩ : ∃ y_ : List (S44), y_ = (a.set (b : Int).toNat (⟨(rd_T44 a b).f0, (⟨(rd_T44 a b).f1.f0, (rd_T44 a b).f1.f1, (rd_T44 a b).f1.f2, (rd_T44 a b).f1.f3⟩ : S28), 0⟩ : S44)) := ⟨_, rfl⟩
       replace H : (wipe_all.l0 k1 (l.length : Int) (wrap64 (b + 1)) r s l u x y F G aE U L M) = some (r1, r2, r3, r4, r5, r6) := by first | (rw [al]; with_reducible exact H) | (have bg := (Option.bind_some _ _).symm.trans H; rw [al]; with_reducible exact bg) | (have bg := (Option.bind_some _ _).symm.trans H; with_reducible exact bg) | with_reducible exact H | (rw [al]; exact H) | exact H
       have bJ := Z al
       clear al
       have H' := Z H
       clear H
       have dz := Y.out
       have dI := aa.out
       have dA := q.out
       have dJ := T.out
       obtain ⟨bZ, b0, b1, b2, b3, b4, cu, cv, cw, cx, cy, cz⟩ := cells6 c.out
       go_wp2_with (first | ((with_reducible refine gate_callee (f := 55) rfl ?_); refine goesL_ (some 15) rfl rfl Tryd.func55 (by kernel_rfl) rfl #[.agg #[.int .i64 r, .int .i64 s, .slice V l.length W, .int .i64 u, .bool x, .bool y], .int .i64 b] rfl ag_ ?_; (with_reducible refine (field_Open.calls r s _ _ l u x y b true _ ?side1 ?side2 bM.out).mono ?_); (case side1 => repeat (first | exact (Kd.C_below ak.out HB.out) | (with_reducible apply pC))); (case side2 => exact ai.out); rintro e X ⟨rfl, hb⟩; refine ⟨_, rfl, ?_⟩; replace HO_515002 := Z (rb HO_515002.out hb); replace c := Z (kb c.out hb); replace d := Z (kb d.out hb); replace m := Z (kb m.out hb); replace HB := Z (below_step bl_ hb); (try clear hb); (try clear aJ); (try clear hk); (try clear hi); have dB := ab.out; have dK := O.out; obtain ⟨b5, b6, b7, b8, b9, ca, cA, cB, cC, cD, cE, cF⟩ := cells6 m.out; have bF : 0 ≤ (b : Int) := od_; have bG : (b : Int) < ((a.length : Int) : Int) := od_; obtain ⟨I, ay, bk, bl, bY, dU, bh⟩ := Kd.R_form HO_515002.out (by omega); (first | cases bk | (injection bk with ea_ en_ ec_; (first | subst ea_ | (injection ea_ with ea_; subst ea_)); subst ec_; clear en_)); have bV := Z bl; have dR := Z bh; clear bl bY bh; obtain ⟨dS, bL, bm, ac, ad⟩ := Kd.R_elem HO_515002.out z44 (b : Int) bF bG; obtain rfl := k44_openM bm; have df : X.cell? ⟨I, (b : Int).toNat * 6, none⟩ = some (.bool ((rd_T44 a b).f0)) := ac 0 _ rfl; have dg : X.cell? ⟨I, (b : Int).toNat * 6 + 1, none⟩ = some (.bool ((rd_T44 a b).f1.f0)) := ac 1 _ rfl; have dh : X.cell? ⟨I, (b : Int).toNat * 6 + 2, none⟩ = some (.bool ((rd_T44 a b).f1.f1)) := ac 2 _ rfl; have di : X.cell? ⟨I, (b : Int).toNat * 6 + 3, none⟩ = some (.int .i64 ((rd_T44 a b).f1.f2)) := ac 3 _ rfl; have dj : X.cell? ⟨I, (b : Int).toNat * 6 + 4, none⟩ = some (.bool ((rd_T44 a b).f1.f3)) := ac 4 _ rfl; have dk : X.cell? ⟨I, (b : Int).toNat * 6 + 5, none⟩ = some (.int .u8 ((rd_T44 a b).f2)) := ac 5 _ rfl; have c4 : X.frozen? ⟨I, (b : Int).toNat * 6, none⟩ = false := ad 0; have c6 : X.frozen? ⟨I, (b : Int).toNat * 6 + 1, none⟩ = false := ad 1; have c7 : X.frozen? ⟨I, (b : Int).toNat * 6 + 2, none⟩ = false := ad 2; have c8 : X.frozen? ⟨I, (b : Int).toNat * 6 + 3, none⟩ = false := ad 3; have da : X.frozen? ⟨I, (b : Int).toNat * 6 + 4, none⟩ = false := ad 4; have db : X.frozen? ⟨I, (b : Int).toNat * 6 + 5, none⟩ = false := ad 5; clear bL ac ad bm; replace bF := eq_true bF; replace bG := eq_true bG; have bi := Z (show Kd.R k44 44 X w.heap.size (fun _ => True) (.slice (some ⟨I, 0, none⟩) a.length ay) a from (by (with_reducible repeat apply pR); exact HO_515002.out)); obtain ⟨dT, aL, bn, az, aM⟩ := Kd.R_elem bi.out z44 (b : Int) (od_) (by have h_ : (b : Int) < ((a.length : Int) : Int) := od_; first | exact h_ | (have e_ := (Kd.R_reads' HO_515002.out).1; omega) | simpa using h_); obtain rfl := k44_openM bn; have aD := Kd.R_seg bi.out (b : Int) (od_) (by have h_ : (b : Int) < ((a.length : Int) : Int) := od_; first | exact h_ | (have e_ := (Kd.R_reads' HO_515002.out).1; omega) | simpa using h_) (seg := [.int .u8 0]) (j := 5) aL az (show 6 ≤ 6 from by decide) (x' := (⟨(rd_T44 a b).f0, (⟨(rd_T44 a b).f1.f0, (rd_T44 a b).f1.f1, (rd_T44 a b).f1.f2, (rd_T44 a b).f1.f3⟩ : S28), 0⟩ : S44)) (k44_mkM _ _ _ (⟨(rd_T44 a b).f0, (⟨(rd_T44 a b).f1.f0, (rd_T44 a b).f1.f1, (rd_T44 a b).f1.f2, (rd_T44 a b).f1.f3⟩ : S28), 0⟩ : S44) ) (fun _ hk => hk); have bD := az 5 _ rfl; (try simp only [show (k44).sz = 6 from rfl, Nat.mul_one, Nat.add_zero] at bD); have bu := aM 5; (try simp only [show (k44).sz = 6 from rfl, Nat.mul_one, Nat.add_zero] at bu); clear aL az aM bn) | ((with_reducible refine gate_store (t := 5) (p := 20) rfl ?_); refine sx_ 5 20 (X.setCell ⟨I, (b : Int).toNat * 6 + 5, none⟩ (.int .u8 0)) ?_; intro bI hw; have hg : X.grownBy bI (some I) := (by rw [hw]; exact aD.2); have hp_ : Kd.R k44 44 bI w.heap.size (fun _ => True) (.slice (some ⟨I, 0, none⟩) a.length ay) aE := (by rw [hw, bJ.out]; exact aD.1); clear aD; replace c := Z (blk_grown (g := Q) (o := .cells #[.int .i64 r, .int .i64 s, .slice V l.length W, .int .i64 u, .bool x, .bool y] 24 (0, 0)) (vK c.out) hg (Kd.R_ne HO_515002.out c.out (by decide))); replace d := Z (blk_grown (g := P) (o := .cells #[.int .i64 0, .int .i64 0, .slice none 0 0, .int .i64 0, .bool false, .bool false] 24 (0, 0)) (vK d.out) hg (Kd.R_ne HO_515002.out d.out (by decide))); replace m := Z (blk_grown (g := z) (o := .cells #[.int .i64 F, .int .i64 G, .slice (some ⟨I, 0, none⟩) a.length ay, .int .i64 U, .bool L, .bool M] 24 (0, 0)) (vK m.out) hg (Kd.R_ne HO_515002.out m.out (by decide))); replace HO_515002 := Z (hp_); replace HB := Z ((by rw [hw]; exact below_set (HB.out) bV.out : Below w.heap.size w bI)); clear hg hw hp_))
       go_roundg k1
       case measure => have := aF.out; omega
       case rel => exact ⟨(wrap64 (b + 1)), (aE), (.slice (some ⟨I, 0, none⟩) a.length ay), (dn_), H', ⟨by have := aF.out; omega⟩, ⟨by (with_reducible repeat apply pR); exact HO_515002.out⟩, ⟨vK c.out⟩, ⟨vK d.out⟩, ⟨vK m.out⟩, ⟨bl_⟩⟩
      ·rw [if_neg aI] at H
       exact absurd H (by simp)
     ·rw [if_neg aH] at H
      exact absurd H (by simp)
    ·replace aG := Bool.eq_false_iff.mpr aG
     subst aG
     have H1 : (wipe_all.l0 k1 (l.length : Int) (wrap64 (b + 1)) r s l u x y F G a U L M) = some (r1, r2, r3, r4, r5, r6) := by rw [if_neg (show ¬ (false = true) by decide)] at H; exact H
     clear H
     have H := H1
     clear H1
     have H' := Z H
     clear H
     have dC := Y.out
     have dL := aa.out
     have dD := q.out
     have dM := T.out
     obtain ⟨cb, cc, cd, ce, cf, cg, cG, cH, cI, cJ, cK, cL⟩ := cells6 c.out
     go_wp2_with (first | ((with_reducible refine gate_callee (f := 55) rfl ?_); refine goesL_ (some 15) rfl rfl Tryd.func55 (by kernel_rfl) rfl #[.agg #[.int .i64 r, .int .i64 s, .slice V l.length W, .int .i64 u, .bool x, .bool y], .int .i64 b] rfl ag_ ?_; (with_reducible refine (field_Open.calls r s _ _ l u x y b false _ ?side1 ?side2 bM.out).mono ?_); (case side1 => repeat (first | exact (Kd.C_below ak.out HB.out) | (with_reducible apply pC))); (case side2 => exact ai.out); rintro e d8 ⟨rfl, hb⟩; refine ⟨_, rfl, ?_⟩; replace HO_515002 := Z (rb HO_515002.out hb); replace c := Z (kb c.out hb); replace d := Z (kb d.out hb); replace m := Z (kb m.out hb); replace HB := Z (below_step bl_ hb); (try clear hb); (try clear aJ); (try clear hk); (try clear hi)))
     go_roundg k1
     case measure => have := aF.out; omega
     case rel => exact ⟨(wrap64 (b + 1)), (a), (u515002), (dn_), H', ⟨by have := aF.out; omega⟩, ⟨by (with_reducible repeat apply pR); exact HO_515002.out⟩, ⟨vK c.out⟩, ⟨vK d.out⟩, ⟨vK m.out⟩, ⟨bl_⟩⟩
   ·rw [if_neg ax] at H
    have bK : decide (b < (l.length : Int)) = false := decide_eq_false ax
    clear ax
    replace H := Option.bind_eq_some_iff.mp H
    obtain ⟨aA, bd, H⟩ := H
    replace H : ((field_Next.f r s l u x y (wrap64 (aA - 1))).bind fun ah => (some (F, G, a, mx 0 ah, L, M))) = some (r1, r2, r3, r4, r5, r6) := H
    have bO := Z bd
    clear bd
    replace H := Option.bind_eq_some_iff.mp H
    obtain ⟨ah, be, H⟩ := H
    replace H : (some (F, G, a, mx 0 ah, L, M)) = some (r1, r2, r3, r4, r5, r6) := H
    have bP := Z be
    clear be
    obtain ⟨af, ae⟩ : ∃ j_ : Int, (mx 0 ah) = j_ := ⟨_, rfl⟩
    replace H : (some (F, G, a, af, L, M)) = some (r1, r2, r3, r4, r5, r6) := by first | (rw [ae] at H; exact H) | (simp only [ae] at H ⊢; exact H)
    (try rw [ae] at bO)
    (try rw [ae] at bP)
    (try (have dd : 0 ≤ af := by (rw [← ae]; unfold mx; (repeat' split) <;> omega)))
    (try (have de : 0 ≤ af := by omega))
    have dc : (if 0 < ah then ah else 0) = af := ae
    simp only [Option.some.injEq, Prod.mk.injEq] at H
    obtain ⟨rfl, rfl, rfl, rfl, rfl, rfl⟩ := H
    try go_wp2
    have A := Z (Kd.R_drew HO_515002.out)
    have B := Z (blk_drew c.out)
    have D := Z (blk_drew d.out)
    have E := Z (blk_drew m.out)
    have J := Z (below_drew1 HB.out)
    clear HO_515002
    clear c
    clear d
    clear m
    clear HB
    have HO_515002 := A
    have c := B
    have d := D
    have m := E
    have HB := J
    clear A B D E J
    refine start_ (n := 8) (S := fun w' => w'.cell? ⟨Q, 0, none⟩ = some (.int .i64 r) ∧ w'.cell? ⟨Q, 1, none⟩ = some (.int .i64 s) ∧ w'.cell? ⟨Q, 2, none⟩ = some (.slice V l.length W) ∧ w'.cell? ⟨Q, 3, none⟩ = some (.int .i64 u) ∧ w'.cell? ⟨Q, 4, none⟩ = some (.bool x) ∧ w'.cell? ⟨Q, 5, none⟩ = some (.bool y)) (ds := []) (bv 8 0) (by kernel_rfl) rfl rfl ⟨(blk_cell c.out 0).trans rfl, (blk_cell c.out 1).trans rfl, (blk_cell c.out 2).trans rfl, (blk_cell c.out 3).trans rfl, (blk_cell c.out 4).trans rfl, (blk_cell c.out 5).trans rfl⟩ (fun hHeld => ?_); refine with_tabW wipe_all.tab8 wipe_all.bits8 (fun HT_ HW_ => ?_)
    generalize wr.drew = d9 at HO_515002 c d m HB hHeld ⊢
    refine take_ (i := 0) (N := some 22) (v := ?_) (a' := ?_) (bv 8 1) rfl rfl (take_ofW HT_.out HW_.out (by kernel_rfl)) (fun _ _ _ h => h) (Or.inl ⟨by rfl, ?_⟩) hHeld ?_ ?_
    rotate_left
    ·rintro w' ⟨s0, s1, s2, s3, s4, s5⟩
     go_simp
     with_reducible rfl
    rotate_left
    ·simp only [Act.put, sA, sB, sC, i64_w, i32_w]
     rfl
    refine take_ (i := 1) (N := some 23) (v := ?_) (a' := ?_) (bv 8 3) rfl rfl (take_ofW HT_.out HW_.out (by kernel_rfl)) (fun _ _ _ h => h) (Or.inl ⟨by rfl, ?_⟩) hHeld ?_ ?_
    rotate_left
    ·rintro w' ⟨s0, s1, s2, s3, s4, s5⟩
     go_simp
     with_reducible rfl
    rotate_left
    ·simp only [Act.put, sA, sB, sC, i64_w, i32_w]
     rfl
    refine one_ (i := 2) (N := some 24) (bv 8 7) rfl rfl (one_of HT_.out (by kernel_rfl)) (by decide) (fun K hK => ?_)
    refine goes_ Tryd.func37 (by kernel_rfl) rfl #[.agg #[.int .i64 r, .int .i64 s, .slice V l.length W, .int .i64 u, .bool x, .bool y]] (by rfl) rfl rfl ag_ ?_
    with_reducible refine (grid_Size.calls r s _ _ l u x y aA _ ?side1 ?side2 bO.out).mono ?_
    (case side1 => repeat (first | exact (Kd.C_below ak.out HB.out) | (with_reducible apply pC)))
    (case side2 => exact ai.out)
    rintro e ea ⟨rfl, hb⟩
    refine ⟨_, rfl, ?_⟩
    have A := Z (rb HO_515002.out hb)
    have B := Z (kb c.out hb)
    have D := Z (kb d.out hb)
    have E := Z (kb m.out hb)
    have J := Z (below_step bl_ hb)
    clear HO_515002
    clear c
    clear d
    clear m
    clear HB
    have HO_515002 := A
    have c := B
    have d := D
    have m := E
    have HB := J
    clear A B D E J
    (try clear hb)
    (try clear aJ)
    (try clear hk)
    (try clear hi)
    refine hK.out _ _ ⟨(blk_cell c.out 0).trans rfl, (blk_cell c.out 1).trans rfl, (blk_cell c.out 2).trans rfl, (blk_cell c.out 3).trans rfl, (blk_cell c.out 4).trans rfl, (blk_cell c.out 5).trans rfl⟩ (fun hHeld => ?_)
    clear hK K
    refine norm_ (a' := ?_) ?_ ?_
    rotate_left
    ·show Act.put _ (some 24) _ = _
     simp only [Act.put, sA, sB, sC, i64_w, i32_w]
     rfl
    refine pure_ (i := 3) (N := some 25) (v := ?_) (a' := ?_) (bv 8 15) rfl rfl (any_of HT_.out (by kernel_rfl)) (fun _ _ _ h => h) (Or.inl ⟨by rfl, ?_⟩) ?_ ?_
    rotate_left
    ·intro w'
     go_simp
     with_reducible rfl
    rotate_left
    ·simp only [Act.put, sA, sB, sC, i64_w, i32_w]
     rfl
    refine one_ (i := 4) (N := some 26) (bv 8 31) rfl rfl (one_of HT_.out (by kernel_rfl)) (by decide) (fun K hK => ?_)
    refine goes_ Tryd.func78 (by kernel_rfl) rfl #[.agg #[.int .i64 r, .int .i64 s, .slice V l.length W, .int .i64 u, .bool x, .bool y], .int .i64 (wrap64 (aA - 1))] (by rfl) rfl rfl ag_ ?_
    with_reducible refine (field_Next.calls r s _ _ l u x y (wrap64 (aA - 1)) ah _ ?side1 ?side2 bP.out).mono ?_
    (case side1 => repeat (first | exact (Kd.C_below ak.out HB.out) | (with_reducible apply pC)))
    (case side2 => exact ai.out)
    rintro e dm ⟨rfl, hb⟩
    refine ⟨_, rfl, ?_⟩
    have A := Z (rb HO_515002.out hb)
    have B := Z (kb c.out hb)
    have D := Z (kb d.out hb)
    have E := Z (kb m.out hb)
    have J := Z (below_step bl_ hb)
    clear HO_515002
    clear c
    clear d
    clear m
    clear HB
    have HO_515002 := A
    have c := B
    have d := D
    have m := E
    have HB := J
    clear A B D E J
    (try clear hb)
    (try clear aJ)
    (try clear hk)
    (try clear hi)
    refine hK.out _ _ ⟨(blk_cell c.out 0).trans rfl, (blk_cell c.out 1).trans rfl, (blk_cell c.out 2).trans rfl, (blk_cell c.out 3).trans rfl, (blk_cell c.out 4).trans rfl, (blk_cell c.out 5).trans rfl⟩ (fun hHeld => ?_)
    clear hK K
    refine norm_ (a' := ?_) ?_ ?_
    rotate_left
    ·show Act.put _ (some 26) _ = _
     simp only [Act.put, sA, sB, sC, i64_w, i32_w]
     rfl
    refine pure_ (i := 5) (N := some 27) (v := ?_) (a' := ?_) (bv 8 63) rfl rfl (any_of HT_.out (by kernel_rfl)) (fun _ _ _ h => h) (Or.inl ⟨by rfl, ?_⟩) ?_ ?_
    rotate_left
    ·intro w'
     go_simp
     with_reducible rfl
    rotate_left
    ·simp only [Act.put, sA, sB, sC, i64_w, i32_w]
     rfl
    refine pure_ (i := 6) (N := some 28) (v := ?_) (a' := ?_) (bv 8 127) rfl rfl (any_of HT_.out (by kernel_rfl)) (fun _ _ _ h => h) (Or.inl ⟨by rfl, ?_⟩) ?_ ?_
    rotate_left
    ·intro w'
     go_simp
     with_reducible rfl
    rotate_left
    ·simp only [Act.put, sA, sB, sC, i64_w, i32_w]
     rfl
    refine one_ (i := 7) (N := none) (bv 8 255) rfl rfl (one_of HT_.out (by kernel_rfl)) (by decide) (fun K hK => ?_)
    have dZ : dm.cell? ⟨z, 3, none⟩ = some (.int .i64 U) := (blk_cell m.out 3).trans rfl
    have dx := blk_frozen m.out 3
    have c0 := q.out
    have c3 := O.out
    have cY := T.out
    have cZ := ab.out
    refine skip_ (w1 := ?_) (by rfl) rfl ?_ ?_
    rotate_left
    ·go_simp
     rfl
    refine hK.out _ _ ⟨((cell_far (p := ⟨z, _, none⟩) q.out _).trans (hHeld.1)), ((cell_far (p := ⟨z, _, none⟩) q.out _).trans (hHeld.2.1)), ((cell_far (p := ⟨z, _, none⟩) q.out _).trans (hHeld.2.2.1)), ((cell_far (p := ⟨z, _, none⟩) q.out _).trans (hHeld.2.2.2.1)), ((cell_far (p := ⟨z, _, none⟩) q.out _).trans (hHeld.2.2.2.2.1)), ((cell_far (p := ⟨z, _, none⟩) q.out _).trans (hHeld.2.2.2.2.2))⟩ (fun hHeld => ?_)
    clear hK K
    refine done_ (done_of HT_.out (by kernel_rfl)) ?_
    have dE := T.out
    have dN := q.out
    have dF := ab.out
    have dO := O.out
    obtain ⟨ch, ci, cj, ck, cl, cm, cM, cN, cO, cP, cQ, cR⟩ := cells6 m.out
    have dG := aa.out
    have dP := Y.out
    obtain ⟨cn, co, cp, cq, cr, ct, cS, cT, cU, cV, cW, cX⟩ := cells6 d.out
    obtain ⟨au, av, bX⟩ := Kd.R_slice HO_515002.out
    subst bX
    try go_wp2
    refine bodyPost_ret (results_cell_row rfl _ _ P 24 #[.int .i64 F, .int .i64 G, .slice au a.length av, .int .i64 af, .bool L, .bool M] (0, 0) _ rfl (by (with_reducible repeat apply pK); refine blk_put (cs := #[.int .i64 F, .int .i64 G, .slice au a.length av, .int .i64 af, .bool L, .bool false]) ?_ 5 _ rfl; (with_reducible repeat apply pK); refine blk_put (cs := #[.int .i64 F, .int .i64 G, .slice au a.length av, .int .i64 af, .bool false, .bool false]) ?_ 4 _ rfl; (with_reducible repeat apply pK); refine blk_put (cs := #[.int .i64 F, .int .i64 G, .slice au a.length av, .int .i64 0, .bool false, .bool false]) ?_ 3 _ rfl; (with_reducible repeat apply pK); refine blk_put (cs := #[.int .i64 F, .int .i64 G, .slice none 0 0, .int .i64 0, .bool false, .bool false]) ?_ 2 _ rfl; (with_reducible repeat apply pK); refine blk_put (cs := #[.int .i64 F, .int .i64 0, .slice none 0 0, .int .i64 0, .bool false, .bool false]) ?_ 1 _ rfl; (with_reducible repeat apply pK); refine blk_put (cs := #[.int .i64 0, .int .i64 0, .slice none 0 0, .int .i64 0, .bool false, .bool false]) ?_ 0 _ rfl; (with_reducible repeat apply pK); refine blk_far ?_ O.out _; (with_reducible repeat apply pK); exact d.out) Tryd.underlying24 rfl (by kernel_rfl)) rfl ?_
    exact ⟨_, by first | rfl | (simp [errW_none, errW_some] <;> rfl) | (simp only [← ae]; first | rfl | (simp [errW_none, errW_some] <;> rfl)) | (simp [*, errW_none, errW_some] <;> rfl), by (with_reducible repeat apply pR); exact Kd.R_mono (f6R P (Kd.R_far (p := ⟨z, 3, none⟩) (Kd.R_types (Kd.R_types HO_515002.out m.out (by decide)) d.out (by decide)) (fun _ hk => hk.1.2) (.int .i64 af)) (fun _ hk => hk.2)) (fun _ hk => trivial), bl_⟩

/-! ### edit_Deny: function 56 -/
section
theorem own_lt_ {α : Type} {d : Kd α} {e base k : Nat} {ok : Nat → Prop} {v : Value} {xs : List α} {w : World} (h : Kd.R d e w base ok v xs) (hk : some k = v.ownBlock) : k < w.heap.size := own_lt h.2.choose_spec.1 k hk.symm
/-- edit.Deny: the screen, locked; the error is a spot at the cursor. -/
def edit_Deny.f (c : Int) (d : Int) (b : List (S44)) (a : Int) (h : Bool) (e : Bool) (g : Option Er) (i : List S184) : Option (Int × Int × (List (S44)) × Int × Bool × Bool × Option Er × List S184) :=
 if b.length ≤ 16383 then (match g with | some (.num n) => some (c, d, b, a, true, e, some Er.spot, [⟨a, n⟩]) | _ => none) else none
set_option maxHeartbeats 8000000 in
set_option maxRecDepth 100000 in
theorem edit_Deny.calls (b : Int) (c : Int) (s : Option Addr) (u : Nat) (a : List (S44)) (d : Int) (j : Bool) (i : Bool) (A : Option Er) (F : Option Addr) (G : Nat) (y : List S184) (r1 : Int) (r2 : Int) (r3 : List (S44)) (r4 : Int) (r5 : Bool) (r6 : Bool) (r7 : Option Er) (r8 : List S184) (w : World) (D : Kd.C k44 w s a.length a) (B : a.length ≤ u) (K : Kd.C k184 w F y.length y) (J : y.length ≤ G) (h : edit_Deny.f b c a d j i A y = some (r1, r2, r3, r4, r5, r6, r7, r8)) :
  Calls Tryd.prog 56 #[.agg #[.int .i64 b, .int .i64 c, .slice s a.length u, .int .i64 d, .bool j, .bool i], errW (.slice F y.length G) A] w fun e w' => ∃ H Q : Value, e = .returned (.tuple #[.agg #[.int .i64 r1, .int .i64 r2, H, .int .i64 r4, .bool r5, .bool r6], errW Q r7]) ∧ Kd.R k44 44 w' w.heap.size (fun k_ => (w.heap.size ≤ k_)) H r3 ∧ Kd.V k184 184 w' w.heap.size (fun k_ => (w.heap.size ≤ k_) ∧ some k_ ≠ (H : Value).ownBlock) Q r8 ∧ Below w.heap.size w w' := by
 unfold edit_Deny.f at h
 by_cases hn : a.length ≤ 16383
 ·rw [if_pos hn] at h
  rcases A with _ | q
  ·cases h
  ·cases q with
   | spot => cases h
   | num n =>
    simp only [Option.some.injEq, Prod.mk.injEq] at h
    obtain ⟨rfl, rfl, rfl, rfl, rfl, rfl, rfl, rfl⟩ := h
    rw [errW_some, show (Er.num n).ty = ERNT from rfl, show (Er.num n).pay _ = .int .i64 n from rfl]
    have HR := Z D
    have HL := Z B
    have HC := Z (show grid_Copy.f b c a d j i = some (b, c, a, d, j, i) by unfold grid_Copy.f slices_Clone_shutter_api_Cell_shutter_api_Cell.f; rw [if_pos hn]; rfl)
    have HB := Z (Below.refl w.heap.size w)
    have hu := Tryd.underlying24
    have ar := Tryd.underlying85
    have au := Tryd.underlying34
    clear D B K J
    go_enter Tryd.func56, Tryd.ntmps56
    go_wp2_with (first
     | ((with_reducible refine gate_dst (N := 2) rfl ?_); refine bx_ 2 24 #[.int .i64 b, .int .i64 c, .slice s a.length u, .int .i64 d, .bool j, .bool i] ?_; intro x hg w1 hbox hb; have m := Z (below_step bl_ hb); have p := Z hbox; have r := Z (le_new hg (below_size bl_) : w.heap.size ≤ x); clear HB; have HB := m; have k := p; have ap := r; clear m p r hb hbox hg)
     | ((with_reducible refine gate_dst (N := 4) rfl ?_); refine bx_ 4 24 #[.int .i64 0, .int .i64 0, .slice none 0 0, .int .i64 0, .bool false, .bool false] ?_; intro E hg w2 hbox hb; have m := Z (blk_below (g := x) (o := .cells #[.int .i64 b, .int .i64 c, .slice s a.length u, .int .i64 d, .bool j, .bool i] 24 (0, 0)) k.out hb); have p := Z (below_step bl_ hb); have r := Z hbox; have v := Z (le_new hg (below_size bl_) : w.heap.size ≤ E); have z := Z (by rw [hg]; exact Nat.ne_of_lt (blk_lt k.out) : x ≠ E); clear k HB; have k := m; have HB := p; have l := r; have aq := v; have NB := z; clear m p r v z hb hbox hg; have hnb := NB.out; have hnc := NB.out.symm; obtain ⟨z0, z1, z2, z3, z4, z5, y0, y1, y2, y3, y4, y5⟩ := cells6 k.out)
     | ((with_reducible refine gate_callee (f := 38) rfl ?_); refine goesL_ (some 10) rfl rfl Tryd.func38 (by kernel_rfl) rfl #[.agg #[.int .i64 b, .int .i64 c, .slice s a.length u, .int .i64 d, .bool j, .bool i]] rfl ag_ ?_; (with_reducible refine (grid_Copy.calls b c _ _ a d j i b c a d j i _ ?side1 ?side2 HC.out).mono ?_); (case side1 => exact Kd.C_below HR.out HB.out); (case side2 => exact HL.out); rintro e w3 ⟨v1, rfl, M, hb⟩; refine ⟨_, rfl, ?_⟩; have HO := Z (Kd.R_lower M (below_size bl_)); replace k := Z (blk_below (g := x) (o := .cells #[.int .i64 b, .int .i64 c, .slice s a.length u, .int .i64 d, .bool j, .bool i] 24 (0, 0)) k.out hb); replace l := Z (blk_below (g := E) (o := .cells #[.int .i64 0, .int .i64 0, .slice none 0 0, .int .i64 0, .bool false, .bool false] 24 (0, 0)) l.out hb); replace HB := Z (below_step bl_ hb); clear M hb; obtain ⟨x0, x1, x2, x3, x4, x5, U, W, X, Y, q4, q5⟩ := cells6 k.out; obtain ⟨Ao, co, eo⟩ := Kd.R_slice HO.out; subst eo)
     | ((with_reducible refine gate_dst (N := 12) rfl ?_); obtain ⟨w5, hW⟩ : ∃ w5 : World, w5 = (((((((w3.setCell ⟨x, 0, none⟩ (.int .i64 b)).setCell ⟨x, 1, none⟩ (.int .i64 c)).setCell ⟨x, 2, none⟩ (.slice Ao a.length co)).setCell ⟨x, 3, none⟩ (.int .i64 d)).setCell ⟨x, 4, none⟩ (.bool j)).setCell ⟨x, 5, none⟩ (.bool i)).setCell ⟨x, 4, none⟩ (.bool true)) := ⟨_, rfl⟩; rw [← hW]; replace l := Z (show w5.heap[E]? = some (.cells #[.int .i64 0, .int .i64 0, .slice none 0 0, .int .i64 0, .bool false, .bool false] 24 (0, 0)) by (rw [hW]; exact blk_off l.out NB.out.symm off2_)); replace HO := Z (show Kd.R k44 44 w5 w.heap.size (fun _ => True) (.slice Ao a.length co) a by (rw [hW]; exact R_off HO.out k.out (by decide) off2_)); replace k := Z (show w5.heap[x]? = some (.cells #[.int .i64 b, .int .i64 c, .slice Ao a.length co, .int .i64 d, .bool true, .bool i] 24 (0, 0)) by (rw [hW]; refine blk_put (cs := #[.int .i64 b, .int .i64 c, .slice Ao a.length co, .int .i64 d, .bool j, .bool i]) ?_ 4 _ rfl; refine blk_put (cs := #[.int .i64 b, .int .i64 c, .slice Ao a.length co, .int .i64 d, .bool j, .bool i]) ?_ 5 _ rfl; refine blk_put (cs := #[.int .i64 b, .int .i64 c, .slice Ao a.length co, .int .i64 d, .bool j, .bool i]) ?_ 4 _ rfl; refine blk_put (cs := #[.int .i64 b, .int .i64 c, .slice Ao a.length co, .int .i64 d, .bool j, .bool i]) ?_ 3 _ rfl; refine blk_put (cs := #[.int .i64 b, .int .i64 c, .slice s a.length u, .int .i64 d, .bool j, .bool i]) ?_ 2 _ rfl; refine blk_put (cs := #[.int .i64 b, .int .i64 c, .slice s a.length u, .int .i64 d, .bool j, .bool i]) ?_ 1 _ rfl; refine blk_put (cs := #[.int .i64 b, .int .i64 c, .slice s a.length u, .int .i64 d, .bool j, .bool i]) ?_ 0 _ rfl; exact k.out)); replace HB := Z (show Below w.heap.size w w5 by (rw [hW]; exact bl_)); clear hW x0 x1 x2 x3 x4 x5 U W X Y q4 q5; obtain ⟨x0, x1, x2, x3, x4, x5, U, W, X, Y, q4, q5⟩ := cells6 k.out)
     | ((with_reducible refine gate_dst (N := 16) rfl ?_); refine bx_ 16 85 #[.int .i64 d, .iface ERNT (.int .i64 n)] ?_; intro I hg w4 hbox hb; have m := Z (Kd.R_below HO.out hb); have p := Z (blk_below l.out hb); have r := Z (below_step bl_ hb); have v := Z hbox; have O := Z (le_new hg (below_size bl_) : w.heap.size ≤ I); have z := Z (by rw [hg]; exact Nat.ne_of_lt (blk_lt l.out) : E ≠ I); have P := Z (by rw [hg]; exact fun h_ => Nat.lt_irrefl _ (own_lt_ HO.out h_) : some I ≠ (Value.slice Ao a.length co).ownBlock); clear HO l HB k; have HO := m; have l := p; have HB := r; have S := v; have T := O; have L := z; have NO := P; clear m p r v O z P hb hbox hg; have hnd := L.out; obtain ⟨s0, s1, s2, s3, s4, s5, p0, p1, p2, p3, p4, p5⟩ := cells6 l.out))
    refine bodyPost_ret (results_ct rfl _ _ E 24 #[.int .i64 b, .int .i64 c, .slice Ao a.length co, .int .i64 d, .bool true, .bool i] (0, 0) _ rfl (by first | (refine blk_put (cs := #[.int .i64 b, .int .i64 c, .slice Ao a.length co, .int .i64 d, .bool true, .bool false]) ?_ 5 _ rfl; refine blk_put (cs := #[.int .i64 b, .int .i64 c, .slice Ao a.length co, .int .i64 d, .bool false, .bool false]) ?_ 4 _ rfl; refine blk_put (cs := #[.int .i64 b, .int .i64 c, .slice Ao a.length co, .int .i64 0, .bool false, .bool false]) ?_ 3 _ rfl; refine blk_put (cs := #[.int .i64 b, .int .i64 c, .slice none 0 0, .int .i64 0, .bool false, .bool false]) ?_ 2 _ rfl; refine blk_put (cs := #[.int .i64 b, .int .i64 0, .slice none 0 0, .int .i64 0, .bool false, .bool false]) ?_ 1 _ rfl; refine blk_put (cs := #[.int .i64 0, .int .i64 0, .slice none 0 0, .int .i64 0, .bool false, .bool false]) ?_ 0 _ rfl; exact l.out)) Tryd.underlying24 rfl (by kernel_rfl)) rfl ?_
    exact ⟨_, .slice (some ⟨I, 0, none⟩) 1 1, rfl, Kd.R_reok rfl (R_off HO.out l.out (by decide) off2_) (fun k_ e_ => Kd.R_base (R_off HO.out l.out (by decide) off2_) k_ e_), spot_V (blk_off S.out L.out.symm off2_) ⟨T.out, NO.out⟩, bl_⟩
 ·rw [if_neg hn] at h; cases h
end

/-! ### field_Cells: function 80 -/
section
open Go.Shelf
attribute [local go_sem] Oper.semAt_some

def takeW (p : Int → Bool) (g : Nat → Int) : Nat → Nat → List Int
 | 0, _ => []
 | c + 1, s => if p (g s) = true then [] else g s :: takeW p g c (s + 1)
theorem uptoI_front {α : Type} (f : Nat → α) (k : Nat) : uptoI f (k + 1) = f 0 :: uptoI (fun j => f (j + 1)) k := by
 simp [uptoI, List.range_succ_eq_map, Function.comp_def]
theorem takeW_eq (p : Int → Bool) (g : Nat → Int) : ∀ c s k, k ≤ c → (∀ i, i < k → p (g (s + i)) = false) → (k = c ∨ p (g (s + k)) = true) → takeW p g c s = uptoI (fun j => g (s + j)) k
 | 0, s, k, d, b, a => by
  obtain rfl : k = 0 := by omega
  rfl
 | c + 1, s, k, d, b, a => by
  unfold takeW
  rcases k with _ | k
  ·rcases a with a | a
   ·omega
   ·rw [if_pos (by simpa using a)]; rfl
  ·rw [if_neg (by have := b 0 (by omega); simp at this; rw [this]; decide), uptoI_front]
   have := takeW_eq p g c (s + 1) k (by omega) (fun i hi => by have := b (i + 1) (by omega); rw [show s + 1 + i = s + (i + 1) by omega]; exact this) (by
    rcases a with a | a
    ·left; omega
    ·right; rw [show s + 1 + k = s + (k + 1) by omega]; exact a)
   rw [this]
   simp only [Nat.add_zero]
   congr 1
   congr 1
   funext j
   rw [show s + 1 + j = s + (j + 1) by omega]
/-- the cells of a cell's field -/
def cellsI (l : List S44) (a : Int) : List Int := if beginI l a < 0 then uptoI (fun j => (j : Int)) l.length else takeW (isF l) (wayI l.length (beginI l a) 1) l.length 0
set_option maxRecDepth 100000 in
set_option maxHeartbeats 4000000 in
theorem Cells_none (r c : Int) (A : Option Addr) (cp : Nat) (l : List S44) (cu : Int) (lo ins : Bool) (a : Int) (w : World) (hr : Kd.C k44 w A l.length l) (hc : l.length ≤ cp) (hn : l.length ≤ 16383) (u : 0 ≤ a) (x : a < l.length) (hb : beginI l a = -1) :
  CallsIn Fence.wide 5 Tryd.prog 80 #[.agg #[.int .i64 r, .int .i64 c, .slice A l.length cp, .int .i64 cu, .bool lo, .bool ins], .int .i64 a] w fun e w' => ∃ v : Value, e = .returned v ∧ Kd.R (Kd.int .i64) 3 w' w.heap.size (fun _ => True) v (cellsI l a) ∧ Below w.heap.size w w' := by
 have hE : cellsI l a = uptoI (fun j => (j : Int)) l.length := by rw [cellsI, hb]; rfl
 rw [hE]
 have hBg := Z (fun W hr => field_Begin.calls r c A cp l cu lo ins a (-1) W hr hc (by unfold field_Begin.f; rw [if_pos hn, if_pos u, if_pos x, hb]))
 clear hE hb
 have HR := Z hr
 clear hr
 obtain ⟨i0, hi, q, s, t⟩ := info_parts infoInt
 have y := Tryd.underlying24
 refine callsIn_of_wp Tryd.func80 rfl trivial ?_ rfl
 simp only [Tryd.ntmps80, List.size_toArray, List.length_cons, List.length_nil, Nat.reduceAdd, Nat.reduceSub, Array.replicate_succ, Array.replicate_zero, List.push_toArray, List.append_toArray, List.nil_append, List.cons_append]
 have d : Below w.heap.size w ((w.alloc (.cells #[.int .i64 r, .int .i64 c, .slice A l.length cp, .int .i64 cu, .bool lo, .bool ins] 24)).alloc (.cells #[.slice none 0 0] 78)) := below_alloc (below_alloc (Below.refl _ _) _) _
 have k1 := blk_alloc (blk_new w (.cells #[.int .i64 r, .int .i64 c, .slice A l.length cp, .int .i64 cu, .bool lo, .bool ins] 24)) (.cells #[.slice none 0 0] 78)
 have k2 := Boxed.new (w.alloc (.cells #[.int .i64 r, .int .i64 c, .slice A l.length cp, .int .i64 cu, .bool lo, .bool ins] 24)) 78 (.slice none 0 0)
 simp only [World.size_alloc] at k2
 gi_wp2_with (refine ⟨trivial, ?_⟩; gi_at_call 82; refine (callsIn_wide.2 (hBg.out _ (Kd.C_below HR.out d))).mono ?_; rintro e w1 ⟨rfl, b⟩; have g := below_step d b; have hS := blk_below k1 b; have hO : Boxed w1 (w.heap.size + 1) 78 (.slice none 0 0) := blk_below k2 b; clear b k1 k2; have z := (blk_cell hS 2).trans rfl)
 gi_loopw [17] (fun i wr => ∃ k : Nat, k ≤ l.length ∧ i = .int .i64 k ∧ Aside0 (∃ v, Boxed wr (w.heap.size + 1) 78 v ∧ wr.ownsRow w.heap.size 3 1 v k ((uptoI (fun j => (j : Int)) k).map (Value.int .i64))) ∧ Aside0 (Below w.heap.size w wr))
  (fun i _ => l.length - (intOf i).toNat)
 case atStart => exact ⟨0, Nat.zero_le _, rfl, ⟨_, hO, World.ownsRow_nil _ _ _ _⟩, ⟨g⟩⟩
 case round =>
  clear hO g hS z
  obtain ⟨k, hk, rfl, ⟨v, hv, hrow⟩, ⟨hB⟩⟩ := hrel
  by_cases hlt : k < l.length
  ·have o := hv.cell
   gi_wp2_with (gi_at_builtin; refine wpListIn_append_own _ rfl _ _ 78 rfl w.heap.size 3 i0 (.int .i64 0) 1 8 Tryd.underlying78 hi q s t rfl (by decide) _ _ _ rfl (hrow.alloc _) ⟨wr.heap.size, 0, none⟩ 1 1 [.int .i64 (k : Int)] rfl rfl (cell_one_new _ _ _) (by simp [Value.oneCell']) (by simp only [maxLen]; omega) (by omega) (by have := hB.size; simp; omega) ?_; intro v' w1 hown' hgrow _; obtain ⟨g', cap', rfl⟩ := ownsRow_succ hown'; obtain ⟨h, p, n, E, m⟩ := hv.appended (by decide) hrow hB.size (Nat.le_succ _) hown' hgrow; have B := h.cell; have D := h.frozen; clear hgrow hown')
   go_roundw
   case rel => exact ⟨k + 1, by omega, by go_num, ⟨_, p, by rw [uptoI_succ]; simpa using n⟩, ⟨hB.trans m⟩⟩
   case measure => simp [intOf]; omega
  ·obtain rfl : k = l.length := by omega
   have o := hv.cell
   gi_wp2
   go_ret
   exact ⟨v, rfl, Kd.R_of_own (by rw [uptoI_length]; exact hrow) (fun _ _ => trivial), hB⟩

theorem ownsRow_mono {w : World} {base base' : Nat} {e : TypeId} {size : Nat} {v : Value} {n : Nat} {xs : List Value} (h : w.ownsRow base e size v n xs) (hb : base' ≤ base) : w.ownsRow base' e size v n xs := by
 refine ⟨h.1, ?_⟩
 rcases h.2 with b | ⟨g, cap, cur, a, c, r⟩
 ·exact .inl b
 ·exact .inr ⟨g, cap, cur, a, by omega, r⟩
theorem ownsRow_far {w : World} {base k : Nat} {e : TypeId} {size : Nat} {v : Value} {n : Nat} {xs : List Value} (h : w.ownsRow base e size v n xs) (hk : k < base) : some k ≠ v.ownBlock := by
 rcases h.2 with ⟨rfl, _⟩ | ⟨g, cap, cur, rfl, a, r⟩
 ·simp [Value.ownBlock]
 ·intro he; have : k = g := by simpa [Value.ownBlock] using he
  omega
/-- what lies below the row's base, and is not the variable's box, stays behind 'out = append(out, ..)' -/
theorem appended_far {W w1 : World} {base B k : Nat} {e : TypeId} {size n : Nat} {v v' : Value} {xs : List Value} {tmp : Obj} (hrow : W.ownsRow base e size v n xs) (hgrow : (W.alloc tmp).grownBy w1 v.ownBlock) (hk : k < base) (hkW : k < W.heap.size) (hkB : k ≠ B) : (w1.setCell ⟨B, 0, none⟩ v').heap[k]? = W.heap[k]? :=
 (Below.heap_setCell _ _ _ k hkB).trans ((hgrow.block k (by simp; omega) (ownsRow_far hrow hk)).trans (Below.heap_alloc _ _ _ hkW))
theorem appended_keep3 {W w1 : World} {base B a b b3 : Nat} {e : TypeId} {size n : Nat} {v v' : Value} {xs : List Value} {tmp : Obj} (hrow : W.ownsRow base e size v n xs) (hgrow : (W.alloc tmp).grownBy w1 v.ownBlock) (hbW : base ≤ W.heap.size) (c : a < base) (d : b < base) (f : b3 < base) (k1 : a ≠ B) (k2 : b ≠ B) (k3 : b3 ≠ B) : Keep3 a b b3 W (w1.setCell ⟨B, 0, none⟩ v') :=
 ⟨by have := hgrow.size; simp [World.setCell] at this ⊢; omega, appended_far hrow hgrow c (by omega) k1, appended_far hrow hgrow d (by omega) k2, appended_far hrow hgrow f (by omega) k3⟩

set_option maxRecDepth 100000 in
set_option maxHeartbeats 4000000 in
theorem Cells_loop (r c : Int) (A : Option Addr) (cp : Nat) (l : List S44) (cu : Int) (lo ins : Bool) (a b : Int) (w : World) (hr : Kd.C k44 w A l.length l) (hc : l.length ≤ cp) (hn : l.length ≤ 16383) (L : 0 ≤ a) (M : a < l.length) (hb : beginI l a = b) (q : 0 ≤ b) (d : b < l.length) :
  CallsIn Fence.wide 5 Tryd.prog 80 #[.agg #[.int .i64 r, .int .i64 c, .slice A l.length cp, .int .i64 cu, .bool lo, .bool ins], .int .i64 a] w fun e w' => ∃ v : Value, e = .returned v ∧ Kd.R (Kd.int .i64) 3 w' w.heap.size (fun _ => True) v (cellsI l a) ∧ Below w.heap.size w w' := by
 have hpos : 0 < l.length := by omega
 have hE : cellsI l a = takeW (isF l) (wayI l.length b 1) l.length 0 := by rw [cellsI, hb, if_neg (by omega)]
 rw [hE]
 have hBg := Z (fun W hr => field_Begin.calls r c A cp l cu lo ins a b W hr hc (by unfold field_Begin.f; rw [if_pos hn, if_pos L, if_pos M, hb]))
 clear hE hb
 have HR := Z hr
 clear hr
 obtain ⟨i0, hi, z, E, F⟩ := info_parts infoInt
 have N := Tryd.underlying24
 have O := Tryd.underlying44
 have hbd : decide (b < 0) = false := decide_eq_false (by omega)
 refine callsIn_of_wp_marks Tryd.func80 rfl trivial ?_ rfl
 simp only [Tryd.ntmps80, List.size_toArray, List.length_cons, List.length_nil, Nat.reduceAdd, Nat.reduceSub, Array.replicate_succ, Array.replicate_zero, List.push_toArray, List.append_toArray, List.nil_append, List.cons_append]
 have h : Below w.heap.size w ((w.alloc (.cells #[.int .i64 r, .int .i64 c, .slice A l.length cp, .int .i64 cu, .bool lo, .bool ins] 24)).alloc (.cells #[.slice none 0 0] 78)) := below_alloc (below_alloc (Below.refl _ _) _) _
 have k1 := blk_alloc (blk_new w (.cells #[.int .i64 r, .int .i64 c, .slice A l.length cp, .int .i64 cu, .bool lo, .bool ins] 24)) (.cells #[.slice none 0 0] 78)
 have k2 := Boxed.new (w.alloc (.cells #[.int .i64 r, .int .i64 c, .slice A l.length cp, .int .i64 cu, .bool lo, .bool ins] 24)) 78 (.slice none 0 0)
 simp only [World.size_alloc] at k2
 gi_wp2_with (first
  | (refine ⟨trivial, ?_⟩; gi_at_call 82; refine (callsIn_wide.2 (hBg.out _ (Kd.C_below HR.out h))).mono ?_; rintro e w1 ⟨rfl, d⟩; have m := below_step h d; have hS := blk_below k1 d; have hO : Boxed w1 (w.heap.size + 1) 78 (.slice none 0 0) := blk_below k2 d; clear d k1 k2; have X := (blk_cell hS 0).trans rfl; have Y := (blk_cell hS 1).trans rfl; have P := (blk_cell hS 2).trans rfl; have s3 := (blk_cell hS 3).trans rfl; have s4 := (blk_cell hS 4).trans rfl; have s5 := (blk_cell hS 5).trans rfl)
  | (refine ⟨trivial, ?_⟩; gi_at_call 94; refine (callsIn_wide.2 (Round_exact r c _ _ cp cu lo ins b 1 _)).mono ?_; rintro e w' ⟨rfl, rfl⟩))
 have j1 := blk_new w1 (.cells #[.int .i64 r, .int .i64 c, .slice A l.length cp, .int .i64 cu, .bool lo, .bool ins] 24)
 have G := blk_new (w1.alloc (.cells #[.int .i64 r, .int .i64 c, .slice A l.length cp, .int .i64 cu, .bool lo, .bool ins] 24)) (.cells #[.int .i64 b] 3)
 have j3 := blk_new ((w1.alloc (.cells #[.int .i64 r, .int .i64 c, .slice A l.length cp, .int .i64 cu, .bool lo, .bool ins] 24)).alloc (.cells #[.int .i64 b] 3)) (.cells #[.int .i64 1] 3)
 simp only [World.size_alloc] at G j3
 have hBx : Below w.heap.size w (((w1.alloc (.cells #[.int .i64 r, .int .i64 c, .slice A l.length cp, .int .i64 cu, .bool lo, .bool ins] 24)).alloc (.cells #[.int .i64 b] 3)).alloc (.cells #[.int .i64 1] 3)) := below_alloc (below_alloc (below_alloc m _) _) _
 have V := m.size
 have Q : w.heap.size + 2 ≤ w1.heap.size := by have := blk_lt hO; omega
 refine wpIn_rangeFunc_ownG rfl (by omega) (gf := 100) (lb := #[.pointer (some ⟨w1.heap.size, 0, none⟩), .pointer (some ⟨w1.heap.size + 1, 0, none⟩), .pointer (some ⟨w1.heap.size + 1 + 1, 0, none⟩)]) rfl trivial (enters_of Tryd.func100 (by kernel_rfl) rfl)
  (round_stops 4 (by omega) w1.heap.size (w1.heap.size + 1) (w1.heap.size + 1 + 1) r c A l.length cp cu lo ins b 1 hpos hn q d _ (blk_alloc (blk_alloc j1 _) _) (blk_alloc G _) j3) Keep3.trans (Keep3.put (by simp; omega) (by simp) (by simp)) (Below.refl _ _) (fun _ => rfl)
  (fun pre W => W.heap[w.heap.size]? = some (.cells #[.int .i64 r, .int .i64 c, .slice A l.length cp, .int .i64 cu, .bool lo, .bool ins] 24 (0, 0)) ∧ ((∃ v, Boxed W (w.heap.size + 1) 78 v ∧ W.ownsRow (w1.heap.size + 3) 3 1 v pre.length (pre.map fun x => Value.int .i64 x.1) ∧ ((∀ x ∈ pre, isF l x.1 = false) ∧ True)) ∧ (w1.heap.size + 3 ≤ W.heap.size ∧ Below w.heap.size w W)))
  (fun c' pre W => (∃ v, Boxed W (w.heap.size + 1) 78 v ∧ W.ownsRow (w1.heap.size + 3) 3 1 v pre.dropLast.length (pre.dropLast.map fun x => Value.int .i64 x.1) ∧ (c' = .exit 2 ∧ ∃ ini last, pre = ini ++ [last] ∧ (∀ x ∈ ini, isF l x.1 = false) ∧ isF l last.1 = true)) ∧ Below w.heap.size w W)
  (OwnFrom.and (Own.from (fun s A B row hs hg hr => (grownBy_keeps_cells hg hr hs rfl).trans hs) _) (OwnFrom.and (Own.from (holdsRow_own (w1.heap.size + 3) (w.heap.size + 1) 78 3 1 (fun pre : List (Rng l.length) => pre.length) (fun pre => pre.map fun x => Value.int .i64 x.1) (fun pre v => (∀ x ∈ pre, isF l x.1 = false) ∧ True)) _) (OwnFrom.and (fun s A B row hs hg _ => Nat.le_trans hs hg.size) (ownFrom_below (Nat.le_refl _) (by simp; omega)))))
  (fun c' => OwnFrom.and (Own.from (holdsRow_own (w1.heap.size + 3) (w.heap.size + 1) 78 3 1 (fun pre : List (Rng l.length) => pre.dropLast.length) (fun pre => pre.dropLast.map fun x => Value.int .i64 x.1) (fun pre v => c' = .exit 2 ∧ ∃ ini last, pre = ini ++ [last] ∧ (∀ x ∈ ini, isF l x.1 = false) ∧ isF l last.1 = true)) _) (ownFrom_below (Nat.le_refl _) (by simp; omega)))
  ⟨blk_alloc (blk_alloc (blk_alloc hS _) _) _, ⟨_, blk_alloc (blk_alloc (blk_alloc hO _) _) _, World.ownsRow_nil _ _ _ _, by simp⟩, by simp, hBx⟩
  (fun x => { tmps := #[.agg #[.int .i64 r, .int .i64 c, .slice A l.length cp, .int .i64 cu, .bool lo, .bool ins], .int .i64 a, .pointer (some ⟨w.heap.size, 0, none⟩), undef, .slice none 0 0, .pointer (some ⟨w.heap.size + 1, 0, none⟩), .int .i64 b, undef, .int .i64 x.1, .agg #[.int .i64 r, .int .i64 c, .slice A l.length cp, .int .i64 cu, .bool lo, .bool ins], .int .i64 a, .int .i64 b, .int .i64 b, .bool false, undef, undef, undef, undef, undef, undef, undef, undef, undef, undef, undef, undef, .agg #[.int .i64 r, .int .i64 c, .slice A l.length cp, .int .i64 cu, .bool lo, .bool ins], .int .i64 b, .func (.func 100) #[] #[.pointer (some ⟨w1.heap.size, 0, none⟩), .pointer (some ⟨w1.heap.size + 1, 0, none⟩), .pointer (some ⟨w1.heap.size + 1 + 1, 0, none⟩)], .int .i64 x.1, undef, undef, undef, undef, undef, undef, undef, undef, undef, undef, undef], defers := [] }) ?assign ?body ?done ?stop
 case assign =>
  intro l x W K hK
  gi_wp2
  exact hK
 case body =>
  rintro lp pre x W ⟨hS, ⟨v, hv, hrow, hp, _⟩, hbW, hB⟩ hlt
  have hr := HR.out
  obtain ⟨ad', e', hcx, hltx⟩ := cell_f0 hr x.1 x.2.1 x.2.2
  subst e'
  have hcW := (hB.cell hltx).trans hcx
  have P := (blk_cell hS 2).trans rfl
  have x0 := x.2.1
  have x1 := x.2.2
  have o := hv.cell
  cases hfx : isF l x.1 with
  | true =>
   rw [hfx] at hcW
   gi_wp2
   exact ⟨KeepsFrom.refl _ _, ⟨v, hv, by simpa using hrow, rfl, pre, x, rfl, hp, hfx⟩, hB⟩
  | false =>
   rw [hfx] at hcW
   gi_wp2_with (gi_at_builtin; refine wpListIn_append_own _ rfl _ _ 78 rfl (w1.heap.size + 3) 3 i0 (.int .i64 0) 1 8 Tryd.underlying78 hi z E F rfl (by decide) _ _ _ rfl (hrow.alloc _) ⟨W.heap.size, 0, none⟩ 1 1 [.int .i64 x.1] rfl rfl (cell_one_new _ _ _) (by simp [Value.oneCell']) (by simp only [maxLen]; omega) (by omega) (by simp; omega) ?_; intro v' w2 hown' hgrow _; obtain ⟨g', cap', rfl⟩ := ownsRow_succ hown'; obtain ⟨g, u, U, t, n⟩ := hv.appended (by decide) (ownsRow_mono hrow (by omega)) hB.size (Nat.le_succ _) (ownsRow_mono hown' (by omega)) hgrow; have S := g.cell; have T := g.frozen)
   exact ⟨t.from _, appended_keep3 hrow hgrow hbW (by omega) (by omega) (by omega) (by omega) (by omega) (by omega), (appended_far hrow hgrow (by omega) (by omega) (by omega)).trans hS, ⟨_, u, by have := hown'.kept (grownBy_setCell' w2 (w.heap.size + 1) (.slice (some ⟨g', 0, none⟩) (pre.length + 1) cap')) (.inr (g.not_row (by decide) hown').symm); simpa using this, fun y hy => (List.mem_append.1 hy).elim (hp y) (fun e => by simp at e; subst e; exact hfx), trivial⟩, by have := n.size; omega, hB.trans n⟩
 case done =>
  rintro D ys W hD rfl ⟨hS, ⟨v, hv, hrow, hp, _⟩, hbW, hB⟩ hK
  have o := hv.cell
  gi_wp2
  refine ⟨by simp, .inl ⟨_, _, rfl, run_takeDeferred hK, ?_⟩⟩
  have hT := takeW_eq (isF l) (wayI l.length b 1) l.length 0 l.length (Nat.le_refl _) (fun i hi => by rw [Nat.zero_add]; exact hp _ (mem_uptoI (wayS hpos b 1) l.length i hi)) (.inl rfl)
  simp only [Nat.zero_add] at hT
  have p : (uptoI (wayS hpos b 1) l.length).map (fun x => Value.int .i64 x.1) = (uptoI (wayI l.length b 1) l.length).map (Value.int .i64) := by simp [uptoI, wayS]
  rw [p, uptoI_length] at hrow
  refine ⟨_, results_tmp rfl _ _ _, v, rfl, ?_, hB.trans (belowK_b (w := w) (Nat.le_refl _) W D _ _ (by simp at hD; omega) hK rfl rfl)⟩
  rw [hT]
  exact Kd.R_of_own (by rw [uptoI_length]; exact ownsRow_putObj (ownsRow_mono hrow (by omega)) _ hK rfl) (fun _ _ => trivial)
 case stop =>
  rintro D c' pre W hD ⟨k, hk, rfl⟩ ⟨⟨v, hv, hrow, rfl, ini, last, p, H, I⟩, hB⟩ hK
  have o := hv.cell
  gi_wp2
  refine ⟨by simp, .inl ⟨_, _, rfl, run_takeDeferred hK, ?_⟩⟩
  obtain ⟨j, rfl, rfl, rfl⟩ := uptoI_last _ _ _ _ p
  have hT := takeW_eq (isF l) (wayI l.length b 1) l.length 0 j (by omega) (fun i hi => by rw [Nat.zero_add]; exact H _ (mem_uptoI (wayS hpos b 1) j i hi)) (.inr (by rw [Nat.zero_add]; exact I))
  simp only [Nat.zero_add] at hT
  have J : (uptoI (wayS hpos b 1) j).map (fun x => Value.int .i64 x.1) = (uptoI (wayI l.length b 1) j).map (Value.int .i64) := by simp [uptoI, wayS]
  rw [uptoI_succ, List.dropLast_concat, J, uptoI_length] at hrow
  refine ⟨_, results_tmp rfl _ _ _, v, rfl, ?_, hB.trans (belowK_b (w := w) (Nat.le_refl _) W D _ _ (by simp at hD; omega) hK rfl rfl)⟩
  rw [hT]
  exact Kd.R_of_own (by rw [uptoI_length]; exact ownsRow_putObj (ownsRow_mono hrow (by omega)) _ hK rfl) (fun _ _ => trivial)

def field_Cells.f (b : Int) (c : Int) (a : List (S44)) (d : Int) (e : Bool) (g : Bool) (a1 : Int) : Option (List Int) := if a.length ≤ 16383 then (if 0 ≤ a1 then (if a1 < (a.length : Int) then (some (cellsI a a1)) else (none)) else (none)) else (none)
theorem field_Cells.calls (c : Int) (d : Int) (b : Option Addr) (k : Nat) (a : List (S44)) (g : Int) (i : Bool) (j : Bool) (a1 : Int) (r : List Int) (w : World) (m : Kd.C k44 w b a.length a) (l : a.length ≤ k) (h : field_Cells.f c d a g i j a1 = some r) :
  Calls Tryd.prog 80 #[.agg #[.int .i64 c, .int .i64 d, .slice b a.length k, .int .i64 g, .bool i, .bool j], .int .i64 a1] w fun e w' => ∃ n : Value, e = .returned (n) ∧ Kd.R (Kd.int .i64) 3 w' w.heap.size (fun _ => True) n r ∧ Below w.heap.size w w' := by
 obtain ⟨hn, o, p, rfl⟩ := guard3 h
 rcases begin_range a a1 (by omega) with hb | ⟨q, s, _⟩
 ·exact callsIn_wide.1 (Cells_none c d b k a g i j a1 w m l hn o p hb)
 ·exact callsIn_wide.1 (Cells_loop c d b k a g i j a1 _ w m l hn o p rfl q s)
end

/-! ### slices_Index_int_int: function 81 -/
def slices_Index_int_int.l0 : Nat → List Int → Int → Int → Int → Option (Int)
 | 0, _, _, _, _ => none
 | k + 1, b, c, d, a => if a < d then (if 0 ≤ a then (if a < (b.length : Int) then (if c = (rd b a) then (some a) else (slices_Index_int_int.l0 k b c d (wrap64 (a + 1)))) else (none)) else (none)) else (some (-1))
def slices_Index_int_int.f (k : Nat) (l0 : List Int) (a1 : Int) : Option (Int) := slices_Index_int_int.l0 k l0 a1 (l0.length : Int) 0
theorem slices_Index_int_int.mono_l : ∀ k, (∀ b c d e, LeO (slices_Index_int_int.l0 k b c d e) (slices_Index_int_int.l0 (k + 1) b c d e))
 | 0 => fun _ _ _ _ r h => by simp [slices_Index_int_int.l0] at h
 | k + 1 => by
  have a := slices_Index_int_int.mono_l k
  ·intro b c d e
   unfold slices_Index_int_int.l0
   repeat' first
   | (with_reducible exact a _ _ _ _)
   | (with_reducible exact LeO.refl _)
   | (with_reducible exact LeO.none _)
   | (with_reducible refine LeO.ite ?_ ?_)
   | (with_reducible refine LeO.bind ?_ (fun _ => ?_))
   | exact a _ _ _ _
   | exact LeO.none _
   | refine LeO.ite ?_ ?_
   | refine LeO.bind ?_ (fun _ => ?_)
theorem slices_Index_int_int.mono : ∀ a0 a1 k, LeO (slices_Index_int_int.f k a0 a1) (slices_Index_int_int.f (k + 1) a0 a1) := by
 intro a0 a1 k
 have a := slices_Index_int_int.mono_l k
 unfold slices_Index_int_int.f
 repeat' first
   | (with_reducible exact a _ _ _ _)
   | (with_reducible exact LeO.refl _)
   | (with_reducible exact LeO.none _)
   | (with_reducible refine LeO.ite ?_ ?_)
   | (with_reducible refine LeO.bind ?_ (fun _ => ?_))
   | exact a _ _ _ _
   | exact LeO.none _
   | refine LeO.ite ?_ ?_
   | refine LeO.bind ?_ (fun _ => ?_)
set_option maxHeartbeats 8000000 in
set_option maxRecDepth 100000 in
theorem slices_Index_int_int.calls (k : Nat) (q : Option Addr) (c0 : Nat) (l0 : List Int) (a1 : Int) (r : Int) (w : World) (hr0 : Kd.C (Kd.int .i64) w q l0.length l0) (m : l0.length ≤ c0) (h : slices_Index_int_int.f k l0 a1 = some r) :
  Calls Tryd.prog 81 #[.slice q l0.length c0, .int .i64 a1] w fun e w' => e = .returned (.int .i64 r) ∧ Drawn0 w w' := by
 have l := Z hr0
 have v := Z m
 clear hr0 m
 have H : (slices_Index_int_int.l0 k l0 a1 (l0.length : Int) 0) = some r := h
 clear h
 have H' := Z H
 clear H
 go_enter Tryd.func81, Tryd.ntmps81
 go_wp2
 go_loopg [8] k (fun kq u w' => ∃ (a : Int), u = .int .i64 a ∧ Aside0 (slices_Index_int_int.l0 kq l0 a1 (l0.length : Int) a = some r) ∧ Aside0 (kq ≤ k) ∧ Drawn0 w w')
 case atStart => exact ⟨(0), (dn_), H', ⟨Nat.le_refl _⟩, dr_⟩
 case round =>
  clear H'
  try clear p2
  obtain ⟨a, rfl, HA, j, ⟨x, rfl⟩⟩ := hrel
  cases gk with
  | zero => exact absurd HA.out (by simp [slices_Index_int_int.l0])
  | succ k1 =>
   have H := HA.out
   clear HA
   simp only [slices_Index_int_int.l0] at H
   by_cases c3 : a < (l0.length : Int)
   ·rw [if_pos c3] at H
    have n : decide (a < (l0.length : Int)) = true := decide_eq_true c3
    clear c3
    by_cases c4 : 0 ≤ a
    ·rw [if_pos c4] at H
     have s : decide (0 ≤ a) = true := decide_eq_true c4
     clear c4
     by_cases c5 : a < (l0.length : Int)
     ·rw [if_pos c5] at H
      have t : decide (a < (l0.length : Int)) = true := decide_eq_true c5
      clear c5
      by_cases c6 : a1 = (rd l0 a)
      ·rw [if_pos c6] at H
       have o : (a1 == (rd l0 a)) = true := beq_iff_eq.mpr c6
       have p : (a1 != (rd l0 a)) = false := bne_eq_false_iff_eq.mpr c6
       clear c6
       obtain rfl := Option.some.inj H
       have b : 0 ≤ (a : Int) := od_
       have c : a < (l0.length : Int) := od_
       obtain ⟨i, d, g⟩ := Kd.at_int l.out a b c
       cases d
       replace b := eq_true b
       replace c := eq_true c
       go_wp2
       go_ret
       exact ⟨dn_, dr_⟩
      ·rw [if_neg c6] at H
       have o : (a1 == (rd l0 a)) = false := beq_eq_false_iff_ne.mpr c6
       have p : (a1 != (rd l0 a)) = true := bne_iff_ne.mpr c6
       have H' := Z H
       clear H
       have b : 0 ≤ (a : Int) := od_
       have c : a < (l0.length : Int) := od_
       obtain ⟨i, d, g⟩ := Kd.at_int l.out a b c
       cases d
       replace b := eq_true b
       replace c := eq_true c
       go_wp2
       go_roundg k1
       case measure => have := j.out; omega
       case rel => exact ⟨(wrap64 (a + 1)), (dn_), H', ⟨by have := j.out; omega⟩, dr_⟩
     ·rw [if_neg c5] at H
      exact absurd H (by simp)
    ·rw [if_neg c4] at H
     exact absurd H (by simp)
   ·rw [if_neg c3] at H
    have n : decide (a < (l0.length : Int)) = false := decide_eq_false c3
    clear c3
    obtain rfl := Option.some.inj H
    go_wp2
    go_ret
    exact ⟨dn_, dr_⟩

/-! ### edit_Line: function 57 -/
def edit_Line.f (k : Nat) (c : Int) (d : Int) (i : List (S44)) (e : Int) (g : Bool) (h : Bool) (a1 : Int) : Option (List Int) := (field_Open.f c d i e g h a1).bind fun j => (if j = true then ((field_Cells.f c d i e g h a1).bind fun a => ((slices_Index_int_int.f k a a1).bind fun b => (if 0 ≤ b then (if b ≤ (a.length : Int) then (some (a.drop (b : Int).toNat)) else (none)) else (none)))) else (some ([] : List Int)))
theorem edit_Line.mono : ∀ a0 a1 a b a4 c d k, LeO (edit_Line.f k a0 a1 a b a4 c d) (edit_Line.f (k + 1) a0 a1 a b a4 c d) := by
 intro a0 a1 a b a4 c d k
 unfold edit_Line.f
 repeat' first
   | (with_reducible exact slices_Index_int_int.mono _ _ _)
   | (with_reducible exact LeO.refl _)
   | (with_reducible exact LeO.none _)
   | (with_reducible refine LeO.ite ?_ ?_)
   | (with_reducible refine LeO.bind ?_ (fun _ => ?_))
   | exact slices_Index_int_int.mono _ _ _
   | exact LeO.none _
   | refine LeO.ite ?_ ?_
   | refine LeO.bind ?_ (fun _ => ?_)
set_option maxHeartbeats 8000000 in
set_option maxRecDepth 100000 in
theorem edit_Line.calls (k : Nat) (g : Int) (i : Int) (p : Option Addr) (q : Nat) (c : List (S44)) (j : Int) (l : Bool) (m : Bool) (a1 : Int) (r : List Int) (w : World) (R : Kd.C k44 w p c.length c) (M : c.length ≤ q) (h : edit_Line.f k g i c j l m a1 = some r) :
  Calls Tryd.prog 57 #[.agg #[.int .i64 g, .int .i64 i, .slice p c.length q, .int .i64 j, .bool l, .bool m], .int .i64 a1] w fun e w' => ∃ ah : Value, e = .returned (ah) ∧ Kd.Q (Kd.int .i64) 3 w' w.heap.size (fun _ => True) ah r ∧ Below w.heap.size w w' := by
 have a6 := Tryd.underlying24
 have E := Z R
 have D := Z M
 clear R M
 have HB := Z (Below.refl w.heap.size w)
 have H : ((field_Open.f g i c j l m a1).bind fun G => (if G = true then ((field_Cells.f g i c j l m a1).bind fun b => ((slices_Index_int_int.f k b a1).bind fun a => (if 0 ≤ a then (if a ≤ (b.length : Int) then (some (b.drop (a : Int).toNat)) else (none)) else (none)))) else (some ([] : List Int)))) = some r := h
 clear h
 replace H := Option.bind_eq_some_iff.mp H
 obtain ⟨G, ab, H⟩ := H
 replace H : (if G = true then ((field_Cells.f g i c j l m a1).bind fun b => ((slices_Index_int_int.f k b a1).bind fun a => (if 0 ≤ a then (if a ≤ (b.length : Int) then (some (b.drop (a : Int).toNat)) else (none)) else (none)))) else (some ([] : List Int))) = some r := H
 have A3 := Z ab
 clear ab
 by_cases c4 : G = true
 ·subst c4
  have H1 : ((field_Cells.f g i c j l m a1).bind fun b => ((slices_Index_int_int.f k b a1).bind fun a => (if 0 ≤ a then (if a ≤ (b.length : Int) then (some (b.drop (a : Int).toNat)) else (none)) else (none)))) = some r := by rw [if_pos rfl] at H; exact H
  clear H
  have H := H1
  clear H1
  replace H := Option.bind_eq_some_iff.mp H
  obtain ⟨b, ac, H⟩ := H
  replace H : ((slices_Index_int_int.f k b a1).bind fun a => (if 0 ≤ a then (if a ≤ (b.length : Int) then (some (b.drop (a : Int).toNat)) else (none)) else (none))) = some r := H
  have A5 := Z ac
  clear ac
  replace H := Option.bind_eq_some_iff.mp H
  obtain ⟨a, ad, H⟩ := H
  replace H : (if 0 ≤ a then (if a ≤ (b.length : Int) then (some (b.drop (a : Int).toNat)) else (none)) else (none)) = some r := H
  have A6 := Z ad
  clear ad
  by_cases c7 : 0 ≤ a
  ·rw [if_pos c7] at H
   have a2 := eq_true c7
   have a3 : decide (0 ≤ a) = true := decide_eq_true c7
   clear c7
   by_cases c8 : a ≤ (b.length : Int)
   ·rw [if_pos c8] at H
    have a4 := eq_true c8
    have a5 : decide (a ≤ (b.length : Int)) = true := decide_eq_true c8
    clear c8
    obtain ⟨B, v⟩ : ∃ y_ : List Int, y_ = (b.drop (a : Int).toNat) := ⟨_, rfl⟩
    replace H : (some B) = some r := by first | (rw [v]; with_reducible exact H) | (have T := (Option.bind_some _ _).symm.trans H; rw [v]; with_reducible exact T) | (have T := (Option.bind_some _ _).symm.trans H; with_reducible exact T) | with_reducible exact H | (rw [v]; exact H) | exact H
    have L := Z v
    clear v
    obtain rfl := Option.some.inj H
    go_enter Tryd.func57, Tryd.ntmps57
    go_wp2_with (first | ((with_reducible refine gate_dst (N := 2) rfl ?_); refine bx_ 2 24 #[.int .i64 g, .int .i64 i, .slice p c.length q, .int .i64 j, .bool l, .bool m] ?_; intro u hg w9 hbox hb; have d := Z (hbox); have X := Z (ln_ hg : w.heap.size ≤ u); have W := Z (ln_ hg : w.heap.size ≤ u); replace HB := Z (below_step bl_ hb); clear hb hbox hg; obtain ⟨aj, ak, al, am, an, ao, aD, aE, aF, aG, aH, aI⟩ := cells6 d.out) | ((with_reducible refine gate_callee (f := 55) rfl ?_); refine goesL_ (some 8) rfl rfl Tryd.func55 (by kernel_rfl) rfl #[.agg #[.int .i64 g, .int .i64 i, .slice p c.length q, .int .i64 j, .bool l, .bool m], .int .i64 a1] rfl ag_ ?_; (with_reducible refine (field_Open.calls g i _ _ c j l m a1 true _ ?side1 ?side2 A3.out).mono ?_); (case side1 => repeat (first | exact (Kd.C_below E.out HB.out) | (with_reducible apply pC))); (case side2 => exact D.out); rintro e a8 ⟨rfl, hb⟩; refine ⟨_, rfl, ?_⟩; replace d := Z (kb d.out hb); replace HB := Z (below_step bl_ hb); (try clear hb); (try clear af); (try clear hk); (try clear hi); obtain ⟨ap, aq, ar, au, av, aw, aJ, aK, aL, aM, aN, aO⟩ := cells6 d.out) | ((with_reducible refine gate_callee (f := 80) rfl ?_); refine goesL_ (some 12) rfl rfl Tryd.func80 (by kernel_rfl) rfl #[.agg #[.int .i64 g, .int .i64 i, .slice p c.length q, .int .i64 j, .bool l, .bool m], .int .i64 a1] rfl ag_ ?_; (with_reducible refine (field_Cells.calls g i _ _ c j l m a1 b _ ?side1 ?side2 A5.out).mono ?_); (case side1 => repeat (first | exact (Kd.C_below E.out HB.out) | (with_reducible apply pC))); (case side2 => exact D.out); rintro e aW ⟨a7, rfl, ag, hb⟩; refine ⟨_, rfl, ?_⟩; have s := Z (Kd.R_lower ag (below_size bl_)); replace d := Z (kb d.out hb); replace HB := Z (below_step bl_ hb); (try clear hb); (try clear af); (try clear hk); (try clear hi); (try clear ag); obtain ⟨x, z, ai⟩ := Kd.R_slice s.out; subst ai) | ((with_reducible refine gate_callee (f := 81) rfl ?_); refine goesL_ (some 16) rfl rfl Tryd.func81 (by kernel_rfl) rfl #[.slice x b.length z, .int .i64 a1] rfl ag_ ?_; (with_reducible refine (slices_Index_int_int.calls k _ _ b a1 a _ ?side1 ?side2 A6.out).mono ?_); (case side1 => repeat (first | exact (Kd.R_reads' s.out).2.2 | (with_reducible apply pC))); (case side2 => exact (Kd.R_reads' s.out).2.1); rintro e w' ⟨rfl, ⟨nd, rfl⟩⟩; refine ⟨_, rfl, ?_⟩; have V : (a : Int) ≤ ((b.length : Int) : Int) := od_; obtain ⟨i015, O, _, S, _⟩ := info_parts info3; have U := cut_from (P := Tryd.prog) 78 3 .i64 Tryd.underlying78 O 1 S x b.length z a (od_) V; have A := Kd.Q_drop (k := (a : Int).toNat) (Kd.Q_of_R s.out) (by omega); obtain ⟨aa, F⟩ : ∃ A1, A1 = (if z = (a : Int).toNat then x else (x : Option Addr).map (·.add ((a : Int).toNat * 1))) := ⟨_, rfl⟩; obtain ⟨ae, J⟩ : ∃ c1, c1 = z - (a : Int).toNat := ⟨_, rfl⟩; have K : B.length = b.length - (a : Int).toNat := (by rw [L.out, List.length_drop]); rw [← L.out] at A; rw [← K, ← F, ← J] at U; replace A : Kd.Q (Kd.int .i64) 3 aW w.heap.size (fun _ => True) (.slice aa B.length ae) B := (by rw [F, J, K]; exact A); have a0 : Aside0 ((Value.slice aa B.length ae).ownBlock = (.slice x b.length z : Value).ownBlock) := ⟨by rw [F]; split <;> (cases (x : Option Addr) <;> first | rfl | (simp [Value.ownBlock, add_block]; done))⟩; clear K O S s F J; have Y := Z A; clear A; replace V := eq_true V))
    go_ret
    exact ⟨_, er_, by (with_reducible repeat (first | apply Kd.Q_alloc | apply Kd.Q_drewN | apply Kd.Q_drew)); exact Y.out, bl_⟩
   ·rw [if_neg c8] at H
    exact absurd H (by simp)
  ·rw [if_neg c7] at H
   exact absurd H (by simp)
 ·replace c4 := Bool.eq_false_iff.mpr c4
  subst c4
  have H1 : (some ([] : List Int)) = some r := by rw [if_neg (show ¬ (false = true) by decide)] at H; exact H
  clear H
  have H := H1
  clear H1
  obtain rfl := Option.some.inj H
  go_enter Tryd.func57, Tryd.ntmps57
  go_wp2_with (first | ((with_reducible refine gate_dst (N := 2) rfl ?_); refine bx_ 2 24 #[.int .i64 g, .int .i64 i, .slice p c.length q, .int .i64 j, .bool l, .bool m] ?_; intro u hg a9 hbox hb; have d := Z (hbox); have X := Z (ln_ hg : w.heap.size ≤ u); have W := Z (ln_ hg : w.heap.size ≤ u); replace HB := Z (below_step bl_ hb); clear hb hbox hg; obtain ⟨ax, ay, az, aA, aB, aC, aP, aQ, aR, aS, aT, aU⟩ := cells6 d.out) | ((with_reducible refine gate_callee (f := 55) rfl ?_); refine goesL_ (some 8) rfl rfl Tryd.func55 (by kernel_rfl) rfl #[.agg #[.int .i64 g, .int .i64 i, .slice p c.length q, .int .i64 j, .bool l, .bool m], .int .i64 a1] rfl ag_ ?_; (with_reducible refine (field_Open.calls g i _ _ c j l m a1 false _ ?side1 ?side2 A3.out).mono ?_); (case side1 => repeat (first | exact (Kd.C_below E.out HB.out) | (with_reducible apply pC))); (case side2 => exact D.out); rintro e ba ⟨rfl, hb⟩; refine ⟨_, rfl, ?_⟩; replace d := Z (kb d.out hb); replace HB := Z (below_step bl_ hb); (try clear hb); (try clear af); (try clear hk); (try clear hi)))
  go_ret
  exact ⟨_, er_, Kd.Q_of_R (by first | exact Kd.R_nil _ _ _ _ _ | exact Kd.N_nil _ _ _ _ _ | exact Kd.V_nil _ _ _ _ _ | exact Kd.Q_nil _ _ _ _ _ | exact Kd.S_nil _ _ _ _ _), bl_⟩

/-! ### edit_Modify: function 58 -/
def edit_Modify.f (c : Int) (d : Int) (i : List (S44)) (e : Int) (g : Bool) (h : Bool) (a1 : Int) : Option (Int × Int × (List (S44)) × Int × Bool × Bool) := (grid_Copy.f c d i e g h).bind fun a => ((field_Begin.f a.1 a.2.1 a.2.2.1 a.2.2.2.1 a.2.2.2.2.1 a.2.2.2.2.2 a1).bind fun b => (if b ≥ 0 then (if 0 ≤ b then (if b < (a.2.2.1.length : Int) then (some (a.1, a.2.1, (a.2.2.1.set (b : Int).toNat (⟨(rd_T44 a.2.2.1 b).f0, (⟨(rd_T44 a.2.2.1 b).f1.f0, (rd_T44 a.2.2.1 b).f1.f1, (rd_T44 a.2.2.1 b).f1.f2, true⟩ : S28), (rd_T44 a.2.2.1 b).f2⟩ : S44)), a.2.2.2.1, a.2.2.2.2.1, a.2.2.2.2.2)) else (none)) else (none)) else (some (a.1, a.2.1, a.2.2.1, a.2.2.2.1, a.2.2.2.2.1, a.2.2.2.2.2))))
set_option maxHeartbeats 8000000 in
set_option maxRecDepth 100000 in
theorem edit_Modify.calls (K : Int) (L : Int) (W : Option Addr) (Y : Nat) (G : List (S44)) (M : Int) (O : Bool) (P : Bool) (a1 : Int) (r1 : Int) (r2 : Int) (r3 : List (S44)) (r4 : Int) (r5 : Bool) (r6 : Bool) (w : World) (am : Kd.C k44 w W G.length G) (aj : G.length ≤ Y) (h : edit_Modify.f K L G M O P a1 = some (r1, r2, r3, r4, r5, r6)) :
  Calls Tryd.prog 58 #[.agg #[.int .i64 K, .int .i64 L, .slice W G.length Y, .int .i64 M, .bool O, .bool P], .int .i64 a1] w fun e w' => ∃ aO : Value, e = .returned (.agg #[.int .i64 r1, .int .i64 r2, aO, .int .i64 r4, .bool r5, .bool r6]) ∧ Kd.R k44 44 w' w.heap.size (fun _ => True) aO r3 ∧ Below w.heap.size w w' := by
 have c8 := Tryd.underlying24
 have ai := Z am
 have ah := Z aj
 clear am aj
 have HB := Z (Below.refl w.heap.size w)
 have H : ((grid_Copy.f K L G M O P).bind fun l => ((field_Begin.f l.1 l.2.1 l.2.2.1 l.2.2.2.1 l.2.2.2.2.1 l.2.2.2.2.2 a1).bind fun a => (if a ≥ 0 then (if 0 ≤ a then (if a < (l.2.2.1.length : Int) then (some (l.1, l.2.1, (l.2.2.1.set (a : Int).toNat (⟨(rd_T44 l.2.2.1 a).f0, (⟨(rd_T44 l.2.2.1 a).f1.f0, (rd_T44 l.2.2.1 a).f1.f1, (rd_T44 l.2.2.1 a).f1.f2, true⟩ : S28), (rd_T44 l.2.2.1 a).f2⟩ : S44)), l.2.2.2.1, l.2.2.2.2.1, l.2.2.2.2.2)) else (none)) else (none)) else (some (l.1, l.2.1, l.2.2.1, l.2.2.2.1, l.2.2.2.2.1, l.2.2.2.2.2))))) = some (r1, r2, r3, r4, r5, r6) := h
 clear h
 replace H := Option.bind_eq_some_iff.mp H
 obtain ⟨⟨r, s, b, u, x, y⟩, aI, H⟩ := H
 replace H : ((field_Begin.f r s b u x y a1).bind fun a => (if a ≥ 0 then (if 0 ≤ a then (if a < (b.length : Int) then (some (r, s, (b.set (a : Int).toNat (⟨(rd_T44 b a).f0, (⟨(rd_T44 b a).f1.f0, (rd_T44 b a).f1.f1, (rd_T44 b a).f1.f2, true⟩ : S28), (rd_T44 b a).f2⟩ : S44)), u, x, y)) else (none)) else (none)) else (some (r, s, b, u, x, y)))) = some (r1, r2, r3, r4, r5, r6) := H
 have A3 := Z aI
 clear aI
 replace H := Option.bind_eq_some_iff.mp H
 obtain ⟨a, aJ, H⟩ := H
 replace H : (if a ≥ 0 then (if 0 ≤ a then (if a < (b.length : Int) then (some (r, s, (b.set (a : Int).toNat (⟨(rd_T44 b a).f0, (⟨(rd_T44 b a).f1.f0, (rd_T44 b a).f1.f1, (rd_T44 b a).f1.f2, true⟩ : S28), (rd_T44 b a).f2⟩ : S44)), u, x, y)) else (none)) else (none)) else (some (r, s, b, u, x, y))) = some (r1, r2, r3, r4, r5, r6) := H
 have A4 := Z aJ
 clear aJ
 by_cases c5 : a ≥ 0
 ·rw [if_pos c5] at H
  have aP : decide (0 ≤ a) = true := decide_eq_true c5
  clear c5
  by_cases c6 : 0 ≤ a
  ·rw [if_pos c6] at H
   have c2 : decide (0 ≤ a) = true := decide_eq_true c6
   clear c6
   by_cases c7 : a < (b.length : Int)
   ·rw [if_pos c7] at H
    have c3 : decide (a < (b.length : Int)) = true := decide_eq_true c7
    clear c7
    obtain ⟨aC, V⟩ : ∃ y_ : List (S44), y_ = (b.set (a : Int).toNat (⟨(rd_T44 b a).f0, (⟨(rd_T44 b a).f1.f0, (rd_T44 b a).f1.f1, (rd_T44 b a).f1.f2, true⟩ : S28), (rd_T44 b a).f2⟩ : S44)) := ⟨_, rfl⟩
    replace H : (some (r, s, aC, u, x, y)) = some (r1, r2, r3, r4, r5, r6) := by first | (rw [V]; with_reducible exact H) | (have av := (Option.bind_some _ _).symm.trans H; rw [V]; with_reducible exact av) | (have av := (Option.bind_some _ _).symm.trans H; with_reducible exact av) | with_reducible exact H | (rw [V]; exact H) | exact H
    have aH := Z V
    clear V
    simp only [Option.some.injEq, Prod.mk.injEq] at H
    obtain ⟨rfl, rfl, rfl, rfl, rfl, rfl⟩ := H
    go_enter Tryd.func58, Tryd.ntmps58
    go_wp2_with (first | ((with_reducible refine gate_dst (N := 2) rfl ?_); refine bx_ 2 24 #[.int .i64 K, .int .i64 L, .slice W G.length Y, .int .i64 M, .bool O, .bool P] ?_; intro i hg w9 hbox hb; have d := Z (hbox); have aF := Z (ln_ hg : w.heap.size ≤ i); have aD := Z (ln_ hg : w.heap.size ≤ i); replace HB := Z (below_step bl_ hb); clear hb hbox hg) | ((with_reducible refine gate_dst (N := 4) rfl ?_); refine bx_ 4 24 #[.int .i64 0, .int .i64 0, .slice none 0 0, .int .i64 0, .bool false, .bool false] ?_; intro q hg dd hbox hb; have m := Z (hbox); have aG := Z (ln_ hg : w.heap.size ≤ q); have aE := Z (ln_ hg : w.heap.size ≤ q); replace HB := Z (below_step bl_ hb); have Q := Z (nl d.out hg); have F := Z (ng d.out hg); replace d := Z (kb d.out hb); clear hb hbox hg; have cS := Q.out; have cU := F.out; obtain ⟨aV, aW, aX, aY, aZ, a0, bP, bQ, bR, bS, bT, bU⟩ := cells6 d.out) | ((with_reducible refine gate_callee (f := 38) rfl ?_); refine goesL_ (some 7) rfl rfl Tryd.func38 (by kernel_rfl) rfl #[.agg #[.int .i64 K, .int .i64 L, .slice W G.length Y, .int .i64 M, .bool O, .bool P]] rfl ag_ ?_; (with_reducible refine (grid_Copy.calls K L _ _ G M O P r s b u x y _ ?side1 ?side2 A3.out).mono ?_); (case side1 => repeat (first | exact (Kd.C_below ai.out HB.out) | (with_reducible apply pC))); (case side2 => exact ah.out); rintro e de ⟨aU, rfl, ac, hb⟩; refine ⟨_, rfl, ?_⟩; have k := Z (Kd.R_lower ac (below_size bl_)); replace d := Z (kb d.out hb); replace m := Z (kb m.out hb); replace HB := Z (below_step bl_ hb); (try clear hb); (try clear ay); (try clear hk); (try clear hi); (try clear ac); obtain ⟨a2, a3, a4, a5, a6, a7, bV, bW, bX, bY, bZ, b0⟩ := cells6 d.out; obtain ⟨aa, J, aQ⟩ := Kd.R_slice k.out; subst aQ) | ((with_reducible refine gate_callee (f := 82) rfl ?_); refine goesL_ (some 10) rfl rfl Tryd.func82 (by kernel_rfl) rfl #[.agg #[.int .i64 r, .int .i64 s, .slice aa b.length J, .int .i64 u, .bool x, .bool y], .int .i64 a1] rfl ag_ ?_; (with_reducible refine (field_Begin.calls r s _ _ b u x y a1 a _ ?side1 ?side2 A4.out).mono ?_); (case side1 => refine (Kd.R_reads' (e := 44) (base := w.heap.size) (ok := fun k_ => True) (n := b.length) (c := J) ?_).2.2; exact (by (with_reducible repeat apply pR); exact (Kd.R_mono (f6R i (Kd.R_types k.out d.out (by decide)) (fun _ hk => hk.2)) (fun _ h_ => h_.1)))); (case side2 => exact (Kd.R_reads' k.out).2.1); rintro e I ⟨rfl, hb⟩; refine ⟨_, rfl, ?_⟩; replace k := Z (Kd.R_below (by (with_reducible repeat apply pR); exact (Kd.R_mono (f6R i (Kd.R_types k.out d.out (by decide)) (fun _ hk => hk.2)) (fun _ h_ => h_.1))) hb); replace d := Z (blk_below (g := i) (o := .cells #[.int .i64 r, .int .i64 s, .slice aa b.length J, .int .i64 u, .bool x, .bool y] 24 (0, 0)) (put6 d.out) hb); replace m := Z (blk_below (g := q) (o := .cells #[.int .i64 0, .int .i64 0, .slice none 0 0, .int .i64 0, .bool false, .bool false] 24 (0, 0)) (blk_off m.out F.out off2_) hb); replace HB := Z (below_step bl_ hb); (try clear hb); (try clear ay); (try clear hk); (try clear hi); obtain ⟨a8, a9, ba, bb, bc, bd, b1, b2, b3, b4, b5, b6⟩ := cells6 d.out; have p8 : 0 ≤ (a : Int) := od_; have q8 : (a : Int) < ((b.length : Int) : Int) := od_; obtain ⟨E, dc, aL, aM, cL, db, aK⟩ := Kd.R_form k.out (by omega); (first | cases aL | (injection aL with ea_ en_ ec_; (first | subst ea_ | (injection ea_ with ea_; subst ea_)); subst ec_; clear en_)); have cK := Z aM; have c9 := Z aK; clear aM cL aK; obtain ⟨da, aS, aN, T, U⟩ := Kd.R_elem k.out z44 (a : Int) p8 q8; obtain rfl := k44_openM aN; have cW : I.cell? ⟨E, (a : Int).toNat * 6, none⟩ = some (.bool ((rd_T44 b a).f0)) := T 0 _ rfl; have cX : I.cell? ⟨E, (a : Int).toNat * 6 + 1, none⟩ = some (.bool ((rd_T44 b a).f1.f0)) := T 1 _ rfl; have cY : I.cell? ⟨E, (a : Int).toNat * 6 + 2, none⟩ = some (.bool ((rd_T44 b a).f1.f1)) := T 2 _ rfl; have cZ : I.cell? ⟨E, (a : Int).toNat * 6 + 3, none⟩ = some (.int .i64 ((rd_T44 b a).f1.f2)) := T 3 _ rfl; have c0 : I.cell? ⟨E, (a : Int).toNat * 6 + 4, none⟩ = some (.bool ((rd_T44 b a).f1.f3)) := T 4 _ rfl; have c1 : I.cell? ⟨E, (a : Int).toNat * 6 + 5, none⟩ = some (.int .u8 ((rd_T44 b a).f2)) := T 5 _ rfl; have cM : I.frozen? ⟨E, (a : Int).toNat * 6, none⟩ = false := U 0; have cN : I.frozen? ⟨E, (a : Int).toNat * 6 + 1, none⟩ = false := U 1; have cO : I.frozen? ⟨E, (a : Int).toNat * 6 + 2, none⟩ = false := U 2; have cP : I.frozen? ⟨E, (a : Int).toNat * 6 + 3, none⟩ = false := U 3; have cQ : I.frozen? ⟨E, (a : Int).toNat * 6 + 4, none⟩ = false := U 4; have cR : I.frozen? ⟨E, (a : Int).toNat * 6 + 5, none⟩ = false := U 5; clear aS T U aN; replace p8 := eq_true p8; replace q8 := eq_true q8; have aw := Z (show Kd.R k44 44 I w.heap.size (fun _ => True) (.slice (some ⟨E, 0, none⟩) b.length J) b from (by (with_reducible repeat apply pR); exact k.out)); obtain ⟨c4, ak, ax, ab, al⟩ := Kd.R_elem aw.out z44 (a : Int) (od_) (by have h_ : (a : Int) < ((b.length : Int) : Int) := od_; first | exact h_ | (have e_ := (Kd.R_reads' k.out).1; omega) | simpa using h_); obtain rfl := k44_openM ax; have ag := Kd.R_seg aw.out (a : Int) (od_) (by have h_ : (a : Int) < ((b.length : Int) : Int) := od_; first | exact h_ | (have e_ := (Kd.R_reads' k.out).1; omega) | simpa using h_) (seg := [.bool true]) (j := 4) ak ab (show 5 ≤ 6 from by decide) (x' := (⟨(rd_T44 b a).f0, (⟨(rd_T44 b a).f1.f0, (rd_T44 b a).f1.f1, (rd_T44 b a).f1.f2, true⟩ : S28), (rd_T44 b a).f2⟩ : S44)) (k44_mkM _ _ _ (⟨(rd_T44 b a).f0, (⟨(rd_T44 b a).f1.f0, (rd_T44 b a).f1.f1, (rd_T44 b a).f1.f2, true⟩ : S28), (rd_T44 b a).f2⟩ : S44) ) (fun _ hk => hk); have aA := ab 4 _ rfl; (try simp only [show (k44).sz = 6 from rfl, Nat.mul_one, Nat.add_zero] at aA); have az := al 4; (try simp only [show (k44).sz = 6 from rfl, Nat.mul_one, Nat.add_zero] at az); clear ak ab al ax) | ((with_reducible refine gate_store (t := 4) (p := 18) rfl ?_); refine sx_ 4 18 (I.setCell ⟨E, (a : Int).toNat * 6 + 4, none⟩ (.bool true)) ?_; intro aB hw; have hg : I.grownBy aB (some E) := (by rw [hw]; exact ag.2); have hp_ : Kd.R k44 44 aB w.heap.size (fun _ => True) (.slice (some ⟨E, 0, none⟩) b.length J) aC := (by rw [hw, aH.out]; exact ag.1); clear ag; replace d := Z (blk_grown (g := i) (o := .cells #[.int .i64 r, .int .i64 s, .slice (some ⟨E, 0, none⟩) b.length J, .int .i64 u, .bool x, .bool y] 24 (0, 0)) (vK d.out) hg (Kd.R_ne k.out d.out (by decide))); replace m := Z (blk_grown (g := q) (o := .cells #[.int .i64 0, .int .i64 0, .slice none 0 0, .int .i64 0, .bool false, .bool false] 24 (0, 0)) (vK m.out) hg (Kd.R_ne k.out m.out (by decide))); replace k := Z (hp_); replace HB := Z ((by rw [hw]; exact below_set (HB.out) cK.out : Below w.heap.size w aB)); clear hg hw hp_; obtain ⟨be, bf, bg, bh, bi, bj, b7, b8, b9, ca, cb, cc⟩ := cells6 d.out; obtain ⟨bk, bl, bm, bn, bo, bp, cd, ce, cf, cg, ch, ci⟩ := cells6 m.out))
    refine bodyPost_ret (results_cell_row rfl _ _ q 24 #[.int .i64 r, .int .i64 s, .slice (some ⟨E, 0, none⟩) b.length J, .int .i64 u, .bool x, .bool y] (0, 0) _ rfl (put6 m.out) Tryd.underlying24 rfl (by kernel_rfl)) rfl ?_
    exact ⟨_, er_, by (with_reducible repeat apply pR); exact Kd.R_mono (f6R q (Kd.R_types k.out m.out (by decide)) (fun _ hk => hk.2)) (fun _ hk => trivial), bl_⟩
   ·rw [if_neg c7] at H
    exact absurd H (by simp)
  ·rw [if_neg c6] at H
   exact absurd H (by simp)
 ·rw [if_neg c5] at H
  have aP : decide (0 ≤ a) = false := decide_eq_false c5
  clear c5
  simp only [Option.some.injEq, Prod.mk.injEq] at H
  obtain ⟨rfl, rfl, rfl, rfl, rfl, rfl⟩ := H
  go_enter Tryd.func58, Tryd.ntmps58
  go_wp2_with (first | ((with_reducible refine gate_dst (N := 2) rfl ?_); refine bx_ 2 24 #[.int .i64 K, .int .i64 L, .slice W G.length Y, .int .i64 M, .bool O, .bool P] ?_; intro i hg df hbox hb; have d := Z (hbox); have aF := Z (ln_ hg : w.heap.size ≤ i); have aD := Z (ln_ hg : w.heap.size ≤ i); replace HB := Z (below_step bl_ hb); clear hb hbox hg) | ((with_reducible refine gate_dst (N := 4) rfl ?_); refine bx_ 4 24 #[.int .i64 0, .int .i64 0, .slice none 0 0, .int .i64 0, .bool false, .bool false] ?_; intro q hg dg hbox hb; have m := Z (hbox); have aG := Z (ln_ hg : w.heap.size ≤ q); have aE := Z (ln_ hg : w.heap.size ≤ q); replace HB := Z (below_step bl_ hb); have Q := Z (nl d.out hg); have F := Z (ng d.out hg); replace d := Z (kb d.out hb); clear hb hbox hg; have cT := Q.out; have cV := F.out; obtain ⟨bq, br, bs, bt, bu, bv, cj, ck, cl, cm, cn, co⟩ := cells6 d.out) | ((with_reducible refine gate_callee (f := 38) rfl ?_); refine goesL_ (some 7) rfl rfl Tryd.func38 (by kernel_rfl) rfl #[.agg #[.int .i64 K, .int .i64 L, .slice W G.length Y, .int .i64 M, .bool O, .bool P]] rfl ag_ ?_; (with_reducible refine (grid_Copy.calls K L _ _ G M O P r s b u x y _ ?side1 ?side2 A3.out).mono ?_); (case side1 => repeat (first | exact (Kd.C_below ai.out HB.out) | (with_reducible apply pC))); (case side2 => exact ah.out); rintro e dh ⟨aU, rfl, ac, hb⟩; refine ⟨_, rfl, ?_⟩; have k := Z (Kd.R_lower ac (below_size bl_)); replace d := Z (kb d.out hb); replace m := Z (kb m.out hb); replace HB := Z (below_step bl_ hb); (try clear hb); (try clear ay); (try clear hk); (try clear hi); (try clear ac); obtain ⟨bw, bx, bz, bA, bB, bC, cp, cq, cr, ct, cu, cv⟩ := cells6 d.out; obtain ⟨X, S, aR⟩ := Kd.R_slice k.out; subst aR) | ((with_reducible refine gate_callee (f := 82) rfl ?_); refine goesL_ (some 10) rfl rfl Tryd.func82 (by kernel_rfl) rfl #[.agg #[.int .i64 r, .int .i64 s, .slice X b.length S, .int .i64 u, .bool x, .bool y], .int .i64 a1] rfl ag_ ?_; (with_reducible refine (field_Begin.calls r s _ _ b u x y a1 a _ ?side1 ?side2 A4.out).mono ?_); (case side1 => refine (Kd.R_reads' (e := 44) (base := w.heap.size) (ok := fun k_ => True) (n := b.length) (c := S) ?_).2.2; exact (by (with_reducible repeat apply pR); exact (Kd.R_mono (f6R i (Kd.R_types k.out d.out (by decide)) (fun _ hk => hk.2)) (fun _ h_ => h_.1)))); (case side2 => exact (Kd.R_reads' k.out).2.1); rintro e di ⟨rfl, hb⟩; refine ⟨_, rfl, ?_⟩; replace k := Z (Kd.R_below (by (with_reducible repeat apply pR); exact (Kd.R_mono (f6R i (Kd.R_types k.out d.out (by decide)) (fun _ hk => hk.2)) (fun _ h_ => h_.1))) hb); replace d := Z (blk_below (g := i) (o := .cells #[.int .i64 r, .int .i64 s, .slice X b.length S, .int .i64 u, .bool x, .bool y] 24 (0, 0)) (put6 d.out) hb); replace m := Z (blk_below (g := q) (o := .cells #[.int .i64 0, .int .i64 0, .slice none 0 0, .int .i64 0, .bool false, .bool false] 24 (0, 0)) (blk_off m.out F.out off2_) hb); replace HB := Z (below_step bl_ hb); (try clear hb); (try clear ay); (try clear hk); (try clear hi); obtain ⟨bD, bE, bF, bG, bH, bI, cw, cx, cy, cz, cA, cB⟩ := cells6 d.out; obtain ⟨bJ, bK, bL, bM, bN, bO, cC, cD, cE, cF, cG, cH⟩ := cells6 m.out))
  refine bodyPost_ret (results_cell_row rfl _ _ q 24 #[.int .i64 r, .int .i64 s, .slice X b.length S, .int .i64 u, .bool x, .bool y] (0, 0) _ rfl (put6 m.out) Tryd.underlying24 rfl (by kernel_rfl)) rfl ?_
  exact ⟨_, er_, by (with_reducible repeat apply pR); exact Kd.R_mono (f6R q (Kd.R_types k.out m.out (by decide)) (fun _ hk => hk.2)) (fun _ hk => trivial), bl_⟩

end Go.Proofs.YtgboplhcjhlabaaDoor.P
