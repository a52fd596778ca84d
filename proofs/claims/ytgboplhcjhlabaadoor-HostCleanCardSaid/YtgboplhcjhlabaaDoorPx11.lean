/- pp.py and press2.py (wip/tools) wrote this text. -/
import Derived.Test.YtgboplhcjhlabaaDoorPx0
import Derived.Test.YtgboplhcjhlabaaDoorPxS
import Derived.Test.YtgboplhcjhlabaaDoorPx7
import Derived.Test.YtgboplhcjhlabaaDoorPx9
import Derived.Test.YtgboplhcjhlabaaDoorPx10
namespace Go.Proofs.YtgboplhcjhlabaaDoor.P
open Go.RowKit Go.Proofs.YtgboplhcjhlabaaDoorW.PrintWords Go.Proofs.YtgboplhcjhlabaaDoorW.PrintLast Go.Proofs.YtgboplhcjhlabaaDoorW.PrintMore
attribute [local go_sem] max2_int min2_int max_two min_two max_three min_three max_four min_four
attribute [local go_sem] Instr.field asAgg
set_option linter.unusedVariables false
set_option linter.unusedSimpArgs false

/-! ### host_clean: function 50 -/
def host_clean.l0 : Nat → Int → Int → Int → Int → List (S44) → Int → Bool → Bool → Int → Int → List (S44) → Int → Bool → Bool → Option (Int × Int × (List (S44)) × Int × Bool × Bool)
 | 0, _, _, _, _, _, _, _, _, _, _, _, _, _, _ => none
 | k + 1, q, x10, c, d, b, e, g, h, i, j, a, n, l, m => if x10 < q then ((field_Open.f c d b e g h x10).bind fun o => (if o = true then (if 0 ≤ x10 then (if x10 < (a.length : Int) then (host_clean.l0 k q (wrap64 (x10 + 1)) c d b e g h i j (a.set (x10 : Int).toNat (⟨(rd_T44 a x10).f0, (⟨(rd_T44 a x10).f1.f0, (rd_T44 a x10).f1.f1, (rd_T44 a x10).f1.f2, (rd_T44 a x10).f1.f3⟩ : S28), 0⟩ : S44)) n l m) else (none)) else (none)) else (host_clean.l0 k q (wrap64 (x10 + 1)) c d b e g h i j a n l m))) else ((field_Next.f c d b e g h (wrap64 ((b.length : Int) - 1))).bind fun p => (some (i, j, a, mx 0 p, l, m)))
def host_clean.f (k : Nat) (c : Int) (d : Int) (b : List (S44)) (e : Int) (g : Bool) (h : Bool) : Option (Int × Int × (List (S44)) × Int × Bool × Bool) := (host_Reset.f c d b e g h false).bind fun a => (host_clean.l0 k (b.length : Int) 0 c d b e g h a.1 a.2.1 a.2.2.1 a.2.2.2.1 a.2.2.2.2.1 a.2.2.2.2.2)
theorem host_clean.mono_l : ∀ k, (∀ f g i j l m n o p q a b c d, LeO (host_clean.l0 k f g i j l m n o p q a b c d) (host_clean.l0 (k + 1) f g i j l m n o p q a b c d))
 | 0 => fun _ _ _ _ _ _ _ _ _ _ _ _ _ _ r h => by simp [host_clean.l0] at h
 | k + 1 => by
  have e := host_clean.mono_l k
  ·intro f g i j l m n o p q a b c d
   unfold host_clean.l0
   repeat' first
   | (with_reducible exact e _ _ _ _ _ _ _ _ _ _ _ _ _ _)
   | (with_reducible exact LeO.refl _)
   | (with_reducible exact LeO.none _)
   | (with_reducible refine LeO.ite ?_ ?_)
   | (with_reducible refine LeO.bind ?_ (fun _ => ?_))
   | exact e _ _ _ _ _ _ _ _ _ _ _ _ _ _
   | exact LeO.none _
   | refine LeO.ite ?_ ?_
   | refine LeO.bind ?_ (fun _ => ?_)
theorem host_clean.mono : ∀ a0 a1 b c a4 d k, LeO (host_clean.f k a0 a1 b c a4 d) (host_clean.f (k + 1) a0 a1 b c a4 d) := by
 intro a0 a1 b c a4 d k
 have a := host_clean.mono_l k
 unfold host_clean.f
 repeat' first
   | (with_reducible exact a _ _ _ _ _ _ _ _ _ _ _ _ _ _)
   | (with_reducible exact LeO.refl _)
   | (with_reducible exact LeO.none _)
   | (with_reducible refine LeO.ite ?_ ?_)
   | (with_reducible refine LeO.bind ?_ (fun _ => ?_))
   | exact a _ _ _ _ _ _ _ _ _ _ _ _ _ _
   | exact LeO.none _
   | refine LeO.ite ?_ ?_
   | refine LeO.bind ?_ (fun _ => ?_)
set_option maxHeartbeats 8000000 in
set_option maxRecDepth 100000 in
theorem host_clean.calls (k : Nat) (m : Int) (n : Int) (T : Option Addr) (U : Nat) (d : List (S44)) (q : Int) (r : Bool) (s : Bool) (r1 : Int) (r2 : Int) (r3 : List (S44)) (r4 : Int) (r5 : Bool) (r6 : Bool) (w : World) (aH : Kd.C k44 w T d.length d) (aE : d.length ≤ U) (h : host_clean.f k m n d q r s = some (r1, r2, r3, r4, r5, r6)) :
  Calls Tryd.prog 50 #[.agg #[.int .i64 m, .int .i64 n, .slice T d.length U, .int .i64 q, .bool r, .bool s]] w fun e w' => ∃ bM : Value, e = .returned (.agg #[.int .i64 r1, .int .i64 r2, bM, .int .i64 r4, .bool r5, .bool r6]) ∧ Kd.R k44 44 w' w.heap.size (fun _ => True) bM r3 ∧ Below w.heap.size w w' := by
 have dW := Tryd.underlying24
 have af := Z aH
 have ae := Z aE
 clear aH aE
 have HB := Z (Below.refl w.heap.size w)
 have H : ((host_Reset.f m n d q r s false).bind fun aa => (host_clean.l0 k (d.length : Int) 0 m n d q r s aa.1 aa.2.1 aa.2.2.1 aa.2.2.2.1 aa.2.2.2.2.1 aa.2.2.2.2.2)) = some (r1, r2, r3, r4, r5, r6) := h
 clear h
 replace H := Option.bind_eq_some_iff.mp H
 obtain ⟨⟨u, x, ap, M, E, F⟩, bG, H⟩ := H
 replace H : (host_clean.l0 k (d.length : Int) 0 m n d q r s u x ap M E F) = some (r1, r2, r3, r4, r5, r6) := H
 have A2 := Z bG
 clear bG
 have H' := Z H
 clear H
 go_enter Tryd.func50, Tryd.ntmps50
 go_wp2_with (first | ((with_reducible refine gate_dst (N := 1) rfl ?_); refine bx_ 1 24 #[.int .i64 m, .int .i64 n, .slice T d.length U, .int .i64 q, .bool r, .bool s] ?_; intro ag hg w3 hbox hb; have c := Z (hbox); have dq := Z (ln_ hg : w.heap.size ≤ ag); have dm := Z (ln_ hg : w.heap.size ≤ ag); replace HB := Z (below_step bl_ hb); clear hb hbox hg) | ((with_reducible refine gate_dst (N := 2) rfl ?_); refine bx_ 2 24 #[.int .i64 0, .int .i64 0, .slice none 0 0, .int .i64 0, .bool false, .bool false] ?_; intro G hg w4 hbox hb; have i := Z (hbox); have dr := Z (ln_ hg : w.heap.size ≤ G); have dn := Z (ln_ hg : w.heap.size ≤ G); replace HB := Z (below_step bl_ hb); have P := Z (nl c.out hg); have Q := Z (ng c.out hg); replace c := Z (kb c.out hb); clear hb hbox hg; have dS := P.out; have dU := Q.out; obtain ⟨bi, bj, bk, bl, bm, bn, bp, bq, br, bs, bt, bu⟩ := cells6 c.out) | ((with_reducible refine gate_callee (f := 29) rfl ?_); refine goesL_ (some 6) rfl rfl Tryd.func29 (by kernel_rfl) rfl #[.agg #[.int .i64 m, .int .i64 n, .slice T d.length U, .int .i64 q, .bool r, .bool s], .bool false] rfl ag_ ?_; (with_reducible refine (host_Reset.calls m n _ _ d q r s false u x ap M E F _ ?side1 ?side2 A2.out).mono ?_); (case side1 => repeat (first | exact (Kd.C_below af.out HB.out) | (with_reducible apply pC))); (case side2 => exact ae.out); rintro e w7 ⟨dX, rfl, bI, hb⟩; refine ⟨_, rfl, ?_⟩; have ac := Z (Kd.R_lower bI (below_size bl_)); replace c := Z (kb c.out hb); replace i := Z (kb i.out hb); replace HB := Z (below_step bl_ hb); (try clear hb); (try clear bh); (try clear hk); (try clear hi); (try clear bI)) | ((with_reducible refine gate_dst (N := 3) rfl ?_); refine bx_ 3 24 #[.int .i64 0, .int .i64 0, .slice none 0 0, .int .i64 0, .bool false, .bool false] ?_; intro I hg w8 hbox hb; replace ac := Z (rb ac.out hb); have l := Z (hbox); have ds := Z (ln_ hg : w.heap.size ≤ I); have dp := Z (ln_ hg : w.heap.size ≤ I); replace HB := Z (below_step bl_ hb); have J := Z (nl c.out hg); have S := Z (ng c.out hg); replace c := Z (kb c.out hb); have K := Z (nl i.out hg); have Y := Z (ng i.out hg); replace i := Z (kb i.out hb); clear hb hbox hg; have dT := S.out; have dV := J.out; have dv := Y.out; have dE := K.out; obtain ⟨aI, aJ, aK, aL, aM, aN, aU, aV, aW, aX, aY, aZ⟩ := cells6 l.out; obtain ⟨a8, bc, bO⟩ := Kd.R_slice ac.out; subst bO; obtain ⟨aO, aP, aQ, aR, aS, aT, a0, a1, a2, a3, a4, a5⟩ := cells6 c.out))
 go_loopg [10] k (fun kq dl w' => ∃ (b : Int) (a : List (S44)) (u220002 : Value), dl = .int .i64 b ∧ Aside0 (host_clean.l0 kq (d.length : Int) b m n d q r s u x a M E F = some (r1, r2, r3, r4, r5, r6)) ∧ Aside0 (kq ≤ k) ∧ Aside0 (Kd.R k44 44 w' w.heap.size (fun _ => True) u220002 a) ∧ Aside0 (w'.heap[ag]? = some (.cells #[.int .i64 m, .int .i64 n, (.slice T d.length U), .int .i64 q, .bool r, .bool s] 24 (0, 0))) ∧ Aside0 (w'.heap[G]? = some (.cells #[.int .i64 0, .int .i64 0, (.slice none 0 0), .int .i64 0, .bool false, .bool false] 24 (0, 0))) ∧ Aside0 (w'.heap[I]? = some (.cells #[.int .i64 u, .int .i64 x, u220002, .int .i64 M, .bool E, .bool F] 24 (0, 0))) ∧ Aside0 (Below w.heap.size w w'))
 case atStart => exact ⟨(0), (ap), (.slice a8 ap.length bc), (dn_), H', ⟨Nat.le_refl _⟩, ⟨by (with_reducible repeat apply pR); exact Kd.R_mono (f6R I (Kd.R_types ac.out l.out (by decide)) (fun _ hk => hk.2)) (fun _ hk => trivial)⟩, ⟨blk_off c.out J.out off2_⟩, ⟨blk_off i.out K.out off2_⟩, ⟨put6 l.out⟩, ⟨bl_⟩⟩
 case round =>
  clear H'
  try clear c1
  try clear c2
  try clear p2
  try clear c5
  try clear c9
  try clear c10
  try clear aI
  try clear aJ
  try clear aK
  try clear aL
  try clear aM
  try clear aN
  try clear aO
  try clear aP
  try clear aQ
  try clear aR
  try clear aS
  try clear aT
  try clear bi
  try clear bj
  try clear bk
  try clear bl
  try clear bm
  try clear bn
  try clear aU
  try clear aV
  try clear aW
  try clear aX
  try clear aY
  try clear aZ
  try clear a0
  try clear a1
  try clear a2
  try clear a3
  try clear a4
  try clear a5
  try clear bp
  try clear bq
  try clear br
  try clear bs
  try clear bt
  try clear bu
  obtain ⟨b, a, u220002, rfl, HA, aA, HO_220002, c, i, l, HB⟩ := hrel
  cases gk with
  | zero => exact absurd HA.out (by simp [host_clean.l0])
  | succ k1 =>
   have H := HA.out
   clear HA
   simp only [host_clean.l0] at H
   by_cases ar : b < (d.length : Int)
   ·rw [if_pos ar] at H
    have bD : decide (b < (d.length : Int)) = true := decide_eq_true ar
    clear ar
    replace H := Option.bind_eq_some_iff.mp H
    obtain ⟨bA, a6, H⟩ := H
    replace H : (if bA = true then (if 0 ≤ b then (if b < (a.length : Int) then (host_clean.l0 k1 (d.length : Int) (wrap64 (b + 1)) m n d q r s u x (a.set (b : Int).toNat (⟨(rd_T44 a b).f0, (⟨(rd_T44 a b).f1.f0, (rd_T44 a b).f1.f1, (rd_T44 a b).f1.f2, (rd_T44 a b).f1.f3⟩ : S28), 0⟩ : S44)) M E F) else (none)) else (none)) else (host_clean.l0 k1 (d.length : Int) (wrap64 (b + 1)) m n d q r s u x a M E F)) = some (r1, r2, r3, r4, r5, r6) := H
    have bF := Z a6
    clear a6
    by_cases aB : bA = true
    ·subst aB
     have H1 : (if 0 ≤ b then (if b < (a.length : Int) then (host_clean.l0 k1 (d.length : Int) (wrap64 (b + 1)) m n d q r s u x (a.set (b : Int).toNat (⟨(rd_T44 a b).f0, (⟨(rd_T44 a b).f1.f0, (rd_T44 a b).f1.f1, (rd_T44 a b).f1.f2, (rd_T44 a b).f1.f3⟩ : S28), 0⟩ : S44)) M E F) else (none)) else (none)) = some (r1, r2, r3, r4, r5, r6) := by rw [if_pos rfl] at H; exact H
     clear H
     have H := H1
     clear H1
     by_cases aC : 0 ≤ b
     ·rw [if_pos aC] at H
      have dt : decide (0 ≤ b) = true := decide_eq_true aC
      clear aC
      by_cases aD : b < (a.length : Int)
      ·rw [if_pos aD] at H
       have du : decide (b < (a.length : Int)) = true := decide_eq_true aD
       clear aD
       obtain ⟨az, ad⟩ : ∃ y_ : List (S44), y_ = (a.set (b : Int).toNat (⟨(rd_T44 a b).f0, (⟨(rd_T44 a b).f1.f0, (rd_T44 a b).f1.f1, (rd_T44 a b).f1.f2, (rd_T44 a b).f1.f3⟩ : S28), 0⟩ : S44)) := ⟨_, rfl⟩
       replace H : (host_clean.l0 k1 (d.length : Int) (wrap64 (b + 1)) m n d q r s u x az M E F) = some (r1, r2, r3, r4, r5, r6) := by first | (rw [ad]; with_reducible exact H) | (have a9 := (Option.bind_some _ _).symm.trans H; rw [ad]; with_reducible exact a9) | (have a9 := (Option.bind_some _ _).symm.trans H; with_reducible exact a9) | with_reducible exact H | (rw [ad]; exact H) | exact H
       have bC := Z ad
       clear ad
       have H' := Z H
       clear H
       have dw := P.out
       have dF := Q.out
       have dx := J.out
       have dG := S.out
       obtain ⟨bR, bS, bT, bU, bV, bW, cr, ct, cu, cv, cw, cx⟩ := cells6 c.out
       go_wp2_with (first | ((with_reducible refine gate_callee (f := 55) rfl ?_); refine goesL_ (some 15) rfl rfl Tryd.func55 (by kernel_rfl) rfl #[.agg #[.int .i64 m, .int .i64 n, .slice T d.length U, .int .i64 q, .bool r, .bool s], .int .i64 b] rfl ag_ ?_; (with_reducible refine (field_Open.calls m n _ _ d q r s b true _ ?side1 ?side2 bF.out).mono ?_); (case side1 => repeat (first | exact (Kd.C_below af.out HB.out) | (with_reducible apply pC))); (case side2 => exact ae.out); rintro e O ⟨rfl, hb⟩; refine ⟨_, rfl, ?_⟩; replace HO_220002 := Z (rb HO_220002.out hb); replace c := Z (kb c.out hb); replace i := Z (kb i.out hb); replace l := Z (kb l.out hb); replace HB := Z (below_step bl_ hb); (try clear hb); (try clear bh); (try clear hk); (try clear hi); have dy := Y.out; have dH := K.out; obtain ⟨bX, bY, bZ, b0, b1, b2, cy, cz, cA, cB, cC, cD⟩ := cells6 l.out; have bx : 0 ≤ (b : Int) := od_; have bz : (b : Int) < ((a.length : Int) : Int) := od_; obtain ⟨y, au, bd, be, bQ, dR, ba⟩ := Kd.R_form HO_220002.out (by omega); (first | cases bd | (injection bd with ea_ en_ ec_; (first | subst ea_ | (injection ea_ with ea_; subst ea_)); subst ec_; clear en_)); have bN := Z be; have dO := Z ba; clear be bQ ba; obtain ⟨dP, bE, bf, V, W⟩ := Kd.R_elem HO_220002.out z44 (b : Int) bx bz; obtain rfl := k44_openM bf; have df : O.cell? ⟨y, (b : Int).toNat * 6, none⟩ = some (.bool ((rd_T44 a b).f0)) := V 0 _ rfl; have dg : O.cell? ⟨y, (b : Int).toNat * 6 + 1, none⟩ = some (.bool ((rd_T44 a b).f1.f0)) := V 1 _ rfl; have dh : O.cell? ⟨y, (b : Int).toNat * 6 + 2, none⟩ = some (.bool ((rd_T44 a b).f1.f1)) := V 2 _ rfl; have di : O.cell? ⟨y, (b : Int).toNat * 6 + 3, none⟩ = some (.int .i64 ((rd_T44 a b).f1.f2)) := V 3 _ rfl; have dj : O.cell? ⟨y, (b : Int).toNat * 6 + 4, none⟩ = some (.bool ((rd_T44 a b).f1.f3)) := V 4 _ rfl; have dk : O.cell? ⟨y, (b : Int).toNat * 6 + 5, none⟩ = some (.int .u8 ((rd_T44 a b).f2)) := V 5 _ rfl; have c4 : O.frozen? ⟨y, (b : Int).toNat * 6, none⟩ = false := W 0; have c6 : O.frozen? ⟨y, (b : Int).toNat * 6 + 1, none⟩ = false := W 1; have c7 : O.frozen? ⟨y, (b : Int).toNat * 6 + 2, none⟩ = false := W 2; have c8 : O.frozen? ⟨y, (b : Int).toNat * 6 + 3, none⟩ = false := W 3; have da : O.frozen? ⟨y, (b : Int).toNat * 6 + 4, none⟩ = false := W 4; have db : O.frozen? ⟨y, (b : Int).toNat * 6 + 5, none⟩ = false := W 5; clear bE V W bf; replace bx := eq_true bx; replace bz := eq_true bz; have bb := Z (show Kd.R k44 44 O w.heap.size (fun _ => True) (.slice (some ⟨y, 0, none⟩) a.length au) a from (by (with_reducible repeat apply pR); exact HO_220002.out)); obtain ⟨dQ, aF, bg, av, aG⟩ := Kd.R_elem bb.out z44 (b : Int) (od_) (by have h_ : (b : Int) < ((a.length : Int) : Int) := od_; first | exact h_ | (have e_ := (Kd.R_reads' HO_220002.out).1; omega) | simpa using h_); obtain rfl := k44_openM bg; have ay := Kd.R_seg bb.out (b : Int) (od_) (by have h_ : (b : Int) < ((a.length : Int) : Int) := od_; first | exact h_ | (have e_ := (Kd.R_reads' HO_220002.out).1; omega) | simpa using h_) (seg := [.int .u8 0]) (j := 5) aF av (show 6 ≤ 6 from by decide) (x' := (⟨(rd_T44 a b).f0, (⟨(rd_T44 a b).f1.f0, (rd_T44 a b).f1.f1, (rd_T44 a b).f1.f2, (rd_T44 a b).f1.f3⟩ : S28), 0⟩ : S44)) (k44_mkM _ _ _ (⟨(rd_T44 a b).f0, (⟨(rd_T44 a b).f1.f0, (rd_T44 a b).f1.f1, (rd_T44 a b).f1.f2, (rd_T44 a b).f1.f3⟩ : S28), 0⟩ : S44) ) (fun _ hk => hk); have bv := av 5 _ rfl; (try simp only [show (k44).sz = 6 from rfl, Nat.mul_one, Nat.add_zero] at bv); have bo := aG 5; (try simp only [show (k44).sz = 6 from rfl, Nat.mul_one, Nat.add_zero] at bo); clear aF av aG bg) | ((with_reducible refine gate_store (t := 5) (p := 20) rfl ?_); refine sx_ 5 20 (O.setCell ⟨y, (b : Int).toNat * 6 + 5, none⟩ (.int .u8 0)) ?_; intro bB hw; have hg : O.grownBy bB (some y) := (by rw [hw]; exact ay.2); have hp_ : Kd.R k44 44 bB w.heap.size (fun _ => True) (.slice (some ⟨y, 0, none⟩) a.length au) az := (by rw [hw, bC.out]; exact ay.1); clear ay; replace c := Z (blk_grown (g := ag) (o := .cells #[.int .i64 m, .int .i64 n, .slice T d.length U, .int .i64 q, .bool r, .bool s] 24 (0, 0)) (vK c.out) hg (Kd.R_ne HO_220002.out c.out (by decide))); replace i := Z (blk_grown (g := G) (o := .cells #[.int .i64 0, .int .i64 0, .slice none 0 0, .int .i64 0, .bool false, .bool false] 24 (0, 0)) (vK i.out) hg (Kd.R_ne HO_220002.out i.out (by decide))); replace l := Z (blk_grown (g := I) (o := .cells #[.int .i64 u, .int .i64 x, .slice (some ⟨y, 0, none⟩) a.length au, .int .i64 M, .bool E, .bool F] 24 (0, 0)) (vK l.out) hg (Kd.R_ne HO_220002.out l.out (by decide))); replace HO_220002 := Z (hp_); replace HB := Z ((by rw [hw]; exact below_set (HB.out) bN.out : Below w.heap.size w bB)); clear hg hw hp_))
       go_roundg k1
       case measure => have := aA.out; omega
       case rel => exact ⟨(wrap64 (b + 1)), (az), (.slice (some ⟨y, 0, none⟩) a.length au), (dn_), H', ⟨by have := aA.out; omega⟩, ⟨by (with_reducible repeat apply pR); exact HO_220002.out⟩, ⟨vK c.out⟩, ⟨vK i.out⟩, ⟨vK l.out⟩, ⟨bl_⟩⟩
      ·rw [if_neg aD] at H
       exact absurd H (by simp)
     ·rw [if_neg aC] at H
      exact absurd H (by simp)
    ·replace aB := Bool.eq_false_iff.mpr aB
     subst aB
     have H1 : (host_clean.l0 k1 (d.length : Int) (wrap64 (b + 1)) m n d q r s u x a M E F) = some (r1, r2, r3, r4, r5, r6) := by rw [if_neg (show ¬ (false = true) by decide)] at H; exact H
     clear H
     have H := H1
     clear H1
     have H' := Z H
     clear H
     have dz := P.out
     have dI := Q.out
     have dA := J.out
     have dJ := S.out
     obtain ⟨b3, b4, b5, b6, b7, b8, cE, cF, cG, cH, cI, cJ⟩ := cells6 c.out
     go_wp2_with (first | ((with_reducible refine gate_callee (f := 55) rfl ?_); refine goesL_ (some 15) rfl rfl Tryd.func55 (by kernel_rfl) rfl #[.agg #[.int .i64 m, .int .i64 n, .slice T d.length U, .int .i64 q, .bool r, .bool s], .int .i64 b] rfl ag_ ?_; (with_reducible refine (field_Open.calls m n _ _ d q r s b false _ ?side1 ?side2 bF.out).mono ?_); (case side1 => repeat (first | exact (Kd.C_below af.out HB.out) | (with_reducible apply pC))); (case side2 => exact ae.out); rintro e dY ⟨rfl, hb⟩; refine ⟨_, rfl, ?_⟩; replace HO_220002 := Z (rb HO_220002.out hb); replace c := Z (kb c.out hb); replace i := Z (kb i.out hb); replace l := Z (kb l.out hb); replace HB := Z (below_step bl_ hb); (try clear hb); (try clear bh); (try clear hk); (try clear hi)))
     go_roundg k1
     case measure => have := aA.out; omega
     case rel => exact ⟨(wrap64 (b + 1)), (a), (u220002), (dn_), H', ⟨by have := aA.out; omega⟩, ⟨by (with_reducible repeat apply pR); exact HO_220002.out⟩, ⟨vK c.out⟩, ⟨vK i.out⟩, ⟨vK l.out⟩, ⟨bl_⟩⟩
   ·rw [if_neg ar] at H
    have bD : decide (b < (d.length : Int)) = false := decide_eq_false ar
    clear ar
    replace H := Option.bind_eq_some_iff.mp H
    obtain ⟨aq, a7, H⟩ := H
    replace H : (some (u, x, a, mx 0 aq, E, F)) = some (r1, r2, r3, r4, r5, r6) := H
    have bH := Z a7
    clear a7
    obtain ⟨X, ab⟩ : ∃ j_ : Int, (mx 0 aq) = j_ := ⟨_, rfl⟩
    replace H : (some (u, x, a, X, E, F)) = some (r1, r2, r3, r4, r5, r6) := by first | (rw [ab] at H; exact H) | (simp only [ab] at H ⊢; exact H)
    (try rw [ab] at bH)
    (try (have dd : 0 ≤ X := by (rw [← ab]; unfold mx; (repeat' split) <;> omega)))
    (try (have de : 0 ≤ X := by omega))
    have dc : (if 0 < aq then aq else 0) = X := ab
    simp only [Option.some.injEq, Prod.mk.injEq] at H
    obtain ⟨rfl, rfl, rfl, rfl, rfl, rfl⟩ := H
    have dB := P.out
    have dK := Q.out
    have dC := J.out
    have dL := S.out
    obtain ⟨b9, ca, cb, cc, cd, ce, cK, cL, cM, cN, cO, cP⟩ := cells6 c.out
    go_wp2_with (first | ((with_reducible refine gate_callee (f := 78) rfl ?_); refine goesL_ (some 27) rfl rfl Tryd.func78 (by kernel_rfl) rfl #[.agg #[.int .i64 m, .int .i64 n, .slice T d.length U, .int .i64 q, .bool r, .bool s], .int .i64 (wrap64 ((d.length : Int) - 1))] rfl ag_ ?_; (with_reducible refine (field_Next.calls m n _ _ d q r s (wrap64 ((d.length : Int) - 1)) aq _ ?side1 ?side2 bH.out).mono ?_); (case side1 => repeat (first | exact (Kd.C_below af.out HB.out) | (with_reducible apply pC))); (case side2 => exact ae.out); rintro e dZ ⟨rfl, hb⟩; refine ⟨_, rfl, ?_⟩; replace HO_220002 := Z (rb HO_220002.out hb); replace c := Z (kb c.out hb); replace i := Z (kb i.out hb); replace l := Z (kb l.out hb); replace HB := Z (below_step bl_ hb); (try clear hb); (try clear bh); (try clear hk); (try clear hi); have dD := Y.out; have dM := K.out; obtain ⟨cf, cg, ch, ci, cj, ck, cQ, cR, cS, cT, cU, cV⟩ := cells6 l.out; obtain ⟨cl, cm, cn, co, cp, cq, cW, cX, cY, cZ, c0, c3⟩ := cells6 i.out; obtain ⟨ah, ai, bP⟩ := Kd.R_slice HO_220002.out; subst bP))
    refine bodyPost_ret (results_cell_row rfl _ _ G 24 #[.int .i64 u, .int .i64 x, .slice ah a.length ai, .int .i64 X, .bool E, .bool F] (0, 0) _ rfl (by (with_reducible repeat apply pK); refine blk_put (cs := #[.int .i64 u, .int .i64 x, .slice ah a.length ai, .int .i64 X, .bool E, .bool false]) ?_ 5 _ rfl; (with_reducible repeat apply pK); refine blk_put (cs := #[.int .i64 u, .int .i64 x, .slice ah a.length ai, .int .i64 X, .bool false, .bool false]) ?_ 4 _ rfl; (with_reducible repeat apply pK); refine blk_put (cs := #[.int .i64 u, .int .i64 x, .slice ah a.length ai, .int .i64 0, .bool false, .bool false]) ?_ 3 _ rfl; (with_reducible repeat apply pK); refine blk_put (cs := #[.int .i64 u, .int .i64 x, .slice none 0 0, .int .i64 0, .bool false, .bool false]) ?_ 2 _ rfl; (with_reducible repeat apply pK); refine blk_put (cs := #[.int .i64 u, .int .i64 0, .slice none 0 0, .int .i64 0, .bool false, .bool false]) ?_ 1 _ rfl; (with_reducible repeat apply pK); refine blk_put (cs := #[.int .i64 0, .int .i64 0, .slice none 0 0, .int .i64 0, .bool false, .bool false]) ?_ 0 _ rfl; (with_reducible repeat apply pK); refine blk_far ?_ K.out _; (with_reducible repeat apply pK); exact i.out) Tryd.underlying24 rfl (by kernel_rfl)) rfl ?_
    exact ⟨_, by first | rfl | (simp [errW_none, errW_some] <;> rfl) | (simp only [← ab]; first | rfl | (simp [errW_none, errW_some] <;> rfl)) | (simp [*, errW_none, errW_some] <;> rfl), by (with_reducible repeat apply pR); exact Kd.R_mono (f6R G (Kd.R_far (p := ⟨I, 3, none⟩) (Kd.R_types (Kd.R_types HO_220002.out l.out (by decide)) i.out (by decide)) (fun _ hk => hk.1.2) (.int .i64 X)) (fun _ hk => hk.2)) (fun _ hk => trivial), bl_⟩

end Go.Proofs.YtgboplhcjhlabaaDoor.P
