/- pp.py and press2.py (wip/tools) wrote this text. -/
import Derived.Test.YtphboakgkmjpbaaGreatDoorJHostDoes1
import Derived.Test.YtphboakgkmjpbaaGreatDoorPx4
import Derived.Test.YtphboakgkmjpbaaGreatDoorPx15
import Derived.Test.YtphboakgkmjpbaaGreatDoorPx16
import Derived.Test.YtphboakgkmjpbaaGreatDoorPx16L
import Derived.Test.YtphboakgkmjpbaaGreatDoorPx17
import Derived.Test.YtphboakgkmjpbaaGreatDoorPx21
import Derived.Test.YtphboakgkmjpbaaGreatDoorPx22
import Derived.Test.YtphboakgkmjpbaaGreatDoorPx27
namespace Go.Proofs.YtphboakgkmjpbaaGreatDoor.P
open Go.RowKit Go.Proofs.YtphboakgkmjpbaaGreatDoorW.PrintWords Go.Proofs.YtphboakgkmjpbaaGreatDoorW.PrintLast Go.Proofs.YtphboakgkmjpbaaGreatDoorW.PrintMore
attribute [local go_sem] max2_int min2_int max_two min_two max_three min_three max_four min_four
attribute [local go_sem] Instr.field asAgg
set_option linter.unusedVariables false
set_option linter.unusedSimpArgs false
set_option maxHeartbeats 8000000
set_option maxRecDepth 100000

/-! ### shutterlaw13_HostDoes: function 3 -/
def shutterlaw13_HostDoes.j0 : Nat → Bool → Int → Int → List (S47) → Int → Bool → Bool → Int → Bool → Bool → Bool → List (S49) → Option (Bool)
 | 0, _, _, _, _, _, _, _, _, _, _, _, _ => none
 | k + 1, v, d, e, c, g, h, i, j, l, m, n, o => if v = true then ((shutterlaw13_awake.f k).bind fun q => (some q)) else ((host_Do.f k d e c g h i j l m n o).bind fun a => ((shutterref08_Write.f k j l m n o (c.length : Int)).bind fun p => (if p.2.1 = 0 then (if a.2.2.2.2.2.2.1.isNone = true then ((shutterref13_Do.f k d e c g h i j l m n o).bind fun b => ((shutterref10_Same.f k a.1 a.2.1 a.2.2.1 a.2.2.2.1 a.2.2.2.2.1 a.2.2.2.2.2.1 b.1 b.2.1 b.2.2.1 b.2.2.2.1 b.2.2.2.2.1 b.2.2.2.2.2).bind fun r => (some r))) else (none)) else ((api_Code.f a.2.2.2.2.2.2.1 a.2.2.2.2.2.2.2).bind fun s => (if s = p.2.1 then ((api_Where.f a.2.2.2.2.2.2.1 a.2.2.2.2.2.2.2).bind fun t => (if t = p.2.2 then ((shutterref10_Same.f k a.1 a.2.1 a.2.2.1 a.2.2.2.1 a.2.2.2.2.1 a.2.2.2.2.2.1 d e c g h i).bind fun u => (some u)) else (none))) else (none))))))
def shutterlaw13_HostDoes.f (k : Nat) (a b : Int) (l : List (S47)) (c : Int) (d e : Bool) (g : Int) (h i j : Bool) (m : List (S49)) : Option (Bool) := (shutterlaw13_awake.f k).bind fun n => (if n = true then ((shutterref10_Few.f k a b l c d e).bind fun o => (if o = true then ((shutterref08_Few.f k g h i j m).bind fun p => (shutterlaw13_HostDoes.j0 k (!p) a b l c d e g h i j m)) else (shutterlaw13_HostDoes.j0 k true a b l c d e g h i j m))) else (none))
theorem shutterlaw13_HostDoes.mono_l : ∀ k, (∀ d e f g i j l m n o a b, LeO (shutterlaw13_HostDoes.j0 k d e f g i j l m n o a b) (shutterlaw13_HostDoes.j0 (k + 1) d e f g i j l m n o a b))
 | 0 => fun _ _ _ _ _ _ _ _ _ _ _ _ r h => by simp [shutterlaw13_HostDoes.j0] at h
 | k + 1 => by
  have c := shutterlaw13_HostDoes.mono_l k
  ·intro d e f g i j l m n o a b
   unfold shutterlaw13_HostDoes.j0
   repeat' first
   | (with_reducible exact c _ _ _ _ _ _ _ _ _ _ _ _)
   | (with_reducible exact host_Do.mono _ _ _ _ _ _ _ _ _ _ _ _)
   | (with_reducible exact shutterlaw13_awake.mono _)
   | (with_reducible exact shutterref08_Few.mono _ _ _ _ _ _)
   | (with_reducible exact shutterref08_Write.mono _ _ _ _ _ _ _)
   | (with_reducible exact shutterref10_Few.mono _ _ _ _ _ _ _)
   | (with_reducible exact shutterref10_Same.mono _ _ _ _ _ _ _ _ _ _ _ _ _)
   | (with_reducible exact shutterref13_Do.mono _ _ _ _ _ _ _ _ _ _ _ _)
   | (with_reducible exact LeO.refl _)
   | (with_reducible exact LeO.none _)
   | (with_reducible refine LeO.ite ?_ ?_)
   | (with_reducible refine LeO.bind ?_ (fun _ => ?_))
   | exact c _ _ _ _ _ _ _ _ _ _ _ _
   | exact host_Do.mono _ _ _ _ _ _ _ _ _ _ _ _
   | exact shutterlaw13_awake.mono _
   | exact shutterref08_Few.mono _ _ _ _ _ _
   | exact shutterref08_Write.mono _ _ _ _ _ _ _
   | exact shutterref10_Few.mono _ _ _ _ _ _ _
   | exact shutterref10_Same.mono _ _ _ _ _ _ _ _ _ _ _ _ _
   | exact shutterref13_Do.mono _ _ _ _ _ _ _ _ _ _ _ _
   | exact LeO.none _
   | refine LeO.ite ?_ ?_
   | refine LeO.bind ?_ (fun _ => ?_)
theorem shutterlaw13_HostDoes.mono : ∀ a0 a1 c d a4 e g h i j a k, LeO (shutterlaw13_HostDoes.f k a0 a1 c d a4 e g h i j a) (shutterlaw13_HostDoes.f (k + 1) a0 a1 c d a4 e g h i j a) := by
 intro a0 a1 c d a4 e g h i j a k
 have b := shutterlaw13_HostDoes.mono_l k
 unfold shutterlaw13_HostDoes.f
 repeat' first
   | (with_reducible exact b _ _ _ _ _ _ _ _ _ _ _ _)
   | (with_reducible exact host_Do.mono _ _ _ _ _ _ _ _ _ _ _ _)
   | (with_reducible exact shutterlaw13_awake.mono _)
   | (with_reducible exact shutterref08_Few.mono _ _ _ _ _ _)
   | (with_reducible exact shutterref08_Write.mono _ _ _ _ _ _ _)
   | (with_reducible exact shutterref10_Few.mono _ _ _ _ _ _ _)
   | (with_reducible exact shutterref10_Same.mono _ _ _ _ _ _ _ _ _ _ _ _ _)
   | (with_reducible exact shutterref13_Do.mono _ _ _ _ _ _ _ _ _ _ _ _)
   | (with_reducible exact LeO.refl _)
   | (with_reducible exact LeO.none _)
   | (with_reducible refine LeO.ite ?_ ?_)
   | (with_reducible refine LeO.bind ?_ (fun _ => ?_))
   | exact b _ _ _ _ _ _ _ _ _ _ _ _
   | exact host_Do.mono _ _ _ _ _ _ _ _ _ _ _ _
   | exact shutterlaw13_awake.mono _
   | exact shutterref08_Few.mono _ _ _ _ _ _
   | exact shutterref08_Write.mono _ _ _ _ _ _ _
   | exact shutterref10_Few.mono _ _ _ _ _ _ _
   | exact shutterref10_Same.mono _ _ _ _ _ _ _ _ _ _ _ _ _
   | exact shutterref13_Do.mono _ _ _ _ _ _ _ _ _ _ _ _
   | exact LeO.none _
   | refine LeO.ite ?_ ?_
   | refine LeO.bind ?_ (fun _ => ?_)
def shutterlaw13_HostDoes.T7 : Bool × List (List Nat × List Nat) := (true, [([], []), ([0], [0]), ([1], [1]), ([2], [2]), ([2], [2]), ([2], [2]), ([4, 5, 2, 2], [2, 4, 5]), ([3, 6, 6, 2], [2, 3, 6]), ([2, 7], [2, 7]), ([8, 7, 0, 1, 2, 3, 4, 5, 6, 7, 8], [8])])
def shutterlaw13_HostDoes.B7 : List Nat := [0, 1, 3, 7, 7, 7, 55, 127, 255, 511]
theorem shutterlaw13_HostDoes.tab7 : rtab .any (opsOf Tryz.f3 7) = shutterlaw13_HostDoes.T7 := by kernel_rfl
theorem shutterlaw13_HostDoes.bits7 : waitsOk shutterlaw13_HostDoes.T7.2 shutterlaw13_HostDoes.B7 = true := by kernel_rfl
theorem shutterlaw13_HostDoes.calls (k : Nat) (D E : Int) (ao : Option Addr) (ap : Nat) (j : List (S47)) (F : Int) (G I : Bool) (y : Int) (z A B : Bool) (ae : Option Addr) (af : Nat) (q : List (S49)) (r : Bool) (w : World) (a8 : Kd.C k47 w ao j.length j) (a6 : j.length ≤ ap) (a9 : Kd.C k49 w ae q.length q) (a7 : q.length ≤ af) (hG : LaidG w) (h : shutterlaw13_HostDoes.f k D E j F G I y z A B q = some r) :
  Calls Tryz.prog 3 #[.agg #[.int .i64 D, .int .i64 E, .slice ao j.length ap, .int .i64 F, .bool G, .bool I], .agg #[.int .i64 y, .bool z, .bool A, .bool B, .slice ae q.length af]] w fun e w' => e = .returned (.bool r) ∧ Below w.heap.size w w' := by
 have HG := Z hG
 clear hG
 have ft := Tryz.underlying24
 have fu := Tryz.underlying29
 have fv := Tryz.underlying34
 have fw := Tryz.underlying61
 have aG := Z a8
 have aD := Z a6
 clear a8 a6
 have aH := Z a9
 have aE := Z a7
 clear a9 a7
 have HB := Z (Below.refl w.heap.size w)
 unfold shutterlaw13_HostDoes.f at h
 have H := h
 clear h
 have bU := Z H
 clear H
 go_enter Tryz.func3, Tryz.ntmps3
 go_upto_region 1 with (first | ((with_reducible refine gD_ 2 rfl ?_); refine bx_ 2 24 #[.int .i64 D, .int .i64 E, .slice ao j.length ap, .int .i64 F, .bool G, .bool I] ?_; intro T hg w4 hbox hb; have a := Z hbox; have aK := ln' w hg; replace HB := bs_ hb; clear hb hbox hg) | ((with_reducible refine gD_ 3 rfl ?_); refine bx_ 3 29 #[.int .i64 y, .bool z, .bool A, .bool B, .slice ae q.length af] ?_; intro ab hg w5 hbox hb; have b := Z hbox; have aL := ln' w hg; replace HB := bs_ hb; have au := nl' a hg; replace a := kb' a hb; clear hb hbox hg))
 (try simp only [Act.put, sA, sB, sC])
 go_cut [21] (fun e4 wc => ∃ (kq : Nat) (aM : Bool), e4 = .bool aM ∧ Aside0 (shutterlaw13_HostDoes.j0 kq aM D E j F G I y z A B q = some r) ∧ Aside0 (kq ≤ k) ∧ Aside0 (wc.heap[T]? = some (.cells #[.int .i64 D, .int .i64 E, (.slice ao j.length ap), .int .i64 F, .bool G, .bool I] 24 (0, 0))) ∧ Aside0 (wc.heap[ab]? = some (.cells #[.int .i64 y, .bool z, .bool A, .bool B, (.slice ae q.length af)] 29 (0, 0))) ∧ Aside0 (Below w.heap.size w wc))
 case first =>
  have H := bU.out
  clear bU
  replace H := bn_ H
  obtain ⟨aQ, A6, H⟩ := H
  cases aQ
  ·rw [iF_] at H
   exact absurd H (by simp)
  rw [if_pos rfl] at H
  replace H := bn_ H
  obtain ⟨aB, A8, H⟩ := H
  by_cases c9 : aB = true
  ·subst c9
   rw [if_pos rfl] at H
   replace H := bn_ H
   obtain ⟨ag, eI, H⟩ := H
   have H' := Z H
   clear H
   go_wp2_with (first | ((with_reducible refine gF_ 4 rfl ?_); refine gd_ (some 10) Tryz.func4 (shutterlaw13_awake.calls k  true _ (laidG_below HG.out bl_ rfl) A6.out) ?_; rintro e fB ⟨rfl, hb⟩; refine ⟨_, rfl, ?_⟩; replace a := kb' a hb; replace b := kb' b hb; replace HB := bs_ hb; (try clear hb); have fd := ns_ au; have ba := cells6 a.out) | (go_at_call 5; (with_reducible refine (shutterref10_Few.calls k D E _ _ j F G I true _ ?side1 ?side2 A8.out).mono ?_); (case side1 => repeat (first | exact (Kd.C_below aG.out HB.out) | (with_reducible apply pC))); (case side2 => exact aD.out); rintro e fC ⟨rfl, hb⟩; replace a := kb' a hb; replace b := kb' b hb; replace HB := bs_ hb; (try clear hb); have bg := cells5 b.out) | (go_at_call 6; (with_reducible refine (shutterref08_Few.calls k y z A B _ _ q ag _ ?side1 ?side2 eI.out).mono ?_); (case side1 => repeat (first | exact (Kd.C_below aH.out HB.out) | (with_reducible apply pC))); (case side2 => exact aE.out); rintro e fD ⟨rfl, hb⟩; replace a := kb' a hb; replace b := kb' b hb; replace HB := bs_ hb; (try clear hb)))
   go_meet
   case rel => exact ⟨_, (!ag), (dn_), H', ⟨by first | omega | exact Nat.le_refl _⟩, ⟨vK a.out⟩, ⟨vK b.out⟩, ⟨bl_⟩⟩
  replace c9 := Bool.eq_false_iff.mpr c9
  subst c9
  rw [iF_] at H
  have H' := Z H
  clear H
  go_wp2_with (first | ((with_reducible refine gF_ 4 rfl ?_); refine gd_ (some 10) Tryz.func4 (shutterlaw13_awake.calls k  true _ (laidG_below HG.out bl_ rfl) A6.out) ?_; rintro e fE ⟨rfl, hb⟩; refine ⟨_, rfl, ?_⟩; replace a := kb' a hb; replace b := kb' b hb; replace HB := bs_ hb; (try clear hb); have fe := ns_ au; have bl := cells6 a.out) | (go_at_call 5; (with_reducible refine (shutterref10_Few.calls k D E _ _ j F G I false _ ?side1 ?side2 A8.out).mono ?_); (case side1 => repeat (first | exact (Kd.C_below aG.out HB.out) | (with_reducible apply pC))); (case side2 => exact aD.out); rintro e fF ⟨rfl, hb⟩; replace a := kb' a hb; replace b := kb' b hb; replace HB := bs_ hb; (try clear hb)))
  go_meet
  case rel => exact ⟨_, (true), (dn_), H', ⟨by first | omega | exact Nat.le_refl _⟩, ⟨vK a.out⟩, ⟨vK b.out⟩, ⟨bl_⟩⟩
 clear bU
 obtain ⟨kq, aM, rfl, HA, fy, a, b, HB⟩ := hcut
 cases kq with
 | zero => exact absurd HA.out (by simp [shutterlaw13_HostDoes.j0])
 | succ ac =>
  have H := HA.out
  clear HA
  simp only [shutterlaw13_HostDoes.j0] at H
  by_cases a5 : aM = true
  ·subst a5
   rw [if_pos rfl] at H
   replace H := bn_ H
   obtain ⟨aR, eJ, H⟩ := H
   obtain rfl := Option.some.inj H
   go_wp2_with (first | ((with_reducible refine gF_ 4 rfl ?_); refine gd_ (some 22) Tryz.func4 (shutterlaw13_awake.calls ac  aR _ (laidG_below HG.out bl_ rfl) eJ.out) ?_; rintro e fG ⟨rfl, hb⟩; refine ⟨_, rfl, ?_⟩; replace a := kb' a hb; replace b := kb' b hb; replace HB := bs_ hb; (try clear hb)))
   go_ret
   exact ⟨er_, bl_⟩
  replace a5 := Bool.eq_false_iff.mpr a5
  subst a5
  rw [iF_] at H
  replace H := bn_ H
  obtain ⟨⟨U, V, W, X, Y, aa, ah, aq⟩, b3, H⟩ := H
  try dsimp only at H
  replace H := bn_ H
  obtain ⟨⟨bX, ai, aC⟩, b4, H⟩ := H
  try dsimp only at H
  by_cases aN : ai = 0
  rotate_left
  ·rw [if_neg aN] at H
   obtain ⟨b1, b2⟩ := eF_ aN
   replace H := bn_ H
   obtain ⟨ar, eM, H⟩ := H
   obtain ⟨aY, H⟩ := gt_ H
   obtain ⟨e8, e9⟩ := eT_ aY
   clear aY
   replace H := bn_ H
   obtain ⟨aj, eN, H⟩ := H
   by_cases aZ : aj = aC
   ·rw [if_pos aZ] at H
    obtain ⟨fa, fc⟩ := eT_ aZ
    clear aZ
    replace H := bn_ H
    obtain ⟨an, eO, H⟩ := H
    obtain rfl := Option.some.inj H
    have fi := ns_ au
    have cR := cells6 a.out
    have cX := cells5 b.out
    go_wp2_with (first | ((with_reducible refine gF_ 7 rfl ?_); refine gd_ (some 26) Tryz.func7 (host_Do.calls ac D E (fun k_ => k_ < w.heap.size) _ _ j F G I y z A B _ _ q U V W X Y aa ah aq _ (Kd.V_mk aD.out (Kd.F_below (Kd.C_F k47_heap aG.out) bl_)) (cB_ aH HB) aE.out b3.out) ?_; rintro e fM ⟨cm, cn, rfl, ad, a0, hb⟩; refine ⟨_, rfl, ?_⟩; have l := Z (Kd.V_lower (Kd.V_mono (ok' := fun k_ => k_ ≠ T ∧ k_ ≠ ab) ad (fun k_ hk_ => ⟨Or.elim hk_ (fun hs_ => fun e_ => Nat.not_le.2 hs_ (by rw [e_]; exact aK.out)) (fun hn_ => (fb a.out k_ hn_)), Or.elim hk_ (fun hs_ => fun e_ => Nat.not_le.2 hs_ (by rw [e_]; exact aL.out)) (fun hn_ => (fb b.out k_ hn_))⟩)) (below_size bl_)); have m := Z (Kd.V_lower (Kd.V_mono (ok' := fun k_ => k_ ≠ T ∧ k_ ≠ ab) a0 (fun k_ hk_ => ⟨Or.elim hk_ (fun hs_ => fun e_ => Nat.not_le.2 hs_ (by rw [e_]; exact aK.out)) (fun hn_ => (fb a.out k_ hn_)), Or.elim hk_ (fun hs_ => fun e_ => Nat.not_le.2 hs_ (by rw [e_]; exact aL.out)) (fun hn_ => (fb b.out k_ hn_))⟩)) (below_size bl_)); replace a := kb' a hb; replace b := kb' b hb; replace HB := bs_ hb; (try clear hb); (try clear hk); (try clear ad); (try clear a0); (try simp only [errW_none, errW_some])) | ((with_reducible refine gD_ 5 rfl ?_); refine bx_ 5 24 zS_ ?_; intro d hg fN hbox hb; replace l := ve' l hg hb; replace m := ve' m hg hb; have c := Z hbox; have b0 := ln' w hg; replace HB := bs_ hb; have ak := nl' a hg; replace a := kb' a hb; have al := nl' b hg; replace b := kb' b hb; clear hb hbox hg; have fj := ns_ ak; have fk := ns_ al; have c5 := cells6 c.out; obtain ⟨a3, a4, cj⟩ := Kd.V_slice l.out; subst cj; have dd := cells5 b.out; have di := cells6 a.out) | ((with_reducible refine gF_ 8 rfl ?_); refine gd_ (some 34) Tryz.func8 (shutterref08_Write.calls ac y z A B _ _ q (j.length : Int) bX ai aC _ (Kd.C_below aH.out bl_) aE.out b4.out) ?_; rintro e fO ⟨bY, rfl, ad, hb⟩; refine ⟨_, rfl, ?_⟩; replace l := Z (Kd.V_elder' (by (with_reducible repeat apply pV); exact (Kd.V_mono (f6V d (Kd.V_mono l.out (fun k_ hk => (⟨hk, hk.2⟩ : _ ∧ k_ ≠ d))) (fun _ hk => hk.2)) (fun _ h_ => h_.1))) (Kd.R_base ad) hb); replace m := Z (Kd.V_elder' (by (with_reducible repeat apply pV); exact (Kd.V_mono (f6V d (Kd.V_mono m.out (fun k_ hk => (⟨hk, hk.2⟩ : _ ∧ k_ ≠ d))) (fun _ hk => hk.2)) (fun _ h_ => h_.1))) (Kd.R_base ad) hb); have O := Z (Kd.R_lower ad (below_size bl_)); replace a := Z (blk_below (g := T) (o := .cells #[.int .i64 D, .int .i64 E, .slice ao j.length ap, .int .i64 F, .bool G, .bool I] 24 (0, 0)) (by (with_reducible repeat apply pK); exact blk_off a.out ak.out off2_) hb); replace b := Z (blk_below (g := ab) (o := .cells #[.int .i64 y, .bool z, .bool A, .bool B, .slice ae q.length af] 29 (0, 0)) (by (with_reducible repeat apply pK); exact blk_off b.out al.out off2_) hb); replace c := Z (blk_below (g := d) (o := .cells #[.int .i64 U, .int .i64 V, .slice a3 W.length a4, .int .i64 X, .bool Y, .bool aa] 24 (0, 0)) (put6 c.out) hb); replace HB := bs_ hb; (try clear hb); (try clear hk); (try clear ad); obtain ⟨bT, bV, ck⟩ := Kd.V_slice m.out; subst ck) | ((with_reducible refine gF_ 9 rfl ?_); refine gd_ (some 41) Tryz.func9 (api_Code.calls ah _ _ aq ar _ (vC_ m) (vL_ m) (laidG_below HG.out bl_ rfl) eM.out) ?_; rintro e fP ⟨rfl, hb⟩; refine ⟨_, rfl, ?_⟩; replace l := vb' l hb; replace m := vb' m hb; replace O := rb' O hb; replace a := kb' a hb; replace b := kb' b hb; replace c := kb' c hb; replace HB := bs_ hb; (try clear hb); (try clear hk)) | (go_at_call 10; refine calls_of_args (args' := #[errW (.slice bT aq.length bV) ah]) (by first | rfl | rfl) ?_; (with_reducible refine (api_Where.calls ah _ _ aq aj _ ?side1 ?side2 ?sideG eN.out).mono ?_); (case sideG => exact laidG_below HG.out bl_ rfl); (case side1 => repeat (first | exact (Kd.V_reads' m.out).2.2 | (with_reducible apply pC))); (case side2 => exact (Kd.V_reads' m.out).2.1); rintro e w64 ⟨rfl, hb⟩; replace l := vb' l hb; replace m := vb' m hb; replace O := rb' O hb; replace a := kb' a hb; replace b := kb' b hb; replace c := kb' c hb; replace HB := bs_ hb; (try clear hb); (try clear hk); have dp := cells6 c.out; have dw := cells6 a.out) | (go_at_call 11; (with_reducible refine (shutterref10_Same.calls ac U V _ _ W X Y aa D E _ _ j F G I an _ ?side1 ?side2 ?side3 ?side4 eO.out).mono ?_); (case side1 => repeat (first | exact (Kd.V_reads' l.out).2.2 | (with_reducible apply pC))); (case side2 => exact (Kd.V_reads' l.out).2.1); (case side3 => repeat (first | exact (Kd.C_below aG.out HB.out) | (with_reducible apply pC))); (case side4 => exact aD.out); rintro e fQ ⟨rfl, hb⟩; replace l := vb' l hb; replace m := vb' m hb; replace O := rb' O hb; replace a := kb' a hb; replace b := kb' b hb; replace c := kb' c hb; replace HB := bs_ hb; (try clear hb); (try clear hk)))
    go_ret
    exact ⟨er_, bl_⟩
   rw [if_neg aZ] at H
   exact absurd H (by simp)
  rw [if_pos aN] at H
  obtain ⟨b1, b2⟩ := eT_ aN
  clear aN
  rcases ah with _ | cl
  rotate_left
  ·rw [if_neg (show ¬ (some cl).isNone = true by simp)] at H
   try simp only [errW_none, errW_some]
   exact absurd H (by simp)
  rw [if_pos (show (none : Option Er).isNone = true by rfl)] at H
  try simp only [errW_none, errW_some]
  replace H := bn_ H
  obtain ⟨⟨aS, aT, aU, aV, aW, aX⟩, eK, H⟩ := H
  try dsimp only at H
  replace H := bn_ H
  obtain ⟨am, eL, H⟩ := H
  obtain rfl := Option.some.inj H
  have ff := ns_ au
  have co := cells6 a.out
  have cv := cells5 b.out
  try go_wp2_with (first | ((with_reducible refine gF_ 7 rfl ?_); refine gd_ (some 26) Tryz.func7 (host_Do.calls ac D E (fun k_ => k_ < w.heap.size) _ _ j F G I y z A B _ _ q U V W X Y aa none aq _ (Kd.V_mk aD.out (Kd.F_below (Kd.C_F k47_heap aG.out) bl_)) (cB_ aH HB) aE.out b3.out) ?_; rintro e fH ⟨cm, cn, rfl, ad, a0, hb⟩; refine ⟨_, rfl, ?_⟩; have l := Z (Kd.V_lower (Kd.V_mono (ok' := fun k_ => k_ ≠ T ∧ k_ ≠ ab) ad (fun k_ hk_ => ⟨Or.elim hk_ (fun hs_ => fun e_ => Nat.not_le.2 hs_ (by rw [e_]; exact aK.out)) (fun hn_ => (fb a.out k_ hn_)), Or.elim hk_ (fun hs_ => fun e_ => Nat.not_le.2 hs_ (by rw [e_]; exact aL.out)) (fun hn_ => (fb b.out k_ hn_))⟩)) (below_size bl_)); have m := Z (Kd.V_lower (Kd.V_mono (ok' := fun k_ => k_ ≠ T ∧ k_ ≠ ab) a0 (fun k_ hk_ => ⟨Or.elim hk_ (fun hs_ => fun e_ => Nat.not_le.2 hs_ (by rw [e_]; exact aK.out)) (fun hn_ => (fb a.out k_ hn_)), Or.elim hk_ (fun hs_ => fun e_ => Nat.not_le.2 hs_ (by rw [e_]; exact aL.out)) (fun hn_ => (fb b.out k_ hn_))⟩)) (below_size bl_)); replace a := kb' a hb; replace b := kb' b hb; replace HB := bs_ hb; (try clear hb); (try clear hk); (try clear ad); (try clear a0); (try simp only [errW_none, errW_some])) | ((with_reducible refine gD_ 5 rfl ?_); refine bx_ 5 24 zS_ ?_; intro d hg fI hbox hb; replace l := ve' l hg hb; replace m := ve' m hg hb; have c := Z hbox; have b0 := ln' w hg; replace HB := bs_ hb; have ak := nl' a hg; replace a := kb' a hb; have al := nl' b hg; replace b := kb' b hb; clear hb hbox hg; have fg := ns_ ak; have fh := ns_ al; have cA := cells6 c.out; obtain ⟨aI, aJ, ci⟩ := Kd.V_slice l.out; subst ci; have cG := cells5 b.out; have cL := cells6 a.out) | ((with_reducible refine gF_ 8 rfl ?_); refine gd_ (some 34) Tryz.func8 (shutterref08_Write.calls ac y z A B _ _ q (j.length : Int) bX ai aC _ (Kd.C_below aH.out bl_) aE.out b4.out) ?_; rintro e e5 ⟨bY, rfl, ad, hb⟩; refine ⟨_, rfl, ?_⟩; replace l := Z (Kd.V_elder' (by (with_reducible repeat apply pV); exact (Kd.V_mono (f6V d (Kd.V_mono l.out (fun k_ hk => (⟨hk, hk.2⟩ : _ ∧ k_ ≠ d))) (fun _ hk => hk.2)) (fun _ h_ => h_.1))) (Kd.R_base ad) hb); replace m := Z (Kd.V_elder' (by (with_reducible repeat apply pV); exact (Kd.V_mono (f6V d (Kd.V_mono m.out (fun k_ hk => (⟨hk, hk.2⟩ : _ ∧ k_ ≠ d))) (fun _ hk => hk.2)) (fun _ h_ => h_.1))) (Kd.R_base ad) hb); have O := Z (Kd.R_lower ad (below_size bl_)); replace a := Z (blk_below (g := T) (o := .cells #[.int .i64 D, .int .i64 E, .slice ao j.length ap, .int .i64 F, .bool G, .bool I] 24 (0, 0)) (by (with_reducible repeat apply pK); exact blk_off a.out ak.out off2_) hb); replace b := Z (blk_below (g := ab) (o := .cells #[.int .i64 y, .bool z, .bool A, .bool B, .slice ae q.length af] 29 (0, 0)) (by (with_reducible repeat apply pK); exact blk_off b.out al.out off2_) hb); replace c := Z (blk_below (g := d) (o := .cells #[.int .i64 U, .int .i64 V, .slice aI W.length aJ, .int .i64 X, .bool Y, .bool aa] 24 (0, 0)) (put6 c.out) hb); replace HB := bs_ hb; (try clear hb); (try clear hk); (try clear ad)))
  replace l := Z (Kd.V_drew l.out)
  replace m := Z (Kd.V_drew m.out)
  replace O := Z (Kd.R_drew O.out)
  replace a := Z (blk_drew a.out)
  replace b := Z (blk_drew b.out)
  replace c := Z (blk_drew c.out)
  replace HB := Z (below_drew1 HB.out)
  refine start_ (n := 10) (S := fun w' => w'.cell? ⟨d, 0, none⟩ = some (.int .i64 U) ∧ w'.cell? ⟨d, 1, none⟩ = some (.int .i64 V) ∧ w'.cell? ⟨d, 2, none⟩ = some (.slice aI W.length aJ) ∧ w'.cell? ⟨d, 3, none⟩ = some (.int .i64 X) ∧ w'.cell? ⟨d, 4, none⟩ = some (.bool Y) ∧ w'.cell? ⟨d, 5, none⟩ = some (.bool aa) ∧ w'.cell? ⟨T, 0, none⟩ = some (.int .i64 D) ∧ w'.cell? ⟨T, 1, none⟩ = some (.int .i64 E) ∧ w'.cell? ⟨T, 2, none⟩ = some (.slice ao j.length ap) ∧ w'.cell? ⟨T, 3, none⟩ = some (.int .i64 F) ∧ w'.cell? ⟨T, 4, none⟩ = some (.bool G) ∧ w'.cell? ⟨T, 5, none⟩ = some (.bool I) ∧ w'.cell? ⟨ab, 0, none⟩ = some (.int .i64 y) ∧ w'.cell? ⟨ab, 1, none⟩ = some (.bool z) ∧ w'.cell? ⟨ab, 2, none⟩ = some (.bool A) ∧ w'.cell? ⟨ab, 3, none⟩ = some (.bool B) ∧ w'.cell? ⟨ab, 4, none⟩ = some (.slice ae q.length af)) (ds := []) (bv 10 0) (by kernel_rfl) rfl rfl hd_ (fun hHeld => ?_); refine with_tabW shutterlaw13_HostDoes.tab7 shutterlaw13_HostDoes.bits7 (fun HT_ HW_ => ?_)
  generalize e5.drew = fJ at l m O a b c HB hHeld ⊢
  refine pT_ HT_ 0 10 1 (some 55) ?_
  refine pT_ HT_ 1 10 3 (some 56) ?_
  refine pT_ HT_ 2 10 7 (some 57) ?_
  refine tT_ HT_ HW_ hHeld 3 10 15 (some 58) ?_
  refine tT_ HT_ HW_ hHeld 4 10 31 (some 59) ?_
  refine tT_ HT_ HW_ hHeld 5 10 63 (some 60) ?_
  refine oT_ HT_ 6 10 127 (some 61) (fun K hK => ?_)
  refine goes_ Tryz.func12 (by kernel_rfl) rfl #[.agg #[.int .i64 D, .int .i64 E, .slice ao j.length ap, .int .i64 F, .bool G, .bool I], .agg #[.int .i64 y, .bool z, .bool A, .bool B, .slice ae q.length af]] (by rfl) rfl rfl ag_ ?_
  with_reducible refine (shutterref13_Do.calls ac D E _ _ j F G I y z A B _ _ q aS aT aU aV aW aX _ ?side1 ?side2 ?side3 ?side4 eK.out).mono ?_
  (case side1 => repeat (first | exact (Kd.C_below aG.out HB.out) | (with_reducible apply pC)))
  (case side2 => exact aD.out)
  (case side3 => repeat (first | exact (Kd.C_below aH.out HB.out) | (with_reducible apply pC)))
  (case side4 => exact aE.out)
  rintro e fK ⟨fx, rfl, ad, hb⟩
  refine ⟨_, rfl, ?_⟩
  have s := vb' l hb
  have u := vb' m hb
  have x := rb' O hb
  have L := Z (Kd.V_lower (Kd.V_mono (ok' := fun k_ => some k_ ≠ (bY : Value).ownBlock ∧ k_ ≠ T ∧ k_ ≠ ab ∧ k_ ≠ d) ad (fun k_ hk_ => ⟨(Kd.fresh' (Kd.R_lt (by (with_reducible repeat apply pR); exact O.out)) k_ hk_), (Kd.freshB (g := T) (o := .cells #[.int .i64 D, .int .i64 E, .slice ao j.length ap, .int .i64 F, .bool G, .bool I] 24 (0, 0)) (vK a.out) k_ hk_), (Kd.freshB (g := ab) (o := .cells #[.int .i64 y, .bool z, .bool A, .bool B, .slice ae q.length af] 29 (0, 0)) (vK b.out) k_ hk_), (Kd.freshB (g := d) (o := .cells #[.int .i64 U, .int .i64 V, .slice aI W.length aJ, .int .i64 X, .bool Y, .bool aa] 24 (0, 0)) (vK c.out) k_ hk_)⟩)) (below_size bl_))
  have M := kb' a hb
  have P := kb' b hb
  have Q := kb' c hb
  have aA := bs_ hb
  clear l
  clear m
  clear O
  clear a
  clear b
  clear c
  clear HB
  have l := s
  have m := u
  have O := x
  have aF := L
  have a := M
  have b := P
  have c := Q
  have HB := aA
  clear s u x L M P Q aA
  (try clear hb)
  (try clear aw)
  (try clear hk)
  (try clear hi)
  (try clear ad)
  obtain ⟨cg, ch, bW⟩ := Kd.V_slice aF.out
  (first | subst bW | (injection bW with b7 eR b8; have eS := b7.symm; have eT := b8.symm; clear b7 eR b8; subst eS; subst eT))
  refine hK.out _ _ hd_ (fun hHeld => ?_)
  clear hK K
  refine nA_ (some 61) ?_
  refine oT_ HT_ 7 10 255 (some 62) (fun K hK => ?_)
  refine goes_ Tryz.func11 (by kernel_rfl) rfl #[.agg #[.int .i64 U, .int .i64 V, .slice aI W.length aJ, .int .i64 X, .bool Y, .bool aa], .agg #[.int .i64 aS, .int .i64 aT, .slice cg aU.length ch, .int .i64 aV, .bool aW, .bool aX]] (by rfl) rfl rfl ag_ ?_
  with_reducible refine (shutterref10_Same.calls ac U V _ _ W X Y aa aS aT _ _ aU aV aW aX am _ ?side1 ?side2 ?side3 ?side4 eL.out).mono ?_
  (case side1 => repeat (first | exact (Kd.V_reads' l.out).2.2 | (with_reducible apply pC)))
  (case side2 => exact (Kd.V_reads' l.out).2.1)
  (case side3 => repeat (first | exact (Kd.V_reads' aF.out).2.2 | (with_reducible apply pC)))
  (case side4 => exact (Kd.V_reads' aF.out).2.1)
  rintro e fL ⟨rfl, hb⟩
  refine ⟨_, rfl, ?_⟩
  replace l := vb' l hb
  replace m := vb' m hb
  replace O := rb' O hb
  replace aF := vb' aF hb
  replace a := kb' a hb
  replace b := kb' b hb
  replace c := kb' c hb
  replace HB := bs_ hb
  (try clear hb)
  (try clear aw)
  (try clear hk)
  (try clear hi)
  refine hK.out _ _ hd_ (fun hHeld => ?_)
  clear hK K
  refine nA_ (some 62) ?_
  refine pT_ HT_ 8 10 511 (some 63) ?_
  refine pT_ HT_ 9 10 1023 (some 4) ?_
  refine done_ (done_of HT_.out (by kernel_rfl)) ?_
  try go_wp2
  go_ret
  exact ⟨er_, bl_⟩

end Go.Proofs.YtphboakgkmjpbaaGreatDoor.P
