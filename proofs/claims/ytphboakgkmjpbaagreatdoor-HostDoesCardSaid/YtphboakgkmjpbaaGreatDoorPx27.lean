/- pp.py and press2.py (wip/tools) wrote this text. -/
import Derived.Test.YtphboakgkmjpbaaGreatDoorJHostDoes1
import Derived.Test.YtphboakgkmjpbaaGreatDoorPx23
import Derived.Test.YtphboakgkmjpbaaGreatDoorPx24
import Derived.Test.YtphboakgkmjpbaaGreatDoorPx26
namespace Go.Proofs.YtphboakgkmjpbaaGreatDoor.P
open Go.RowKit Go.Proofs.YtphboakgkmjpbaaGreatDoorW.PrintWords Go.Proofs.YtphboakgkmjpbaaGreatDoorW.PrintLast Go.Proofs.YtphboakgkmjpbaaGreatDoorW.PrintMore
attribute [local go_sem] max2_int min2_int max_two min_two max_three min_three max_four min_four
attribute [local go_sem] Instr.field asAgg
set_option linter.unusedVariables false
set_option linter.unusedSimpArgs false
set_option maxHeartbeats 8000000
set_option maxRecDepth 100000

/-! ### shutterref13_Do: function 12 -/
mutual
def shutterref13_Do.j0 : Nat → Bool → Int → Int → List (S47) → Int → Bool → Bool → Int → Bool → Bool → Bool → List (S49) → Int → Int → List (S47) → Int → Bool → Bool → Option (Int × Int × (List (S47)) × Int × Bool × Bool)
 | 0, _, _, _, _, _, _, _, _, _, _, _, _, _, _, _, _, _, _ => none
 | k + 1, x18, p, q, b, r, s, t, c, l, m, n, o, d, e, i, j, g, h => if x18 = true then (some (d, e, i, j, g, h)) else (if c = 111 then ((shutterref13_Reset.f k d e i j g h false).bind fun a => (shutterref13_Do.l0 k 0 p q b r s t a.1 a.2.1 a.2.2.1 a.2.2.2.1 a.2.2.2.2.1 a.2.2.2.2.2)) else (if c = 245 then (if 0 ≤ (b.length : Int) then (if ((b.length : Int) : Int).toNat ≤ 7036874417766 then (shutterref13_Do.j2 k c l m n o d e (List.replicate ((b.length : Int) : Int).toNat z47) 0 g h) else (none)) else (none)) else (shutterref13_Do.j2 k c l m n o d e i j g h)))
def shutterref13_Do.l0 : Nat → Int → Int → Int → List (S47) → Int → Bool → Bool → Int → Int → List (S47) → Int → Bool → Bool → Option (Int × Int × (List (S47)) × Int × Bool × Bool)
 | 0, _, _, _, _, _, _, _, _, _, _, _, _, _ => none
 | k + 1, l, c, d, b, e, g, h, i, j, a, m, n, o => if l < (b.length : Int) then ((shutterref11_Open.f k c d b e g h l).bind fun q => (if q = true then (if 0 ≤ l then (if l < (a.length : Int) then (shutterref13_Do.l0 k (wrap64 (l + 1)) c d b e g h i j (a.set (l : Int).toNat (⟨(rd_T47 a l).f0, (⟨(rd_T47 a l).f1.f0, (rd_T47 a l).f1.f1, (rd_T47 a l).f1.f2, (rd_T47 a l).f1.f3⟩ : S45), 0⟩ : S47)) m n o) else (none)) else (none)) else (shutterref13_Do.l0 k (wrap64 (l + 1)) c d b e g h i j a m n o))) else ((shutterref11_Next.f k c d b e g h (wrap64 ((b.length : Int) - 1))).bind fun p => (if p < 0 then (some (i, j, a, 0, false, false)) else (some (i, j, a, p, false, false))))
def shutterref13_Do.j2 : Nat → Int → Bool → Bool → Bool → List (S49) → Int → Int → List (S47) → Int → Bool → Bool → Option (Int × Int × (List (S47)) × Int × Bool × Bool)
 | 0, _, _, _, _, _, _, _, _, _, _, _ => none
 | k + 1, o, p, e, n, g, h, i, j, d, l, m => if n = true then ((shutterref13_Reset.f k h i j d l m true).bind fun c => ((shutterref12_All.f k c.1 c.2.1 c.2.2.1 c.2.2.2.1 c.2.2.2.2.1 c.2.2.2.2.2 c.2.2.2.1 g).bind fun a => (if e = true then (some (a.1, a.2.1, a.2.2.1, a.2.2.2.1, false, false)) else (some (a.1, a.2.1, a.2.2.1, a.2.2.2.1, a.2.2.2.2.1, a.2.2.2.2.2.1))))) else ((shutterref12_All.f k h i j d l m d g).bind fun b => (if e = true then (some (b.1, b.2.1, b.2.2.1, b.2.2.2.1, false, false)) else (some (b.1, b.2.1, b.2.2.1, b.2.2.2.1, b.2.2.2.2.1, b.2.2.2.2.2.1))))
end
def shutterref13_Do.f (k : Nat) (c d : Int) (i : List (S47)) (e : Int) (g h : Bool) (b : Int) (j l m : Bool) (n : List (S49)) : Option (Int × Int × (List (S47)) × Int × Bool × Bool) := (shutterref10_Copy.f c d i e g h).bind fun a => (if b = 242 then (shutterref13_Do.j0 k true c d i e g h b j l m n a.1 a.2.1 a.2.2.1 a.2.2.2.1 a.2.2.2.2.1 a.2.2.2.2.2) else (shutterref13_Do.j0 k (b == 246) c d i e g h b j l m n a.1 a.2.1 a.2.2.1 a.2.2.2.1 a.2.2.2.2.1 a.2.2.2.2.2))
theorem shutterref13_Do.mono_l : ∀ k, (∀ b c f g i j l m n o a d e t u v w x, LeO (shutterref13_Do.j0 k b c f g i j l m n o a d e t u v w x) (shutterref13_Do.j0 (k + 1) b c f g i j l m n o a d e t u v w x)) ∧ (∀ b c f g i j l m n o a d e, LeO (shutterref13_Do.l0 k b c f g i j l m n o a d e) (shutterref13_Do.l0 (k + 1) b c f g i j l m n o a d e)) ∧ (∀ b c f g i j l m n o a, LeO (shutterref13_Do.j2 k b c f g i j l m n o a) (shutterref13_Do.j2 (k + 1) b c f g i j l m n o a))
 | 0 => ⟨fun _ _ _ _ _ _ _ _ _ _ _ _ _ _ _ _ _ _ r h => by simp [shutterref13_Do.j0] at h, fun _ _ _ _ _ _ _ _ _ _ _ _ _ r h => by simp [shutterref13_Do.l0] at h, fun _ _ _ _ _ _ _ _ _ _ _ r h => by simp [shutterref13_Do.j2] at h⟩
 | k + 1 => by
  obtain ⟨p, q, s⟩ := shutterref13_Do.mono_l k
  refine ⟨?_, ?_, ?_⟩
  ·intro b c f g i j l m n o a d e t u v w x
   unfold shutterref13_Do.j0
   repeat' first
   | (with_reducible exact p _ _ _ _ _ _ _ _ _ _ _ _ _ _ _ _ _ _)
   | (with_reducible exact q _ _ _ _ _ _ _ _ _ _ _ _ _)
   | (with_reducible exact s _ _ _ _ _ _ _ _ _ _ _)
   | (with_reducible exact shutterref11_Next.mono _ _ _ _ _ _ _ _)
   | (with_reducible exact shutterref11_Open.mono _ _ _ _ _ _ _ _)
   | (with_reducible exact shutterref12_All.mono _ _ _ _ _ _ _ _ _)
   | (with_reducible exact shutterref13_Reset.mono _ _ _ _ _ _ _ _)
   | (with_reducible exact LeO.refl _)
   | (with_reducible exact LeO.none _)
   | (with_reducible refine LeO.ite ?_ ?_)
   | (with_reducible refine LeO.bind ?_ (fun _ => ?_))
   | exact p _ _ _ _ _ _ _ _ _ _ _ _ _ _ _ _ _ _
   | exact q _ _ _ _ _ _ _ _ _ _ _ _ _
   | exact s _ _ _ _ _ _ _ _ _ _ _
   | exact shutterref11_Next.mono _ _ _ _ _ _ _ _
   | exact shutterref11_Open.mono _ _ _ _ _ _ _ _
   | exact shutterref12_All.mono _ _ _ _ _ _ _ _ _
   | exact shutterref13_Reset.mono _ _ _ _ _ _ _ _
   | exact LeO.none _
   | refine LeO.ite ?_ ?_
   | refine LeO.bind ?_ (fun _ => ?_)
  ·intro b c f g i j l m n o a d e
   unfold shutterref13_Do.l0
   repeat' first
   | (with_reducible exact p _ _ _ _ _ _ _ _ _ _ _ _ _ _ _ _ _ _)
   | (with_reducible exact q _ _ _ _ _ _ _ _ _ _ _ _ _)
   | (with_reducible exact s _ _ _ _ _ _ _ _ _ _ _)
   | (with_reducible exact shutterref11_Next.mono _ _ _ _ _ _ _ _)
   | (with_reducible exact shutterref11_Open.mono _ _ _ _ _ _ _ _)
   | (with_reducible exact shutterref12_All.mono _ _ _ _ _ _ _ _ _)
   | (with_reducible exact shutterref13_Reset.mono _ _ _ _ _ _ _ _)
   | (with_reducible exact LeO.refl _)
   | (with_reducible exact LeO.none _)
   | (with_reducible refine LeO.ite ?_ ?_)
   | (with_reducible refine LeO.bind ?_ (fun _ => ?_))
   | exact p _ _ _ _ _ _ _ _ _ _ _ _ _ _ _ _ _ _
   | exact q _ _ _ _ _ _ _ _ _ _ _ _ _
   | exact s _ _ _ _ _ _ _ _ _ _ _
   | exact shutterref11_Next.mono _ _ _ _ _ _ _ _
   | exact shutterref11_Open.mono _ _ _ _ _ _ _ _
   | exact shutterref12_All.mono _ _ _ _ _ _ _ _ _
   | exact shutterref13_Reset.mono _ _ _ _ _ _ _ _
   | exact LeO.none _
   | refine LeO.ite ?_ ?_
   | refine LeO.bind ?_ (fun _ => ?_)
  ·intro b c f g i j l m n o a
   unfold shutterref13_Do.j2
   repeat' first
   | (with_reducible exact p _ _ _ _ _ _ _ _ _ _ _ _ _ _ _ _ _ _)
   | (with_reducible exact q _ _ _ _ _ _ _ _ _ _ _ _ _)
   | (with_reducible exact s _ _ _ _ _ _ _ _ _ _ _)
   | (with_reducible exact shutterref11_Next.mono _ _ _ _ _ _ _ _)
   | (with_reducible exact shutterref11_Open.mono _ _ _ _ _ _ _ _)
   | (with_reducible exact shutterref12_All.mono _ _ _ _ _ _ _ _ _)
   | (with_reducible exact shutterref13_Reset.mono _ _ _ _ _ _ _ _)
   | (with_reducible exact LeO.refl _)
   | (with_reducible exact LeO.none _)
   | (with_reducible refine LeO.ite ?_ ?_)
   | (with_reducible refine LeO.bind ?_ (fun _ => ?_))
   | exact p _ _ _ _ _ _ _ _ _ _ _ _ _ _ _ _ _ _
   | exact q _ _ _ _ _ _ _ _ _ _ _ _ _
   | exact s _ _ _ _ _ _ _ _ _ _ _
   | exact shutterref11_Next.mono _ _ _ _ _ _ _ _
   | exact shutterref11_Open.mono _ _ _ _ _ _ _ _
   | exact shutterref12_All.mono _ _ _ _ _ _ _ _ _
   | exact shutterref13_Reset.mono _ _ _ _ _ _ _ _
   | exact LeO.none _
   | refine LeO.ite ?_ ?_
   | refine LeO.bind ?_ (fun _ => ?_)
theorem shutterref13_Do.mono : ∀ a0 a1 e g a4 h i j l m a k, LeO (shutterref13_Do.f k a0 a1 e g a4 h i j l m a) (shutterref13_Do.f (k + 1) a0 a1 e g a4 h i j l m a) := by
 intro a0 a1 e g a4 h i j l m a k
 obtain ⟨b, c, d⟩ := shutterref13_Do.mono_l k
 unfold shutterref13_Do.f
 repeat' first
   | (with_reducible exact b _ _ _ _ _ _ _ _ _ _ _ _ _ _ _ _ _ _)
   | (with_reducible exact c _ _ _ _ _ _ _ _ _ _ _ _ _)
   | (with_reducible exact d _ _ _ _ _ _ _ _ _ _ _)
   | (with_reducible exact shutterref11_Next.mono _ _ _ _ _ _ _ _)
   | (with_reducible exact shutterref11_Open.mono _ _ _ _ _ _ _ _)
   | (with_reducible exact shutterref12_All.mono _ _ _ _ _ _ _ _ _)
   | (with_reducible exact shutterref13_Reset.mono _ _ _ _ _ _ _ _)
   | (with_reducible exact LeO.refl _)
   | (with_reducible exact LeO.none _)
   | (with_reducible refine LeO.ite ?_ ?_)
   | (with_reducible refine LeO.bind ?_ (fun _ => ?_))
   | exact b _ _ _ _ _ _ _ _ _ _ _ _ _ _ _ _ _ _
   | exact c _ _ _ _ _ _ _ _ _ _ _ _ _
   | exact d _ _ _ _ _ _ _ _ _ _ _
   | exact shutterref11_Next.mono _ _ _ _ _ _ _ _
   | exact shutterref11_Open.mono _ _ _ _ _ _ _ _
   | exact shutterref12_All.mono _ _ _ _ _ _ _ _ _
   | exact shutterref13_Reset.mono _ _ _ _ _ _ _ _
   | exact LeO.none _
   | refine LeO.ite ?_ ?_
   | refine LeO.bind ?_ (fun _ => ?_)
theorem shutterref13_Do.calls (k : Nat) (S T : Int) (aR : Option Addr) (aS : Nat) (D : List (S47)) (U : Int) (W X : Bool) (O : Int) (aC aA aW : Bool) (aV : Option Addr) (aX : Nat) (Y : List (S49)) (r1 r2 : Int) (r3 : List (S47)) (r4 : Int) (r5 r6 : Bool) (w : World) (fp : Kd.C k47 w aR D.length D) (fl : D.length ≤ aS) (fq : Kd.C k49 w aV Y.length Y) (fm : Y.length ≤ aX) (h : shutterref13_Do.f k S T D U W X O aC aA aW Y = some (r1, r2, r3, r4, r5, r6)) :
  Calls Tryz.prog 12 #[.agg #[.int .i64 S, .int .i64 T, .slice aR D.length aS, .int .i64 U, .bool W, .bool X], .agg #[.int .i64 O, .bool aC, .bool aA, .bool aW, .slice aV Y.length aX]] w fun e w' => ∃ jf : Value, e = .returned (.agg #[.int .i64 r1, .int .i64 r2, jf, .int .i64 r4, .bool r5, .bool r6]) ∧ Kd.V k47 47 w' w.heap.size (fun k_ => (w.heap.size ≤ k_)) jf r3 ∧ Below w.heap.size w w' := by
 have sQ := Tryz.underlying24
 have sR := Tryz.underlying29
 have ch := Z fp
 have cg := Z fl
 clear fp fl
 have di := Z fq
 have dh := Z fm
 clear fq fm
 have HB := Z (Below.refl w.heap.size w)
 unfold shutterref13_Do.f at h
 have H := h
 clear h
 replace H := bn_ H
 obtain ⟨⟨al, am, a1, a8, an, ao⟩, A3, H⟩ := H
 try dsimp only at H
 have ia := Z H
 clear H
 go_enter Tryz.func12, Tryz.ntmps12
 go_upto_region 2 with (first | ((with_reducible refine gD_ 2 rfl ?_); refine bx_ 2 24 #[.int .i64 S, .int .i64 T, .slice aR D.length aS, .int .i64 U, .bool W, .bool X] ?_; intro ap hg w5 hbox hb; have d := Z hbox; have qU := ln' w hg; replace HB := bs_ hb; clear hb hbox hg) | ((with_reducible refine gD_ 3 rfl ?_); refine bx_ 3 29 #[.int .i64 O, .bool aC, .bool aA, .bool aW, .slice aV Y.length aX] ?_; intro aq hg w6 hbox hb; have c := Z hbox; have qW := ln' w hg; replace HB := bs_ hb; have ai := nl' d hg; replace d := kb' d hb; clear hb hbox hg) | ((with_reducible refine gD_ 4 rfl ?_); refine bx_ 4 24 zS_ ?_; intro l hg w7 hbox hb; have b := Z hbox; have qX := ln' w hg; replace HB := bs_ hb; have r := nl' d hg; replace d := kb' d hb; have s := nl' c hg; replace c := kb' c hb; clear hb hbox hg; have sL := ns_ ai; have sN := ns_ r; have cn := cells6 d.out) | ((with_reducible refine gF_ 27 rfl ?_); refine gd_ (some 10) Tryz.func27 (shutterref10_Copy.calls S T _ _ D U W X al am a1 a8 an ao _ (cB_ ch HB) cg.out A3.out) ?_; rintro e ty ⟨sV, rfl, aZ, hb⟩; refine ⟨_, rfl, ?_⟩; have b9 := rn_ w aZ; replace d := kb' d hb; replace c := kb' c hb; replace b := kb' b hb; replace HB := bs_ hb; (try clear hb); (try clear aZ)) | ((with_reducible refine gD_ 5 rfl ?_); refine bx_ 5 24 zS_ ?_; intro n hg tz hbox hb; replace b9 := rb' b9 hb; have a := Z hbox; have qY := ln' w hg; replace HB := bs_ hb; have K := nl' d hg; replace d := kb' d hb; have F := nl' c hg; replace c := kb' c hb; have L := nl' b hg; replace b := kb' b hb; clear hb hbox hg; have qZ := ns_ K; have q0 := ns_ F; have q1 := ns_ L; have cu := cells6 a.out; obtain ⟨bX, b5, jh⟩ := Kd.R_slice b9.out; subst jh))
 (try simp only [Act.put, sA, sB, sC])
 go_cut [18] (fun qO wc => ∃ (kq : Nat) (dm : Bool), qO = .bool dm ∧ Aside0 (shutterref13_Do.j0 kq dm S T D U W X O aC aA aW Y al am a1 a8 an ao = some (r1, r2, r3, r4, r5, r6)) ∧ Aside0 (kq ≤ k) ∧ Aside0 (Kd.R k47 47 wc w.heap.size (fun k_ => (w.heap.size ≤ k_)) (.slice bX a1.length b5) a1) ∧ Aside0 (wc.heap[ap]? = some (.cells #[.int .i64 S, .int .i64 T, (.slice aR D.length aS), .int .i64 U, .bool W, .bool X] 24 (0, 0))) ∧ Aside0 (wc.heap[aq]? = some (.cells #[.int .i64 O, .bool aC, .bool aA, .bool aW, (.slice aV Y.length aX)] 29 (0, 0))) ∧ Aside0 (wc.heap[l]? = some (.cells zS_ 24 (0, 0))) ∧ Aside0 (wc.heap[n]? = some (.cells #[.int .i64 al, .int .i64 am, (.slice bX a1.length b5), .int .i64 a8, .bool an, .bool ao] 24 (0, 0))) ∧ Aside0 (Below w.heap.size w wc))
 case first =>
  have H := ia.out
  clear ia
  by_cases cc : O = 242
  ·rw [if_pos cc] at H
   obtain ⟨bL, dj⟩ := eT_ cc
   clear cc
   (first | rw [bL] | (simp only [i64_w, i32_w]; rw [bL]) | skip)
   have H' := Z H
   clear H
   have q2 := ns_ ai
   have q3 := ns_ s
   have q4 := ns_ F
   have cA := cells5 c.out
   go_wp2
   go_meet
   case rel => exact ⟨_, (true), (dn_), H', ⟨by first | omega | exact Nat.le_refl _⟩, ⟨by (with_reducible repeat apply pR); exact Kd.R_mono (f6R n (Kd.R_types b9.out a.out (by decide)) im_) im_⟩, ⟨blk_off d.out K.out off2_⟩, ⟨blk_off c.out F.out off2_⟩, ⟨blk_off b.out L.out off2_⟩, ⟨put6 a.out⟩, ⟨bl_⟩⟩
  rw [if_neg cc] at H
  obtain ⟨bL, dj⟩ := eF_ cc
  (first | rw [bL] | (simp only [i64_w, i32_w]; rw [bL]) | skip)
  have H' := Z H
  clear H
  have q6 := ns_ ai
  have q7 := ns_ s
  have q8 := ns_ F
  have cF := cells5 c.out
  go_wp2
  go_meet
  case rel => exact ⟨_, ((O == 246)), (dn_), H', ⟨by first | omega | exact Nat.le_refl _⟩, ⟨by (with_reducible repeat apply pR); exact Kd.R_mono (f6R n (Kd.R_types b9.out a.out (by decide)) im_) im_⟩, ⟨blk_off d.out K.out off2_⟩, ⟨blk_off c.out F.out off2_⟩, ⟨blk_off b.out L.out off2_⟩, ⟨put6 a.out⟩, ⟨bl_⟩⟩
 clear ia
 try clear cn
 try clear cu
 obtain ⟨kq, dm, rfl, HA, dw, GD, d, c, b, a, HB⟩ := hcut
 cases kq with
 | zero => exact absurd HA.out (by simp [shutterref13_Do.j0])
 | succ cd =>
  have H := HA.out
  clear HA
  simp only [shutterref13_Do.j0] at H
  by_cases dx : dm = true
  ·subst dx
   rw [if_pos rfl] at H
   obtain ⟨rfl, rfl, rfl, rfl, rfl, rfl⟩ := ij6_ H
   have q9 := ns_ K
   have ra := ns_ F
   have rc := ns_ L
   have dy := cells6 a.out
   have rd := ns_ r
   have re := ns_ s
   have dE := cells6 b.out
   go_wp2
   refine rc1_ (put6 b.out) Tryz.underlying24 ?_
   exact ⟨_, er_, Kd.R_V (by (with_reducible repeat apply pR); exact R_off GD.out b.out (by decide) off2_), bl_⟩
  replace dx := Bool.eq_false_iff.mpr dx
  subst dx
  rw [iF_] at H
  by_cases ci : O = 111
  ·rw [if_pos ci] at H
   obtain ⟨ez, eA⟩ := eT_ ci
   clear ci
   replace H := bn_ H
   obtain ⟨⟨aa, ac, du, a2, bi, bc⟩, oW, H⟩ := H
   try dsimp only at H
   have H' := Z H
   clear H
   have rf := ns_ ai
   have rg := ns_ s
   have rh := ns_ F
   have dK := cells5 c.out
   have ri := ns_ K
   have rj := ns_ L
   have dP := cells6 a.out
   go_wp2_with (first | ((with_reducible refine gF_ 28 rfl ?_); refine gd_ (some 24) Tryz.func28 (shutterref13_Reset.calls cd al am _ _ a1 a8 an ao false aa ac du a2 bi bc _ (rC_ GD) (rL_ GD) oW.out) ?_; rintro e tA ⟨sW, rfl, aZ, hb⟩; refine ⟨_, rfl, ?_⟩; have fg := Z (Kd.R_lower (Kd.R_new' (Kd.R_newM (M := fun k_ => (w.heap.size ≤ k_)) aZ (below_size bl_) (fun k_ h_ => h_)) (Kd.R_lt (by (with_reducible repeat apply pR); exact GD.out))) (below_size bl_)); replace GD := Z (Kd.R_elder' (by (with_reducible repeat apply pR); exact GD.out) (Kd.R_base aZ) hb); replace d := kb' d hb; replace c := kb' c hb; replace b := kb' b hb; replace a := kb' a hb; replace HB := bs_ hb; (try clear hb); (try clear aZ); have dV := cells6 a.out; obtain ⟨h9, ii, ji⟩ := Kd.R_slice fg.out; subst ji))
   go_loopg [6] cd (fun kq v6 w' => ∃ (q : Int) (i : List (S47)) (GE : Value), v6 = .int .i64 q ∧ Aside0 (shutterref13_Do.l0 kq q S T D U W X aa ac i a2 bi bc = some (r1, r2, r3, r4, r5, r6)) ∧ Aside0 (kq ≤ cd) ∧ Aside0 (Kd.R k47 47 w' w.heap.size (fun k_ => (w.heap.size ≤ k_)) GE i) ∧ Aside0 (w'.heap[ap]? = some (.cells #[.int .i64 S, .int .i64 T, (.slice aR D.length aS), .int .i64 U, .bool W, .bool X] 24 (0, 0))) ∧ Aside0 (w'.heap[aq]? = some (.cells #[.int .i64 O, .bool aC, .bool aA, .bool aW, (.slice aV Y.length aX)] 29 (0, 0))) ∧ Aside0 (w'.heap[l]? = some (.cells zS_ 24 (0, 0))) ∧ Aside0 (w'.heap[n]? = some (.cells #[.int .i64 aa, .int .i64 ac, GE, .int .i64 a2, .bool bi, .bool bc] 24 (0, 0))) ∧ Aside0 (Below w.heap.size w w'))
   case atStart => exact ⟨(0), (du), (.slice h9 du.length ii), (dn_), H', ⟨Nat.le_refl _⟩, ⟨by (with_reducible repeat apply pR); exact Kd.R_mono (f6R n (Kd.R_types fg.out a.out (by decide)) im_) im_⟩, ⟨blk_off d.out K.out off2_⟩, ⟨blk_off c.out F.out off2_⟩, ⟨blk_off b.out L.out off2_⟩, ⟨put6 a.out⟩, ⟨bl_⟩⟩
   case round =>
    clear H'
    try clear dx
    try clear ci
    try clear ez
    try clear eA
    try clear cn
    try clear cu
    try clear dK
    try clear dP
    try clear dV
    obtain ⟨q, i, GE, rfl, HA, ff, GD, d, c, b, a, HB⟩ := hrel
    cases gk with
    | zero => exact absurd HA.out (by simp [shutterref13_Do.l0])
    | succ k2 =>
     have H := HA.out
     clear HA
     simp only [shutterref13_Do.l0] at H
     by_cases dq : q < (D.length : Int)
     ·rw [if_pos dq] at H
      have fj := decide_eq_true dq
      clear dq
      replace H := bn_ H
      obtain ⟨iw, iU, H⟩ := H
      cases iw
      ·rw [iF_] at H
       have H' := Z H
       clear H
       have rp := ns_ ai
       have rq := ns_ r
       have rr := ns_ K
       have fD := cells6 d.out
       go_wp2_with (first | ((with_reducible refine gF_ 29 rfl ?_); refine gd_ (some 34) Tryz.func29 (shutterref11_Open.calls k2 S T _ _ D U W X q false _ (cB_ ch HB) cg.out iU.out) ?_; rintro e tB ⟨rfl, hb⟩; refine ⟨_, rfl, ?_⟩; replace GD := rb' GD hb; replace d := kb' d hb; replace c := kb' c hb; replace b := kb' b hb; replace a := kb' a hb; replace HB := bs_ hb; (try clear hb)))
       go_roundg k2
       case measure => have := dw.out; have := ff.out; omega
       case rel => exact ⟨(wrap64 (q + 1)), (i), (GE), (dn_), H', ⟨by have := dw.out; have := ff.out; omega⟩, ⟨vR_ GD.out⟩, ⟨vK d.out⟩, ⟨vK c.out⟩, ⟨vK b.out⟩, ⟨vK a.out⟩, ⟨bl_⟩⟩
      rw [if_pos rfl] at H
      obtain ⟨eG, H⟩ := gt_ H
      have iF := decide_eq_true eG
      clear eG
      obtain ⟨eH, H⟩ := gt_ H
      have iG := decide_eq_true eH
      clear eH
      obtain ⟨fa, cj⟩ : ∃ y_ : List (S47), y_ = (i.set (q : Int).toNat (⟨(rd_T47 i q).f0, (⟨(rd_T47 i q).f1.f0, (rd_T47 i q).f1.f1, (rd_T47 i q).f1.f2, (rd_T47 i q).f1.f3⟩ : S45), 0⟩ : S47)) := ⟨_, rfl⟩
      rw [← cj] at H
      try replace H := sb_ H
      have iE := Z cj
      clear cj
      have H' := Z H
      clear H
      have rk := ns_ ai
      have rl := ns_ r
      have rm := ns_ K
      have fr := cells6 d.out
      go_wp2_with (first | ((with_reducible refine gF_ 29 rfl ?_); refine gd_ (some 34) Tryz.func29 (shutterref11_Open.calls k2 S T _ _ D U W X q true _ (cB_ ch HB) cg.out iU.out) ?_; rintro e bK ⟨rfl, hb⟩; refine ⟨_, rfl, ?_⟩; replace GD := rb' GD hb; replace d := kb' d hb; replace c := kb' c hb; replace b := kb' b hb; replace a := kb' a hb; replace HB := bs_ hb; (try clear hb); (try clear hk); have rn := ns_ F; have ro := ns_ L; have fx := cells6 a.out; have p52 : 0 ≤ (q : Int) := od_; have eJ : (q : Int) < ((i.length : Int) : Int) := od_; obtain ⟨a0, eC, ij, ik, jl, sI, ib⟩ := Kd.R_form GD.out (by omega); (first | cases ij | (injection ij with ea_ en_ ec_; (first | subst ea_ | (injection ea_ with ea_; subst ea_)); subst ec_; clear en_)); have jg := Z ik; have sv := Z ib; clear ik jl ib; obtain ⟨sG, iS, il, bT, bU⟩ := Kd.R_elem GD.out z47 (q : Int) p52 eJ; obtain rfl := k47_openM il; have ip := ce_ bT; have o7 := cf_ bU; clear iS bT bU il; replace p52 := eq_true p52; replace eJ := eq_true eJ; have ic := Z (show Kd.R k47 47 bK w.heap.size (fun k_ => (w.heap.size ≤ k_)) (.slice (some ⟨a0, 0, none⟩) i.length eC) i from (by (with_reducible repeat apply pR); exact GD.out)); obtain ⟨sH, fn, im, eD, fo⟩ := Kd.R_elem ic.out z47 (q : Int) (od_) (by have h_ : (q : Int) < ((i.length : Int) : Int) := od_; first | exact h_ | (have e_ := (Kd.R_reads' GD.out).1; omega) | simpa using h_); obtain rfl := k47_openM im; have eL := Kd.R_seg ic.out (q : Int) (od_) (by have h_ : (q : Int) < ((i.length : Int) : Int) := od_; first | exact h_ | (have e_ := (Kd.R_reads' GD.out).1; omega) | simpa using h_) (seg := [.int .u8 0]) (j := 5) fn eD (show 6 ≤ 6 from by decide) (x' := (⟨(rd_T47 i q).f0, (⟨(rd_T47 i q).f1.f0, (rd_T47 i q).f1.f1, (rd_T47 i q).f1.f2, (rd_T47 i q).f1.f3⟩ : S45), 0⟩ : S47)) (k47_mkM _ _ _ (⟨(rd_T47 i q).f0, (⟨(rd_T47 i q).f1.f0, (rd_T47 i q).f1.f1, (rd_T47 i q).f1.f2, (rd_T47 i q).f1.f3⟩ : S45), 0⟩ : S47) ) (fun _ hk => hk); have eI := eD 5 _ rfl; (try simp only [show (k47).sz = 6 from rfl, Nat.mul_one, Nat.add_zero] at eI); have io := fo 5; (try simp only [show (k47).sz = 6 from rfl, Nat.mul_one, Nat.add_zero] at io); clear fn eD fo im) | ((with_reducible refine gate_store (t := 5) (p := 39) rfl ?_); refine sx_ 5 39 (bK.setCell ⟨a0, (q : Int).toNat * 6 + 5, none⟩ (.int .u8 0)) ?_; intro iz hw; have hg : bK.grownBy iz (some a0) := (by rw [hw]; exact eL.2); have hp_ : Kd.R k47 47 iz w.heap.size (fun k_ => (w.heap.size ≤ k_)) (.slice (some ⟨a0, 0, none⟩) i.length eC) fa := (by rw [hw, iE.out]; exact eL.1); clear eL; replace d := gw_ ⟨vK d.out⟩ hg (Kd.R_ne GD.out d.out (by decide)); replace c := gw_ ⟨vK c.out⟩ hg (Kd.R_ne GD.out c.out (by decide)); replace b := gw_ ⟨vK b.out⟩ hg (Kd.R_ne GD.out b.out (by decide)); replace a := gw_ ⟨vK a.out⟩ hg (Kd.R_ne GD.out a.out (by decide)); replace GD := Z (hp_); replace HB := Z ((by rw [hw]; exact below_set (HB.out) jg.out : Below w.heap.size w iz)); clear hg hw hp_))
      go_roundg k2
      case measure => have := dw.out; have := ff.out; omega
      case rel => exact ⟨(wrap64 (q + 1)), (fa), (.slice (some ⟨a0, 0, none⟩) i.length eC), (dn_), H', ⟨by have := dw.out; have := ff.out; omega⟩, ⟨vR_ GD.out⟩, ⟨vK d.out⟩, ⟨vK c.out⟩, ⟨vK b.out⟩, ⟨vK a.out⟩, ⟨bl_⟩⟩
     rw [if_neg dq] at H
     have fj := decide_eq_false dq
     clear dq
     replace H := bn_ H
     obtain ⟨bd, iV, H⟩ := H
     by_cases dr : bd < 0
     ·rw [if_pos dr] at H
      have fk := decide_eq_true dr
      clear dr
      obtain ⟨rfl, rfl, rfl, rfl, rfl, rfl⟩ := ij6_ H
      have rs := ns_ ai
      have rt := ns_ r
      have ru := ns_ K
      have fJ := cells6 d.out
      have rv := ns_ F
      have rx := ns_ L
      have fP := cells6 a.out
      go_wp2_with (first | ((with_reducible refine gF_ 30 rfl ?_); refine gd_ (some 47) Tryz.func30 (shutterref11_Next.calls k2 S T _ _ D U W X (wrap64 ((D.length : Int) - 1)) bd _ (Kd.C_below ch.out bl_) cg.out iV.out) ?_; rintro e qP ⟨rfl, hb⟩; refine ⟨_, rfl, ?_⟩; replace GD := Z (Kd.R_below (by (with_reducible repeat apply pR); exact (Kd.R_mono (Kd.R_far (p := ⟨n, 5, none⟩) (Kd.R_far (p := ⟨n, 4, none⟩) (Kd.R_types GD.out a.out (by decide)) (fun _ hk => hk.2) (.bool false)) (fun _ hk => hk.2) (.bool false)) (fun _ h_ => h_.1))) hb); replace d := Z (blk_below (g := ap) (o := .cells #[.int .i64 S, .int .i64 T, .slice aR D.length aS, .int .i64 U, .bool W, .bool X] 24 (0, 0)) (blk_off d.out K.out off2_) hb); replace c := Z (blk_below (g := aq) (o := .cells #[.int .i64 O, .bool aC, .bool aA, .bool aW, .slice aV Y.length aX] 29 (0, 0)) (blk_off c.out F.out off2_) hb); replace b := Z (blk_below (g := l) (o := .cells zS_ 24 (0, 0)) (blk_off b.out L.out off2_) hb); replace a := Z (blk_below (g := n) (o := .cells #[.int .i64 aa, .int .i64 ac, GE, .int .i64 a2, .bool false, .bool false] 24 (0, 0)) (by (with_reducible repeat apply pK); refine blk_put (cs := #[.int .i64 aa, .int .i64 ac, GE, .int .i64 a2, .bool false, .bool bc]) ?_ 5 _ rfl; (with_reducible repeat apply pK); refine blk_put (cs := #[.int .i64 aa, .int .i64 ac, GE, .int .i64 a2, .bool bi, .bool bc]) ?_ 4 _ rfl; (with_reducible repeat apply pK); exact a.out) hb); replace HB := bs_ hb; (try clear hb); (try clear hk); have fV := cells6 a.out; have ry := ns_ s; have gb := cells6 b.out; obtain ⟨bE, bF, jj⟩ := Kd.R_slice GD.out; subst jj) | ((with_reducible refine gate_store (t := 24) (p := 4) rfl ?_); refine sx_ 24 4 ((((((((qP.setCell ⟨n, 3, none⟩ (.int .i64 bd)).setCell ⟨n, 3, none⟩ (.int .i64 0)).setCell ⟨l, 0, none⟩ (.int .i64 aa)).setCell ⟨l, 1, none⟩ (.int .i64 ac)).setCell ⟨l, 2, none⟩ (.slice bE i.length bF)).setCell ⟨l, 3, none⟩ (.int .i64 0)).setCell ⟨l, 4, none⟩ (.bool false)).setCell ⟨l, 5, none⟩ (.bool false)) ?_; intro eu hw; replace GD : Aside0 (Kd.R k47 47 eu w.heap.size (fun k_ => (w.heap.size ≤ k_)) (.slice bE i.length bF) i) := ⟨(by rw [hw]; exact (by (with_reducible repeat apply pR); exact Kd.R_mono (f6R l (Kd.R_far (p := ⟨n, 3, none⟩) (Kd.R_far (p := ⟨n, 3, none⟩) (Kd.R_types (Kd.R_types GD.out a.out (by decide)) b.out (by decide)) (fun _ hk => hk.1.2) (.int .i64 bd)) (fun _ hk => hk.1.2) (.int .i64 0)) (fun _ hk => hk.2)) (fun _ hk => hk.1.1)))⟩; replace d : Aside0 (eu.heap[ap]? = some (.cells #[.int .i64 S, .int .i64 T, .slice aR D.length aS, .int .i64 U, .bool W, .bool X] 24 (0, 0))) := ⟨(by rw [hw]; exact (by (with_reducible repeat apply pK); refine blk_far ?_ r.out _; (with_reducible repeat apply pK); refine blk_far ?_ r.out _; (with_reducible repeat apply pK); refine blk_far ?_ r.out _; (with_reducible repeat apply pK); refine blk_far ?_ r.out _; (with_reducible repeat apply pK); refine blk_far ?_ r.out _; (with_reducible repeat apply pK); refine blk_far ?_ r.out _; (with_reducible repeat apply pK); refine blk_far ?_ K.out _; (with_reducible repeat apply pK); refine blk_far ?_ K.out _; (with_reducible repeat apply pK); exact d.out))⟩; replace c : Aside0 (eu.heap[aq]? = some (.cells #[.int .i64 O, .bool aC, .bool aA, .bool aW, .slice aV Y.length aX] 29 (0, 0))) := ⟨(by rw [hw]; exact (by (with_reducible repeat apply pK); refine blk_far ?_ s.out _; (with_reducible repeat apply pK); refine blk_far ?_ s.out _; (with_reducible repeat apply pK); refine blk_far ?_ s.out _; (with_reducible repeat apply pK); refine blk_far ?_ s.out _; (with_reducible repeat apply pK); refine blk_far ?_ s.out _; (with_reducible repeat apply pK); refine blk_far ?_ s.out _; (with_reducible repeat apply pK); refine blk_far ?_ F.out _; (with_reducible repeat apply pK); refine blk_far ?_ F.out _; (with_reducible repeat apply pK); exact c.out))⟩; replace b : Aside0 (eu.heap[l]? = some (.cells #[.int .i64 aa, .int .i64 ac, .slice bE i.length bF, .int .i64 0, .bool false, .bool false] 24 (0, 0))) := ⟨(by rw [hw]; exact (put6 (by (with_reducible repeat apply pK); refine blk_far ?_ L.out _; (with_reducible repeat apply pK); refine blk_far ?_ L.out _; (with_reducible repeat apply pK); exact b.out)))⟩; replace a : Aside0 (eu.heap[n]? = some (.cells #[.int .i64 aa, .int .i64 ac, .slice bE i.length bF, .int .i64 0, .bool false, .bool false] 24 (0, 0))) := ⟨(by rw [hw]; exact (by (with_reducible repeat apply pK); refine blk_far ?_ L.out.symm _; (with_reducible repeat apply pK); refine blk_far ?_ L.out.symm _; (with_reducible repeat apply pK); refine blk_far ?_ L.out.symm _; (with_reducible repeat apply pK); refine blk_far ?_ L.out.symm _; (with_reducible repeat apply pK); refine blk_far ?_ L.out.symm _; (with_reducible repeat apply pK); refine blk_far ?_ L.out.symm _; (with_reducible repeat apply pK); refine blk_put (cs := #[.int .i64 aa, .int .i64 ac, .slice bE i.length bF, .int .i64 bd, .bool false, .bool false]) ?_ 3 _ rfl; (with_reducible repeat apply pK); refine blk_put (cs := #[.int .i64 aa, .int .i64 ac, .slice bE i.length bF, .int .i64 a2, .bool false, .bool false]) ?_ 3 _ rfl; (with_reducible repeat apply pK); exact a.out))⟩; replace HB : Aside0 (Below w.heap.size w eu) := ⟨by rw [hw]; exact bl_⟩; clear hw))
      refine rc1_ (vK b.out) Tryz.underlying24 ?_
      exact ⟨_, er_, Kd.R_V (by (with_reducible repeat apply pR); exact GD.out), bl_⟩
     rw [if_neg dr] at H
     have fk := decide_eq_false dr
     clear dr
     obtain ⟨rfl, rfl, rfl, rfl, rfl, rfl⟩ := ij6_ H
     have rz := ns_ ai
     have rA := ns_ r
     have rB := ns_ K
     have gh := cells6 d.out
     have rC := ns_ F
     have rD := ns_ L
     have go := cells6 a.out
     go_wp2_with (first | ((with_reducible refine gF_ 30 rfl ?_); refine gd_ (some 47) Tryz.func30 (shutterref11_Next.calls k2 S T _ _ D U W X (wrap64 ((D.length : Int) - 1)) bd _ (Kd.C_below ch.out bl_) cg.out iV.out) ?_; rintro e tC ⟨rfl, hb⟩; refine ⟨_, rfl, ?_⟩; replace GD := Z (Kd.R_below (by (with_reducible repeat apply pR); exact (Kd.R_mono (Kd.R_far (p := ⟨n, 5, none⟩) (Kd.R_far (p := ⟨n, 4, none⟩) (Kd.R_types GD.out a.out (by decide)) (fun _ hk => hk.2) (.bool false)) (fun _ hk => hk.2) (.bool false)) (fun _ h_ => h_.1))) hb); replace d := Z (blk_below (g := ap) (o := .cells #[.int .i64 S, .int .i64 T, .slice aR D.length aS, .int .i64 U, .bool W, .bool X] 24 (0, 0)) (blk_off d.out K.out off2_) hb); replace c := Z (blk_below (g := aq) (o := .cells #[.int .i64 O, .bool aC, .bool aA, .bool aW, .slice aV Y.length aX] 29 (0, 0)) (blk_off c.out F.out off2_) hb); replace b := Z (blk_below (g := l) (o := .cells zS_ 24 (0, 0)) (blk_off b.out L.out off2_) hb); replace a := Z (blk_below (g := n) (o := .cells #[.int .i64 aa, .int .i64 ac, GE, .int .i64 a2, .bool false, .bool false] 24 (0, 0)) (by (with_reducible repeat apply pK); refine blk_put (cs := #[.int .i64 aa, .int .i64 ac, GE, .int .i64 a2, .bool false, .bool bc]) ?_ 5 _ rfl; (with_reducible repeat apply pK); refine blk_put (cs := #[.int .i64 aa, .int .i64 ac, GE, .int .i64 a2, .bool bi, .bool bc]) ?_ 4 _ rfl; (with_reducible repeat apply pK); exact a.out) hb); replace HB := bs_ hb; (try clear hb); (try clear hk); have gu := cells6 a.out; have rE := ns_ s; have gA := cells6 b.out; obtain ⟨dn, ds, jk⟩ := Kd.R_slice GD.out; subst jk))
     refine bodyPost_ret (results_cell_row rfl _ _ l 24 #[.int .i64 aa, .int .i64 ac, .slice dn i.length ds, .int .i64 bd, .bool false, .bool false] (0, 0) _ rfl (put6 (by (with_reducible repeat apply pK); refine blk_far ?_ L.out _; (with_reducible repeat apply pK); exact b.out)) Tryz.underlying24 rfl (by kernel_rfl)) rfl ?_
     exact ⟨_, er_, Kd.R_V (by (with_reducible repeat apply pR); exact Kd.R_mono (f6R l (Kd.R_far (p := ⟨n, 3, none⟩) (Kd.R_types (Kd.R_types GD.out a.out (by decide)) b.out (by decide)) im_ (.int .i64 bd)) im_) im_), bl_⟩
  rw [if_neg ci] at H
  obtain ⟨ez, eA⟩ := eF_ ci
  have eK := Z H
  clear H
  have rF := ns_ ai
  have rG := ns_ s
  have rH := ns_ F
  have gG := cells5 c.out
  go_upto_if 56 with (fail)
  go_cut [] (fun wc => ∃ (kq : Nat) (m : List (S47)) (J : Int) (GE : Value), Aside0 (shutterref13_Do.j2 kq O aC aA aW Y al am m J an ao = some (r1, r2, r3, r4, r5, r6)) ∧ Aside0 (kq ≤ cd) ∧ Aside0 (Kd.R k47 47 wc w.heap.size (fun k_ => (w.heap.size ≤ k_)) GE m) ∧ Aside0 (wc.heap[ap]? = some (.cells #[.int .i64 S, .int .i64 T, (.slice aR D.length aS), .int .i64 U, .bool W, .bool X] 24 (0, 0))) ∧ Aside0 (wc.heap[aq]? = some (.cells #[.int .i64 O, .bool aC, .bool aA, .bool aW, (.slice aV Y.length aX)] 29 (0, 0))) ∧ Aside0 (wc.heap[l]? = some (.cells zS_ 24 (0, 0))) ∧ Aside0 (wc.heap[n]? = some (.cells #[.int .i64 al, .int .i64 am, GE, .int .i64 J, .bool an, .bool ao] 24 (0, 0))) ∧ Aside0 (Below w.heap.size w wc))
  case first =>
   have H := eK.out
   clear eK
   by_cases b4 : O = 245
   rotate_left
   ·rw [if_neg b4] at H
    obtain ⟨bN, eE⟩ := eF_ b4
    (first | rw [bN] | (simp only [i64_w, i32_w]; rw [bN]) | skip)
    have H' := Z H
    clear H
    go_wp2
    go_meet
    case rel => exact ⟨_, (a1), (a8), (.slice bX a1.length b5), H', ⟨by have := dw.out; first | omega | exact Nat.le_refl _⟩, ⟨vR_ GD.out⟩, ⟨vK d.out⟩, ⟨vK c.out⟩, ⟨vK b.out⟩, ⟨vK a.out⟩, ⟨bl_⟩⟩
   rw [if_pos b4] at H
   obtain ⟨bN, eE⟩ := eT_ b4
   clear b4
   (first | rw [bN] | (simp only [i64_w, i32_w]; rw [bN]) | skip)
   obtain ⟨cl, H⟩ := gt_ H
   have id := eq_true cl
   have ie := decide_eq_true cl
   clear cl
   obtain ⟨cm, H⟩ := gt_ H
   have ig := eq_true cm
   have ih := decide_eq_true cm
   clear cm
   obtain ⟨dv, ck⟩ : ∃ y_ : List (S47), y_ = (List.replicate ((D.length : Int) : Int).toNat z47) := ⟨_, rfl⟩
   rw [← ck] at H
   try replace H := sb_ H
   have fi := Z ck
   clear ck
   have H' := Z H
   clear H
   have pd := ns_ ai
   have pe := ns_ r
   have pf := ns_ K
   have eM := cells6 d.out
   go_wp2_with (first | ((with_reducible refine gD_ 60 rfl ?_); refine Kd.R_make k47 _ 47 rfl (N := 60) rfl 22 _ _ rfl (D.length : Int) rfl rfl Tryz.underlying22 (.agg #[(.bool false), (.bool false), (.bool false), (.int .i64 0), (.bool false), (.int .u8 0)]) 40 info47 rfl (by decide) (by omega) z47 (ok := fun _ => True) (okp := fun _ => True) (k47_mkM _ _ _ z47 ) (fun _ hk => hk) trivial (od_) (Nat.le_trans (Nat.mul_le_mul_right _ (od_ : (D.length : Int).toNat ≤ 7036874417766)) (by omega)) (Below.refl _ _) (Nat.le_refl _) ?_; intro sX sY cb hb hg_ hnew_; clear hg_ hnew_; (first | rw [← fi.out] at cb | (simp only [Int.reduceToNat] at cb; rw [← fi.out] at cb)); have fh := Z (Kd.R_lower (Kd.R_new' (Kd.R_newM (M := fun k_ => (w.heap.size ≤ k_)) cb (below_size bl_) (fun k_ h_ => h_)) (Kd.R_lt (by (with_reducible repeat apply pR); exact GD.out))) (below_size bl_)); replace GD := Z (Kd.R_elder' (by (with_reducible repeat apply pR); exact GD.out) (Kd.R_base cb) hb); replace d := kb' d hb; replace c := kb' c hb; replace b := kb' b hb; replace a := kb' a hb; replace HB := bs_ hb; clear hb cb; obtain ⟨ev, eB, iH⟩ := Kd.R_slice fh.out; subst iH; have pg := ns_ F; have ph := ns_ L; have eS := cells6 a.out))
   go_meet
   case rel => exact ⟨_, (dv), (0), (.slice ev dv.length eB), H', ⟨by have := dw.out; first | omega | exact Nat.le_refl _⟩, ⟨by (with_reducible repeat apply pR); exact Kd.R_mono (Kd.R_far (p := ⟨n, 3, none⟩) (Kd.R_far (p := ⟨n, 2, none⟩) (Kd.R_types fh.out a.out (by decide)) im_ (.slice ev dv.length eB)) im_ (.int .i64 0)) im_⟩, ⟨blk_off d.out K.out off2_⟩, ⟨blk_off c.out F.out off2_⟩, ⟨blk_off b.out L.out off2_⟩, ⟨by (with_reducible repeat apply pK); refine blk_put (cs := #[.int .i64 al, .int .i64 am, .slice ev dv.length eB, .int .i64 a8, .bool an, .bool ao]) ?_ 3 _ rfl; (with_reducible repeat apply pK); refine blk_put (cs := #[.int .i64 al, .int .i64 am, .slice bX a1.length b5, .int .i64 a8, .bool an, .bool ao]) ?_ 2 _ rfl; (with_reducible repeat apply pK); exact a.out⟩, ⟨bl_⟩⟩
  clear eK
  try clear dx
  try clear ci
  try clear ez
  try clear eA
  try clear cn
  try clear cu
  try clear gG
  obtain ⟨kq, m, J, GE, HA, sw, GD, d, c, b, a, HB⟩ := hcut
  cases kq with
  | zero => exact absurd HA.out (by simp [shutterref13_Do.j2])
  | succ bM =>
   have H := HA.out
   clear HA
   simp only [shutterref13_Do.j2] at H
   by_cases ew : aW = true
   ·subst ew
    rw [if_pos rfl] at H
    replace H := bn_ H
    obtain ⟨⟨bj, bk, av, a3, bl, bm⟩, h3, H⟩ := H
    try dsimp only at H
    replace H := bn_ H
    obtain ⟨⟨ab, af, ad, ar, aY, a4, ix⟩, h4, H⟩ := H
    try dsimp only at H
    by_cases ex : aA = true
    ·subst ex
     rw [if_pos rfl] at H
     obtain ⟨rfl, rfl, rfl, rfl, rfl, rfl⟩ := ij6_ H
     have pi := ns_ ai
     have pj := ns_ s
     have pk := ns_ F
     have jm := cells5 c.out
     have pl := ns_ K
     have pm := ns_ L
     have jr := cells6 a.out
     obtain ⟨bO, bR, iI⟩ := Kd.R_slice GD.out
     subst iI
     go_wp2_with (first | ((with_reducible refine gF_ 28 rfl ?_); refine gd_ (some 67) Tryz.func28 (shutterref13_Reset.calls bM al am _ _ m J an ao true bj bk av a3 bl bm _ (rC_ GD) (rL_ GD) h3.out) ?_; rintro e oQ ⟨oN, rfl, aZ, hb⟩; refine ⟨_, rfl, ?_⟩; have I := Z (Kd.R_lower (Kd.R_new' (Kd.R_newM (M := fun k_ => (w.heap.size ≤ k_)) aZ (below_size bl_) (fun k_ h_ => h_)) (Kd.R_lt (by (with_reducible repeat apply pR); exact GD.out))) (below_size bl_)); replace GD := Z (Kd.R_elder' (by (with_reducible repeat apply pR); exact GD.out) (Kd.R_base aZ) hb); replace d := kb' d hb; replace c := kb' c hb; replace b := kb' b hb; replace a := kb' a hb; replace HB := bs_ hb; (try clear hb); (try clear hk); (try clear aZ); have jx := cells6 a.out; obtain ⟨bA, bC, iJ⟩ := Kd.R_slice I.out; subst iJ) | ((with_reducible refine gate_store (t := 24) (p := 5) rfl ?_); refine sx_ 24 5 ((((((oQ.setCell ⟨n, 0, none⟩ (.int .i64 bj)).setCell ⟨n, 1, none⟩ (.int .i64 bk)).setCell ⟨n, 2, none⟩ (.slice bA av.length bC)).setCell ⟨n, 3, none⟩ (.int .i64 a3)).setCell ⟨n, 4, none⟩ (.bool bl)).setCell ⟨n, 5, none⟩ (.bool bm)) ?_; intro ce hw; replace GD : Aside0 (Kd.R k47 47 ce w.heap.size (fun k_ => (w.heap.size ≤ k_) ∧ some k_ ≠ (.slice bA av.length bC : Value).ownBlock) (.slice bO m.length bR) m) := ⟨(by rw [hw]; exact (by (with_reducible repeat apply pR); exact Kd.R_mono (R_off GD.out a.out (by decide) off2_) (fun _ hk => ⟨hk.1, hk.2⟩)))⟩; replace I : Aside0 (Kd.R k47 47 ce w.heap.size (fun k_ => (w.heap.size ≤ k_) ∧ some k_ ≠ (.slice bO m.length bR : Value).ownBlock) (.slice bA av.length bC) av) := ⟨(by rw [hw]; exact (by (with_reducible repeat apply pR); exact Kd.R_mono (R_off I.out a.out (by decide) off2_) (fun _ hk => ⟨hk.1.1, hk.2⟩)))⟩; replace d := Z (sM hw (blk_off d.out K.out off2_)); replace c := Z (sM hw (blk_off c.out F.out off2_)); replace b := Z (sM hw (blk_off b.out L.out off2_)); replace a : Aside0 (ce.heap[n]? = some (.cells #[.int .i64 bj, .int .i64 bk, .slice bA av.length bC, .int .i64 a3, .bool bl, .bool bm] 24 (0, 0))) := ⟨by rw [hw]; exact (put6 a.out)⟩; replace HB : Aside0 (Below w.heap.size w ce) := ⟨by rw [hw]; exact bl_⟩; clear hw; have jD := cells6 a.out; have jJ := cells5 c.out) | ((with_reducible refine gF_ 31 rfl ?_); refine gd_ (some 74) Tryz.func31 (shutterref12_All.calls bM bj bk (fun k_ => some k_ = (.slice bA av.length bC : Value).ownBlock) _ _ av a3 bl bm a3 _ _ Y ab af ad ar aY a4 ix _ (Kd.R_V (Kd.R_tight rfl (Kd.R_types (Kd.R_types (Kd.R_types (Kd.R_types (I.out) d.out (by decide)) c.out (by decide)) b.out (by decide)) a.out (by decide)))) (cB_ di HB) dh.out h4.out) ?_; rintro e sZ ⟨oO, rfl, aZ, hb⟩; refine ⟨_, rfl, ?_⟩; have aN := Z (Kd.V_lower (Kd.V_mono (ok' := fun k_ => (w.heap.size ≤ k_) ∧ some k_ ≠ (.slice bO m.length bR : Value).ownBlock ∧ k_ ≠ ap ∧ k_ ≠ aq ∧ k_ ≠ l ∧ k_ ≠ n) aZ (fun k_ hk_ => ⟨Or.elim hk_ (fun hs_ => ((Kd.R_types (Kd.R_types (Kd.R_types (Kd.R_types (I.out) d.out (by decide)) c.out (by decide)) b.out (by decide)) a.out (by decide)).1 k_ hs_.symm).1.1.1.1.1) (fun hn_ => (Nat.le_trans (below_size bl_) hn_)), Or.elim hk_ (fun hs_ => ((Kd.R_types (Kd.R_types (Kd.R_types (Kd.R_types (I.out) d.out (by decide)) c.out (by decide)) b.out (by decide)) a.out (by decide)).1 k_ hs_.symm).1.1.1.1.2) (fun hn_ => (Kd.fresh' (Kd.R_lt (by (with_reducible repeat apply pR); exact GD.out)) k_ hn_)), Or.elim hk_ (fun hs_ => ((Kd.R_types (Kd.R_types (Kd.R_types (Kd.R_types (I.out) d.out (by decide)) c.out (by decide)) b.out (by decide)) a.out (by decide)).1 k_ hs_.symm).1.1.1.2) (fun hn_ => (fb d.out k_ hn_)), Or.elim hk_ (fun hs_ => ((Kd.R_types (Kd.R_types (Kd.R_types (Kd.R_types (I.out) d.out (by decide)) c.out (by decide)) b.out (by decide)) a.out (by decide)).1 k_ hs_.symm).1.1.2) (fun hn_ => (fb c.out k_ hn_)), Or.elim hk_ (fun hs_ => ((Kd.R_types (Kd.R_types (Kd.R_types (Kd.R_types (I.out) d.out (by decide)) c.out (by decide)) b.out (by decide)) a.out (by decide)).1 k_ hs_.symm).1.2) (fun hn_ => (fb b.out k_ hn_)), Or.elim hk_ (fun hs_ => ((Kd.R_types (Kd.R_types (Kd.R_types (Kd.R_types (I.out) d.out (by decide)) c.out (by decide)) b.out (by decide)) a.out (by decide)).1 k_ hs_.symm).2) (fun hn_ => (fb a.out k_ hn_))⟩)) (below_size bl_)); replace GD := rb' GD hb; replace I := rb' I hb; replace d := kb' d hb; replace c := kb' c hb; replace b := kb' b hb; replace a := kb' a hb; replace HB := bs_ hb; (try clear hb); (try clear hk); (try clear aZ)) | ((with_reducible refine gD_ 7 rfl ?_); refine bx_ 7 24 zS_ ?_; intro G hg oR hbox hb; replace GD := rb' GD hb; replace I := rb' I hb; replace aN := ve' aN hg hb; have a6 := Z hbox; have iC := ln' w hg; replace HB := bs_ hb; have aD := nl' d hg; replace d := kb' d hb; have aF := nl' c hg; replace c := kb' c hb; have aH := nl' b hg; replace b := kb' b hb; have aJ := nl' a hg; replace a := kb' a hb; clear hb hbox hg; have pn := ns_ aD; have po := ns_ aF; have pp := ns_ aH; have pq := ns_ aJ; have jO := cells6 a6.out; obtain ⟨bn, bq, iK⟩ := Kd.V_slice aN.out; subst iK; have jU := cells5 c.out) | ((with_reducible refine gate_store (t := 4) (p := 81) rfl ?_); refine sx_ 4 81 ((((((((oR.setCell ⟨G, 0, none⟩ (.int .i64 ab)).setCell ⟨G, 1, none⟩ (.int .i64 af)).setCell ⟨G, 2, none⟩ (.slice bn ad.length bq)).setCell ⟨G, 3, none⟩ (.int .i64 ar)).setCell ⟨G, 4, none⟩ (.bool aY)).setCell ⟨G, 5, none⟩ (.bool a4)).setCell ⟨G, 4, none⟩ (.bool false)).setCell ⟨G, 5, none⟩ (.bool false)) ?_; intro bV hw; have x : Aside0 (Kd.R k47 47 bV w.heap.size (fun k_ => (w.heap.size ≤ k_) ∧ some k_ ≠ (.slice bA av.length bC : Value).ownBlock) (.slice bO m.length bR) m) := ⟨(by rw [hw]; exact (by (with_reducible repeat apply pR); exact Kd.R_mono (R_off GD.out a6.out (by decide) off2_) (fun _ hk => ⟨hk.1, hk.2⟩)))⟩; have y : Aside0 (Kd.R k47 47 bV w.heap.size (fun k_ => (w.heap.size ≤ k_) ∧ some k_ ≠ (.slice bO m.length bR : Value).ownBlock) (.slice bA av.length bC) av) := ⟨(by rw [hw]; exact (by (with_reducible repeat apply pR); exact Kd.R_mono (R_off I.out a6.out (by decide) off2_) (fun _ hk => ⟨hk.1, hk.2⟩)))⟩; have z : Aside0 (Kd.V k47 47 bV w.heap.size (fun k_ => (w.heap.size ≤ k_) ∧ some k_ ≠ (.slice bO m.length bR : Value).ownBlock ∧ k_ ≠ ap ∧ k_ ≠ aq ∧ k_ ≠ l ∧ k_ ≠ n ∧ k_ ≠ G) (.slice bn ad.length bq) ad) := ⟨(by rw [hw]; exact (by (with_reducible repeat apply pV); exact V_off aN.out (fun k_ hk => hk.2) off2_ (fun _ hk => ⟨hk.1.1, ⟨hk.1.2.1, ⟨hk.1.2.2.1, ⟨hk.1.2.2.2.1, ⟨hk.1.2.2.2.2.1, ⟨hk.1.2.2.2.2.2, hk.2⟩⟩⟩⟩⟩⟩)))⟩; have A : Aside0 (bV.heap[ap]? = some (.cells #[.int .i64 S, .int .i64 T, .slice aR D.length aS, .int .i64 U, .bool W, .bool X] 24 (0, 0))) := ⟨by rw [hw]; exact (blk_off d.out aD.out off2_)⟩; have B : Aside0 (bV.heap[aq]? = some (.cells #[.int .i64 O, .bool aC, .bool true, .bool true, .slice aV Y.length aX] 29 (0, 0))) := ⟨by rw [hw]; exact (blk_off c.out aF.out off2_)⟩; have E : Aside0 (bV.heap[l]? = some (.cells zS_ 24 (0, 0))) := ⟨by rw [hw]; exact (blk_off b.out aH.out off2_)⟩; have P : Aside0 (bV.heap[n]? = some (.cells #[.int .i64 bj, .int .i64 bk, .slice bA av.length bC, .int .i64 a3, .bool bl, .bool bm] 24 (0, 0))) := ⟨by rw [hw]; exact (blk_off a.out aJ.out off2_)⟩; have aB : Aside0 (bV.heap[G]? = some (.cells #[.int .i64 ab, .int .i64 af, .slice bn ad.length bq, .int .i64 ar, .bool false, .bool false] 24 (0, 0))) := ⟨(by rw [hw]; exact (by (with_reducible repeat apply pK); refine blk_put (cs := #[.int .i64 ab, .int .i64 af, .slice bn ad.length bq, .int .i64 ar, .bool false, .bool a4]) ?_ 5 _ rfl; (with_reducible repeat apply pK); refine blk_put (cs := #[.int .i64 ab, .int .i64 af, .slice bn ad.length bq, .int .i64 ar, .bool aY, .bool a4]) ?_ 4 _ rfl; (with_reducible repeat apply pK); exact put6 a6.out))⟩; have a7 : Aside0 (Below w.heap.size w bV) := ⟨by rw [hw]; exact bl_⟩; clear hw GD I aN d c b a a6 HB; have GD := x; have I := y; have aN := z; have d := A; have c := B; have b := E; have a := P; have a6 := aB; have HB := a7; clear x y z A B E P aB a7; have jZ := cells6 a6.out; have pr := ns_ r; have j7 := cells6 b.out))
     refine rc1_ (put6 b.out) Tryz.underlying24 ?_
     exact ⟨_, er_, by (with_reducible repeat apply pV); exact Kd.V_mono (f6V l (Kd.V_mono aN.out (fun k_ hk => (⟨hk, hk.2.2.2.2.1⟩ : _ ∧ k_ ≠ l))) im_) im_, bl_⟩
    replace ex := Bool.eq_false_iff.mpr ex
    subst ex
    rw [iF_] at H
    obtain ⟨rfl, rfl, rfl, rfl, rfl, rfl⟩ := ij6_ H
    have ps := ns_ ai
    have pt := ns_ s
    have pu := ns_ F
    have ke := cells5 c.out
    have pv := ns_ K
    have pw := ns_ L
    have kj := cells6 a.out
    obtain ⟨bP, bS, iL⟩ := Kd.R_slice GD.out
    subst iL
    go_wp2_with (first | ((with_reducible refine gF_ 28 rfl ?_); refine gd_ (some 67) Tryz.func28 (shutterref13_Reset.calls bM al am _ _ m J an ao true bj bk av a3 bl bm _ (rC_ GD) (rL_ GD) h3.out) ?_; rintro e oS ⟨oN, rfl, aZ, hb⟩; refine ⟨_, rfl, ?_⟩; have I := Z (Kd.R_lower (Kd.R_new' (Kd.R_newM (M := fun k_ => (w.heap.size ≤ k_)) aZ (below_size bl_) (fun k_ h_ => h_)) (Kd.R_lt (by (with_reducible repeat apply pR); exact GD.out))) (below_size bl_)); replace GD := Z (Kd.R_elder' (by (with_reducible repeat apply pR); exact GD.out) (Kd.R_base aZ) hb); replace d := kb' d hb; replace c := kb' c hb; replace b := kb' b hb; replace a := kb' a hb; replace HB := bs_ hb; (try clear hb); (try clear hk); (try clear aZ); have kp := cells6 a.out; obtain ⟨bB, bD, iM⟩ := Kd.R_slice I.out; subst iM) | ((with_reducible refine gate_store (t := 24) (p := 5) rfl ?_); refine sx_ 24 5 ((((((oS.setCell ⟨n, 0, none⟩ (.int .i64 bj)).setCell ⟨n, 1, none⟩ (.int .i64 bk)).setCell ⟨n, 2, none⟩ (.slice bB av.length bD)).setCell ⟨n, 3, none⟩ (.int .i64 a3)).setCell ⟨n, 4, none⟩ (.bool bl)).setCell ⟨n, 5, none⟩ (.bool bm)) ?_; intro cf hw; replace GD : Aside0 (Kd.R k47 47 cf w.heap.size (fun k_ => (w.heap.size ≤ k_) ∧ some k_ ≠ (.slice bB av.length bD : Value).ownBlock) (.slice bP m.length bS) m) := ⟨(by rw [hw]; exact (by (with_reducible repeat apply pR); exact Kd.R_mono (R_off GD.out a.out (by decide) off2_) (fun _ hk => ⟨hk.1, hk.2⟩)))⟩; replace I : Aside0 (Kd.R k47 47 cf w.heap.size (fun k_ => (w.heap.size ≤ k_) ∧ some k_ ≠ (.slice bP m.length bS : Value).ownBlock) (.slice bB av.length bD) av) := ⟨(by rw [hw]; exact (by (with_reducible repeat apply pR); exact Kd.R_mono (R_off I.out a.out (by decide) off2_) (fun _ hk => ⟨hk.1.1, hk.2⟩)))⟩; replace d := Z (sM hw (blk_off d.out K.out off2_)); replace c := Z (sM hw (blk_off c.out F.out off2_)); replace b := Z (sM hw (blk_off b.out L.out off2_)); replace a : Aside0 (cf.heap[n]? = some (.cells #[.int .i64 bj, .int .i64 bk, .slice bB av.length bD, .int .i64 a3, .bool bl, .bool bm] 24 (0, 0))) := ⟨by rw [hw]; exact (put6 a.out)⟩; replace HB : Aside0 (Below w.heap.size w cf) := ⟨by rw [hw]; exact bl_⟩; clear hw; have kw := cells6 a.out; have kC := cells5 c.out) | ((with_reducible refine gF_ 31 rfl ?_); refine gd_ (some 74) Tryz.func31 (shutterref12_All.calls bM bj bk (fun k_ => some k_ = (.slice bB av.length bD : Value).ownBlock) _ _ av a3 bl bm a3 _ _ Y ab af ad ar aY a4 ix _ (Kd.R_V (Kd.R_tight rfl (Kd.R_types (Kd.R_types (Kd.R_types (Kd.R_types (I.out) d.out (by decide)) c.out (by decide)) b.out (by decide)) a.out (by decide)))) (cB_ di HB) dh.out h4.out) ?_; rintro e s0 ⟨oO, rfl, aZ, hb⟩; refine ⟨_, rfl, ?_⟩; have aN := Z (Kd.V_lower (Kd.V_mono (ok' := fun k_ => (w.heap.size ≤ k_) ∧ some k_ ≠ (.slice bP m.length bS : Value).ownBlock ∧ k_ ≠ ap ∧ k_ ≠ aq ∧ k_ ≠ l ∧ k_ ≠ n) aZ (fun k_ hk_ => ⟨Or.elim hk_ (fun hs_ => ((Kd.R_types (Kd.R_types (Kd.R_types (Kd.R_types (I.out) d.out (by decide)) c.out (by decide)) b.out (by decide)) a.out (by decide)).1 k_ hs_.symm).1.1.1.1.1) (fun hn_ => (Nat.le_trans (below_size bl_) hn_)), Or.elim hk_ (fun hs_ => ((Kd.R_types (Kd.R_types (Kd.R_types (Kd.R_types (I.out) d.out (by decide)) c.out (by decide)) b.out (by decide)) a.out (by decide)).1 k_ hs_.symm).1.1.1.1.2) (fun hn_ => (Kd.fresh' (Kd.R_lt (by (with_reducible repeat apply pR); exact GD.out)) k_ hn_)), Or.elim hk_ (fun hs_ => ((Kd.R_types (Kd.R_types (Kd.R_types (Kd.R_types (I.out) d.out (by decide)) c.out (by decide)) b.out (by decide)) a.out (by decide)).1 k_ hs_.symm).1.1.1.2) (fun hn_ => (fb d.out k_ hn_)), Or.elim hk_ (fun hs_ => ((Kd.R_types (Kd.R_types (Kd.R_types (Kd.R_types (I.out) d.out (by decide)) c.out (by decide)) b.out (by decide)) a.out (by decide)).1 k_ hs_.symm).1.1.2) (fun hn_ => (fb c.out k_ hn_)), Or.elim hk_ (fun hs_ => ((Kd.R_types (Kd.R_types (Kd.R_types (Kd.R_types (I.out) d.out (by decide)) c.out (by decide)) b.out (by decide)) a.out (by decide)).1 k_ hs_.symm).1.2) (fun hn_ => (fb b.out k_ hn_)), Or.elim hk_ (fun hs_ => ((Kd.R_types (Kd.R_types (Kd.R_types (Kd.R_types (I.out) d.out (by decide)) c.out (by decide)) b.out (by decide)) a.out (by decide)).1 k_ hs_.symm).2) (fun hn_ => (fb a.out k_ hn_))⟩)) (below_size bl_)); replace GD := rb' GD hb; replace I := rb' I hb; replace d := kb' d hb; replace c := kb' c hb; replace b := kb' b hb; replace a := kb' a hb; replace HB := bs_ hb; (try clear hb); (try clear hk); (try clear aZ)) | ((with_reducible refine gD_ 7 rfl ?_); refine bx_ 7 24 zS_ ?_; intro G hg oT hbox hb; replace GD := rb' GD hb; replace I := rb' I hb; replace aN := ve' aN hg hb; have a6 := Z hbox; have iC := ln' w hg; replace HB := bs_ hb; have aD := nl' d hg; replace d := kb' d hb; have aF := nl' c hg; replace c := kb' c hb; have aH := nl' b hg; replace b := kb' b hb; have aJ := nl' a hg; replace a := kb' a hb; clear hb hbox hg; have px := ns_ aD; have py := ns_ aF; have pz := ns_ aH; have pA := ns_ aJ; have kH := cells6 a6.out; obtain ⟨aL, aM, iN⟩ := Kd.V_slice aN.out; subst iN; have kN := cells5 c.out; have pB := ns_ r; have kS := cells6 b.out) | ((with_reducible refine gate_store (t := 24) (p := 4) rfl ?_); refine sx_ 24 4 ((((((((((((oT.setCell ⟨G, 0, none⟩ (.int .i64 ab)).setCell ⟨G, 1, none⟩ (.int .i64 af)).setCell ⟨G, 2, none⟩ (.slice aL ad.length aM)).setCell ⟨G, 3, none⟩ (.int .i64 ar)).setCell ⟨G, 4, none⟩ (.bool aY)).setCell ⟨G, 5, none⟩ (.bool a4)).setCell ⟨l, 0, none⟩ (.int .i64 ab)).setCell ⟨l, 1, none⟩ (.int .i64 af)).setCell ⟨l, 2, none⟩ (.slice aL ad.length aM)).setCell ⟨l, 3, none⟩ (.int .i64 ar)).setCell ⟨l, 4, none⟩ (.bool aY)).setCell ⟨l, 5, none⟩ (.bool a4)) ?_; intro bW hw; have x : Aside0 (Kd.R k47 47 bW w.heap.size (fun k_ => (w.heap.size ≤ k_) ∧ some k_ ≠ (.slice bB av.length bD : Value).ownBlock) (.slice bP m.length bS) m) := ⟨(by rw [hw]; exact (by (with_reducible repeat apply pR); exact Kd.R_mono (f6R l (f6R G (Kd.R_types (Kd.R_types GD.out a6.out (by decide)) b.out (by decide)) (fun _ hk => hk.1.2)) (fun _ hk => hk.2)) (fun _ hk => ⟨hk.1.1.1, hk.1.1.2⟩)))⟩; have y : Aside0 (Kd.R k47 47 bW w.heap.size (fun k_ => (w.heap.size ≤ k_) ∧ some k_ ≠ (.slice bP m.length bS : Value).ownBlock) (.slice bB av.length bD) av) := ⟨(by rw [hw]; exact (by (with_reducible repeat apply pR); exact Kd.R_mono (f6R l (f6R G (Kd.R_types (Kd.R_types I.out a6.out (by decide)) b.out (by decide)) (fun _ hk => hk.1.2)) (fun _ hk => hk.2)) (fun _ hk => ⟨hk.1.1.1, hk.1.1.2⟩)))⟩; have z : Aside0 (Kd.V k47 47 bW w.heap.size (fun k_ => (w.heap.size ≤ k_) ∧ some k_ ≠ (.slice bP m.length bS : Value).ownBlock ∧ k_ ≠ ap ∧ k_ ≠ aq ∧ k_ ≠ l ∧ k_ ≠ n ∧ k_ ≠ G) (.slice aL ad.length aM) ad) := ⟨(by rw [hw]; exact (by (with_reducible repeat apply pV); exact Kd.V_mono (f6V l (f6V G (Kd.V_mono (Kd.V_mono aN.out (fun k_ hk => (⟨hk, hk.2⟩ : _ ∧ k_ ≠ G))) (fun k_ hk => (⟨hk, hk.1.1.2.2.2.2.1⟩ : _ ∧ k_ ≠ l))) (fun _ hk => hk.1.2)) (fun _ hk => hk.2)) (fun _ hk => ⟨hk.1.1.1.1, ⟨hk.1.1.1.2.1, ⟨hk.1.1.1.2.2.1, ⟨hk.1.1.1.2.2.2.1, ⟨hk.1.1.1.2.2.2.2.1, ⟨hk.1.1.1.2.2.2.2.2, hk.1.1.2⟩⟩⟩⟩⟩⟩)))⟩; have A : Aside0 (bW.heap[ap]? = some (.cells #[.int .i64 S, .int .i64 T, .slice aR D.length aS, .int .i64 U, .bool W, .bool X] 24 (0, 0))) := ⟨(by rw [hw]; exact (by (with_reducible repeat apply pK); refine blk_far ?_ r.out _; (with_reducible repeat apply pK); refine blk_far ?_ r.out _; (with_reducible repeat apply pK); refine blk_far ?_ r.out _; (with_reducible repeat apply pK); refine blk_far ?_ r.out _; (with_reducible repeat apply pK); refine blk_far ?_ r.out _; (with_reducible repeat apply pK); refine blk_far ?_ r.out _; (with_reducible repeat apply pK); refine blk_far ?_ aD.out _; (with_reducible repeat apply pK); refine blk_far ?_ aD.out _; (with_reducible repeat apply pK); refine blk_far ?_ aD.out _; (with_reducible repeat apply pK); refine blk_far ?_ aD.out _; (with_reducible repeat apply pK); refine blk_far ?_ aD.out _; (with_reducible repeat apply pK); refine blk_far ?_ aD.out _; (with_reducible repeat apply pK); exact d.out))⟩; have B : Aside0 (bW.heap[aq]? = some (.cells #[.int .i64 O, .bool aC, .bool false, .bool true, .slice aV Y.length aX] 29 (0, 0))) := ⟨(by rw [hw]; exact (by (with_reducible repeat apply pK); refine blk_far ?_ s.out _; (with_reducible repeat apply pK); refine blk_far ?_ s.out _; (with_reducible repeat apply pK); refine blk_far ?_ s.out _; (with_reducible repeat apply pK); refine blk_far ?_ s.out _; (with_reducible repeat apply pK); refine blk_far ?_ s.out _; (with_reducible repeat apply pK); refine blk_far ?_ s.out _; (with_reducible repeat apply pK); refine blk_far ?_ aF.out _; (with_reducible repeat apply pK); refine blk_far ?_ aF.out _; (with_reducible repeat apply pK); refine blk_far ?_ aF.out _; (with_reducible repeat apply pK); refine blk_far ?_ aF.out _; (with_reducible repeat apply pK); refine blk_far ?_ aF.out _; (with_reducible repeat apply pK); refine blk_far ?_ aF.out _; (with_reducible repeat apply pK); exact c.out))⟩; have E : Aside0 (bW.heap[l]? = some (.cells #[.int .i64 ab, .int .i64 af, .slice aL ad.length aM, .int .i64 ar, .bool aY, .bool a4] 24 (0, 0))) := ⟨(by rw [hw]; exact (put6 (by (with_reducible repeat apply pK); refine blk_far ?_ aH.out _; (with_reducible repeat apply pK); refine blk_far ?_ aH.out _; (with_reducible repeat apply pK); refine blk_far ?_ aH.out _; (with_reducible repeat apply pK); refine blk_far ?_ aH.out _; (with_reducible repeat apply pK); refine blk_far ?_ aH.out _; (with_reducible repeat apply pK); refine blk_far ?_ aH.out _; (with_reducible repeat apply pK); exact b.out)))⟩; have P : Aside0 (bW.heap[n]? = some (.cells #[.int .i64 bj, .int .i64 bk, .slice bB av.length bD, .int .i64 a3, .bool bl, .bool bm] 24 (0, 0))) := ⟨(by rw [hw]; exact (by (with_reducible repeat apply pK); refine blk_far ?_ L.out.symm _; (with_reducible repeat apply pK); refine blk_far ?_ L.out.symm _; (with_reducible repeat apply pK); refine blk_far ?_ L.out.symm _; (with_reducible repeat apply pK); refine blk_far ?_ L.out.symm _; (with_reducible repeat apply pK); refine blk_far ?_ L.out.symm _; (with_reducible repeat apply pK); refine blk_far ?_ L.out.symm _; (with_reducible repeat apply pK); refine blk_far ?_ aJ.out _; (with_reducible repeat apply pK); refine blk_far ?_ aJ.out _; (with_reducible repeat apply pK); refine blk_far ?_ aJ.out _; (with_reducible repeat apply pK); refine blk_far ?_ aJ.out _; (with_reducible repeat apply pK); refine blk_far ?_ aJ.out _; (with_reducible repeat apply pK); refine blk_far ?_ aJ.out _; (with_reducible repeat apply pK); exact a.out))⟩; have aB : Aside0 (bW.heap[G]? = some (.cells #[.int .i64 ab, .int .i64 af, .slice aL ad.length aM, .int .i64 ar, .bool aY, .bool a4] 24 (0, 0))) := ⟨(by rw [hw]; exact (by (with_reducible repeat apply pK); refine blk_far ?_ aH.out.symm _; (with_reducible repeat apply pK); refine blk_far ?_ aH.out.symm _; (with_reducible repeat apply pK); refine blk_far ?_ aH.out.symm _; (with_reducible repeat apply pK); refine blk_far ?_ aH.out.symm _; (with_reducible repeat apply pK); refine blk_far ?_ aH.out.symm _; (with_reducible repeat apply pK); refine blk_far ?_ aH.out.symm _; (with_reducible repeat apply pK); exact put6 a6.out))⟩; have a7 : Aside0 (Below w.heap.size w bW) := ⟨by rw [hw]; exact bl_⟩; clear hw GD I aN d c b a a6 HB; have GD := x; have I := y; have aN := z; have d := A; have c := B; have b := E; have a := P; have a6 := aB; have HB := a7; clear x y z A B E P aB a7))
    refine rc1_ (vK b.out) Tryz.underlying24 ?_
    exact ⟨_, er_, by (with_reducible repeat apply pV); exact Kd.V_mono aN.out im_, bl_⟩
   replace ew := Bool.eq_false_iff.mpr ew
   subst ew
   rw [iF_] at H
   replace H := bn_ H
   obtain ⟨⟨ae, ah, ag, aw, a5, a9, iy⟩, h5, H⟩ := H
   try dsimp only at H
   by_cases ey : aA = true
   ·subst ey
    rw [if_pos rfl] at H
    obtain ⟨rfl, rfl, rfl, rfl, rfl, rfl⟩ := ij6_ H
    have pD := ns_ ai
    have pE := ns_ s
    have pF := ns_ F
    have kY := cells5 c.out
    have pG := ns_ K
    have pH := ns_ L
    have ld := cells6 a.out
    obtain ⟨df, dk, iO⟩ := Kd.R_slice GD.out
    subst iO
    go_wp2_with (first | ((with_reducible refine gF_ 31 rfl ?_); refine gd_ (some 74) Tryz.func31 (shutterref12_All.calls bM al am (fun k_ => some k_ = (.slice df m.length dk : Value).ownBlock) _ _ m J an ao J _ _ Y ae ah ag aw a5 a9 iy _ (Kd.R_V (Kd.R_tight rfl (Kd.R_types (Kd.R_types (Kd.R_types (Kd.R_types (GD.out) d.out (by decide)) c.out (by decide)) b.out (by decide)) a.out (by decide)))) (cB_ di HB) dh.out h5.out) ?_; rintro e s1 ⟨oP, rfl, aZ, hb⟩; refine ⟨_, rfl, ?_⟩; have aO := Z (Kd.V_lower (Kd.V_mono (ok' := fun k_ => (w.heap.size ≤ k_) ∧ k_ ≠ ap ∧ k_ ≠ aq ∧ k_ ≠ l ∧ k_ ≠ n) aZ (fun k_ hk_ => ⟨Or.elim hk_ (fun hs_ => ((Kd.R_types (Kd.R_types (Kd.R_types (Kd.R_types (GD.out) d.out (by decide)) c.out (by decide)) b.out (by decide)) a.out (by decide)).1 k_ hs_.symm).1.1.1.1) (fun hn_ => (Nat.le_trans (below_size bl_) hn_)), Or.elim hk_ (fun hs_ => ((Kd.R_types (Kd.R_types (Kd.R_types (Kd.R_types (GD.out) d.out (by decide)) c.out (by decide)) b.out (by decide)) a.out (by decide)).1 k_ hs_.symm).1.1.1.2) (fun hn_ => (fb d.out k_ hn_)), Or.elim hk_ (fun hs_ => ((Kd.R_types (Kd.R_types (Kd.R_types (Kd.R_types (GD.out) d.out (by decide)) c.out (by decide)) b.out (by decide)) a.out (by decide)).1 k_ hs_.symm).1.1.2) (fun hn_ => (fb c.out k_ hn_)), Or.elim hk_ (fun hs_ => ((Kd.R_types (Kd.R_types (Kd.R_types (Kd.R_types (GD.out) d.out (by decide)) c.out (by decide)) b.out (by decide)) a.out (by decide)).1 k_ hs_.symm).1.2) (fun hn_ => (fb b.out k_ hn_)), Or.elim hk_ (fun hs_ => ((Kd.R_types (Kd.R_types (Kd.R_types (Kd.R_types (GD.out) d.out (by decide)) c.out (by decide)) b.out (by decide)) a.out (by decide)).1 k_ hs_.symm).2) (fun hn_ => (fb a.out k_ hn_))⟩)) (below_size bl_)); replace GD := rb' GD hb; replace d := kb' d hb; replace c := kb' c hb; replace b := kb' b hb; replace a := kb' a hb; replace HB := bs_ hb; (try clear hb); (try clear hk); (try clear aZ)) | ((with_reducible refine gD_ 7 rfl ?_); refine bx_ 7 24 zS_ ?_; intro Q hg oU hbox hb; replace GD := rb' GD hb; replace aO := ve' aO hg hb; have ba := Z hbox; have iD := ln' w hg; replace HB := bs_ hb; have aE := nl' d hg; replace d := kb' d hb; have aG := nl' c hg; replace c := kb' c hb; have aI := nl' b hg; replace b := kb' b hb; have aK := nl' a hg; replace a := kb' a hb; clear hb hbox hg; have pI := ns_ aE; have pJ := ns_ aG; have GA := ns_ aI; have pM := ns_ aK; have lj := cells6 ba.out; obtain ⟨bo, br, iP⟩ := Kd.V_slice aO.out; subst iP; have lp := cells5 c.out) | ((with_reducible refine gate_store (t := 4) (p := 81) rfl ?_); refine sx_ 4 81 ((((((((oU.setCell ⟨Q, 0, none⟩ (.int .i64 ae)).setCell ⟨Q, 1, none⟩ (.int .i64 ah)).setCell ⟨Q, 2, none⟩ (.slice bo ag.length br)).setCell ⟨Q, 3, none⟩ (.int .i64 aw)).setCell ⟨Q, 4, none⟩ (.bool a5)).setCell ⟨Q, 5, none⟩ (.bool a9)).setCell ⟨Q, 4, none⟩ (.bool false)).setCell ⟨Q, 5, none⟩ (.bool false)) ?_; intro b7 hw; have x : Aside0 (Kd.R k47 47 b7 w.heap.size (fun k_ => (w.heap.size ≤ k_)) (.slice df m.length dk) m) := ⟨(by rw [hw]; exact (by (with_reducible repeat apply pR); exact R_off GD.out ba.out (by decide) off2_))⟩; have y : Aside0 (Kd.V k47 47 b7 w.heap.size (fun k_ => (w.heap.size ≤ k_) ∧ k_ ≠ ap ∧ k_ ≠ aq ∧ k_ ≠ l ∧ k_ ≠ n ∧ k_ ≠ Q) (.slice bo ag.length br) ag) := ⟨(by rw [hw]; exact (by (with_reducible repeat apply pV); exact V_off aO.out (fun k_ hk => hk.2) off2_ (fun _ hk => ⟨hk.1.1, ⟨hk.1.2.1, ⟨hk.1.2.2.1, ⟨hk.1.2.2.2.1, ⟨hk.1.2.2.2.2, hk.2⟩⟩⟩⟩⟩)))⟩; have z : Aside0 (b7.heap[ap]? = some (.cells #[.int .i64 S, .int .i64 T, .slice aR D.length aS, .int .i64 U, .bool W, .bool X] 24 (0, 0))) := ⟨by rw [hw]; exact (blk_off d.out aE.out off2_)⟩; have A : Aside0 (b7.heap[aq]? = some (.cells #[.int .i64 O, .bool aC, .bool true, .bool false, .slice aV Y.length aX] 29 (0, 0))) := ⟨by rw [hw]; exact (blk_off c.out aG.out off2_)⟩; have B : Aside0 (b7.heap[l]? = some (.cells zS_ 24 (0, 0))) := ⟨by rw [hw]; exact (blk_off b.out aI.out off2_)⟩; have E : Aside0 (b7.heap[n]? = some (.cells #[.int .i64 al, .int .i64 am, .slice df m.length dk, .int .i64 J, .bool an, .bool ao] 24 (0, 0))) := ⟨by rw [hw]; exact (blk_off a.out aK.out off2_)⟩; have P : Aside0 (b7.heap[Q]? = some (.cells #[.int .i64 ae, .int .i64 ah, .slice bo ag.length br, .int .i64 aw, .bool false, .bool false] 24 (0, 0))) := ⟨(by rw [hw]; exact (by (with_reducible repeat apply pK); refine blk_put (cs := #[.int .i64 ae, .int .i64 ah, .slice bo ag.length br, .int .i64 aw, .bool false, .bool a9]) ?_ 5 _ rfl; (with_reducible repeat apply pK); refine blk_put (cs := #[.int .i64 ae, .int .i64 ah, .slice bo ag.length br, .int .i64 aw, .bool a5, .bool a9]) ?_ 4 _ rfl; (with_reducible repeat apply pK); exact put6 ba.out))⟩; have aB : Aside0 (Below w.heap.size w b7) := ⟨by rw [hw]; exact bl_⟩; clear hw GD aO d c b a ba HB; have GD := x; have aO := y; have d := z; have c := A; have b := B; have a := E; have ba := P; have HB := aB; clear x y z A B E P aB; have lu := cells6 ba.out; have GB := ns_ r; have lA := cells6 b.out))
    refine rc1_ (put6 b.out) Tryz.underlying24 ?_
    exact ⟨_, er_, by (with_reducible repeat apply pV); exact Kd.V_mono (f6V l (Kd.V_mono aO.out (fun k_ hk => (⟨hk, hk.2.2.2.1⟩ : _ ∧ k_ ≠ l))) im_) im_, bl_⟩
   replace ey := Bool.eq_false_iff.mpr ey
   subst ey
   rw [iF_] at H
   obtain ⟨rfl, rfl, rfl, rfl, rfl, rfl⟩ := ij6_ H
   have pO := ns_ ai
   have pP := ns_ s
   have pQ := ns_ F
   have lG := cells5 c.out
   have GC := ns_ K
   have pT := ns_ L
   have lL := cells6 a.out
   obtain ⟨dg, dl, iQ⟩ := Kd.R_slice GD.out
   subst iQ
   go_wp2_with (first | ((with_reducible refine gF_ 31 rfl ?_); refine gd_ (some 74) Tryz.func31 (shutterref12_All.calls bM al am (fun k_ => some k_ = (.slice dg m.length dl : Value).ownBlock) _ _ m J an ao J _ _ Y ae ah ag aw a5 a9 iy _ (Kd.R_V (Kd.R_tight rfl (Kd.R_types (Kd.R_types (Kd.R_types (Kd.R_types (GD.out) d.out (by decide)) c.out (by decide)) b.out (by decide)) a.out (by decide)))) (cB_ di HB) dh.out h5.out) ?_; rintro e s2 ⟨oP, rfl, aZ, hb⟩; refine ⟨_, rfl, ?_⟩; have aO := Z (Kd.V_lower (Kd.V_mono (ok' := fun k_ => (w.heap.size ≤ k_) ∧ k_ ≠ ap ∧ k_ ≠ aq ∧ k_ ≠ l ∧ k_ ≠ n) aZ (fun k_ hk_ => ⟨Or.elim hk_ (fun hs_ => ((Kd.R_types (Kd.R_types (Kd.R_types (Kd.R_types (GD.out) d.out (by decide)) c.out (by decide)) b.out (by decide)) a.out (by decide)).1 k_ hs_.symm).1.1.1.1) (fun hn_ => (Nat.le_trans (below_size bl_) hn_)), Or.elim hk_ (fun hs_ => ((Kd.R_types (Kd.R_types (Kd.R_types (Kd.R_types (GD.out) d.out (by decide)) c.out (by decide)) b.out (by decide)) a.out (by decide)).1 k_ hs_.symm).1.1.1.2) (fun hn_ => (fb d.out k_ hn_)), Or.elim hk_ (fun hs_ => ((Kd.R_types (Kd.R_types (Kd.R_types (Kd.R_types (GD.out) d.out (by decide)) c.out (by decide)) b.out (by decide)) a.out (by decide)).1 k_ hs_.symm).1.1.2) (fun hn_ => (fb c.out k_ hn_)), Or.elim hk_ (fun hs_ => ((Kd.R_types (Kd.R_types (Kd.R_types (Kd.R_types (GD.out) d.out (by decide)) c.out (by decide)) b.out (by decide)) a.out (by decide)).1 k_ hs_.symm).1.2) (fun hn_ => (fb b.out k_ hn_)), Or.elim hk_ (fun hs_ => ((Kd.R_types (Kd.R_types (Kd.R_types (Kd.R_types (GD.out) d.out (by decide)) c.out (by decide)) b.out (by decide)) a.out (by decide)).1 k_ hs_.symm).2) (fun hn_ => (fb a.out k_ hn_))⟩)) (below_size bl_)); replace GD := rb' GD hb; replace d := kb' d hb; replace c := kb' c hb; replace b := kb' b hb; replace a := kb' a hb; replace HB := bs_ hb; (try clear hb); (try clear hk); (try clear aZ)) | ((with_reducible refine gD_ 7 rfl ?_); refine bx_ 7 24 zS_ ?_; intro Q hg oV hbox hb; replace GD := rb' GD hb; replace aO := ve' aO hg hb; have ba := Z hbox; have iD := ln' w hg; replace HB := bs_ hb; have aE := nl' d hg; replace d := kb' d hb; have aG := nl' c hg; replace c := kb' c hb; have aI := nl' b hg; replace b := kb' b hb; have aK := nl' a hg; replace a := kb' a hb; clear hb hbox hg; have pU := ns_ aE; have pW := ns_ aG; have pX := ns_ aI; have pY := ns_ aK; have lR := cells6 ba.out; obtain ⟨aT, aU, iR⟩ := Kd.V_slice aO.out; subst iR; have lX := cells5 c.out; have pZ := ns_ r; have l3 := cells6 b.out) | ((with_reducible refine gate_store (t := 24) (p := 4) rfl ?_); refine sx_ 24 4 ((((((((((((oV.setCell ⟨Q, 0, none⟩ (.int .i64 ae)).setCell ⟨Q, 1, none⟩ (.int .i64 ah)).setCell ⟨Q, 2, none⟩ (.slice aT ag.length aU)).setCell ⟨Q, 3, none⟩ (.int .i64 aw)).setCell ⟨Q, 4, none⟩ (.bool a5)).setCell ⟨Q, 5, none⟩ (.bool a9)).setCell ⟨l, 0, none⟩ (.int .i64 ae)).setCell ⟨l, 1, none⟩ (.int .i64 ah)).setCell ⟨l, 2, none⟩ (.slice aT ag.length aU)).setCell ⟨l, 3, none⟩ (.int .i64 aw)).setCell ⟨l, 4, none⟩ (.bool a5)).setCell ⟨l, 5, none⟩ (.bool a9)) ?_; intro b8 hw; have x : Aside0 (Kd.R k47 47 b8 w.heap.size (fun k_ => (w.heap.size ≤ k_)) (.slice dg m.length dl) m) := ⟨(by rw [hw]; exact (by (with_reducible repeat apply pR); exact Kd.R_mono (f6R l (f6R Q (Kd.R_types (Kd.R_types GD.out ba.out (by decide)) b.out (by decide)) (fun _ hk => hk.1.2)) (fun _ hk => hk.2)) (fun _ hk => hk.1.1)))⟩; have y : Aside0 (Kd.V k47 47 b8 w.heap.size (fun k_ => (w.heap.size ≤ k_) ∧ k_ ≠ ap ∧ k_ ≠ aq ∧ k_ ≠ l ∧ k_ ≠ n ∧ k_ ≠ Q) (.slice aT ag.length aU) ag) := ⟨(by rw [hw]; exact (by (with_reducible repeat apply pV); exact Kd.V_mono (f6V l (f6V Q (Kd.V_mono (Kd.V_mono aO.out (fun k_ hk => (⟨hk, hk.2⟩ : _ ∧ k_ ≠ Q))) (fun k_ hk => (⟨hk, hk.1.1.2.2.2.1⟩ : _ ∧ k_ ≠ l))) (fun _ hk => hk.1.2)) (fun _ hk => hk.2)) (fun _ hk => ⟨hk.1.1.1.1, ⟨hk.1.1.1.2.1, ⟨hk.1.1.1.2.2.1, ⟨hk.1.1.1.2.2.2.1, ⟨hk.1.1.1.2.2.2.2, hk.1.1.2⟩⟩⟩⟩⟩)))⟩; have z : Aside0 (b8.heap[ap]? = some (.cells #[.int .i64 S, .int .i64 T, .slice aR D.length aS, .int .i64 U, .bool W, .bool X] 24 (0, 0))) := ⟨(by rw [hw]; exact (by (with_reducible repeat apply pK); refine blk_far ?_ r.out _; (with_reducible repeat apply pK); refine blk_far ?_ r.out _; (with_reducible repeat apply pK); refine blk_far ?_ r.out _; (with_reducible repeat apply pK); refine blk_far ?_ r.out _; (with_reducible repeat apply pK); refine blk_far ?_ r.out _; (with_reducible repeat apply pK); refine blk_far ?_ r.out _; (with_reducible repeat apply pK); refine blk_far ?_ aE.out _; (with_reducible repeat apply pK); refine blk_far ?_ aE.out _; (with_reducible repeat apply pK); refine blk_far ?_ aE.out _; (with_reducible repeat apply pK); refine blk_far ?_ aE.out _; (with_reducible repeat apply pK); refine blk_far ?_ aE.out _; (with_reducible repeat apply pK); refine blk_far ?_ aE.out _; (with_reducible repeat apply pK); exact d.out))⟩; have A : Aside0 (b8.heap[aq]? = some (.cells #[.int .i64 O, .bool aC, .bool false, .bool false, .slice aV Y.length aX] 29 (0, 0))) := ⟨(by rw [hw]; exact (by (with_reducible repeat apply pK); refine blk_far ?_ s.out _; (with_reducible repeat apply pK); refine blk_far ?_ s.out _; (with_reducible repeat apply pK); refine blk_far ?_ s.out _; (with_reducible repeat apply pK); refine blk_far ?_ s.out _; (with_reducible repeat apply pK); refine blk_far ?_ s.out _; (with_reducible repeat apply pK); refine blk_far ?_ s.out _; (with_reducible repeat apply pK); refine blk_far ?_ aG.out _; (with_reducible repeat apply pK); refine blk_far ?_ aG.out _; (with_reducible repeat apply pK); refine blk_far ?_ aG.out _; (with_reducible repeat apply pK); refine blk_far ?_ aG.out _; (with_reducible repeat apply pK); refine blk_far ?_ aG.out _; (with_reducible repeat apply pK); refine blk_far ?_ aG.out _; (with_reducible repeat apply pK); exact c.out))⟩; have B : Aside0 (b8.heap[l]? = some (.cells #[.int .i64 ae, .int .i64 ah, .slice aT ag.length aU, .int .i64 aw, .bool a5, .bool a9] 24 (0, 0))) := ⟨(by rw [hw]; exact (put6 (by (with_reducible repeat apply pK); refine blk_far ?_ aI.out _; (with_reducible repeat apply pK); refine blk_far ?_ aI.out _; (with_reducible repeat apply pK); refine blk_far ?_ aI.out _; (with_reducible repeat apply pK); refine blk_far ?_ aI.out _; (with_reducible repeat apply pK); refine blk_far ?_ aI.out _; (with_reducible repeat apply pK); refine blk_far ?_ aI.out _; (with_reducible repeat apply pK); exact b.out)))⟩; have E : Aside0 (b8.heap[n]? = some (.cells #[.int .i64 al, .int .i64 am, .slice dg m.length dl, .int .i64 J, .bool an, .bool ao] 24 (0, 0))) := ⟨(by rw [hw]; exact (by (with_reducible repeat apply pK); refine blk_far ?_ L.out.symm _; (with_reducible repeat apply pK); refine blk_far ?_ L.out.symm _; (with_reducible repeat apply pK); refine blk_far ?_ L.out.symm _; (with_reducible repeat apply pK); refine blk_far ?_ L.out.symm _; (with_reducible repeat apply pK); refine blk_far ?_ L.out.symm _; (with_reducible repeat apply pK); refine blk_far ?_ L.out.symm _; (with_reducible repeat apply pK); refine blk_far ?_ aK.out _; (with_reducible repeat apply pK); refine blk_far ?_ aK.out _; (with_reducible repeat apply pK); refine blk_far ?_ aK.out _; (with_reducible repeat apply pK); refine blk_far ?_ aK.out _; (with_reducible repeat apply pK); refine blk_far ?_ aK.out _; (with_reducible repeat apply pK); refine blk_far ?_ aK.out _; (with_reducible repeat apply pK); exact a.out))⟩; have P : Aside0 (b8.heap[Q]? = some (.cells #[.int .i64 ae, .int .i64 ah, .slice aT ag.length aU, .int .i64 aw, .bool a5, .bool a9] 24 (0, 0))) := ⟨(by rw [hw]; exact (by (with_reducible repeat apply pK); refine blk_far ?_ aI.out.symm _; (with_reducible repeat apply pK); refine blk_far ?_ aI.out.symm _; (with_reducible repeat apply pK); refine blk_far ?_ aI.out.symm _; (with_reducible repeat apply pK); refine blk_far ?_ aI.out.symm _; (with_reducible repeat apply pK); refine blk_far ?_ aI.out.symm _; (with_reducible repeat apply pK); refine blk_far ?_ aI.out.symm _; (with_reducible repeat apply pK); exact put6 ba.out))⟩; have aB : Aside0 (Below w.heap.size w b8) := ⟨by rw [hw]; exact bl_⟩; clear hw GD aO d c b a ba HB; have GD := x; have aO := y; have d := z; have c := A; have b := B; have a := E; have ba := P; have HB := aB; clear x y z A B E P aB))
   refine rc1_ (vK b.out) Tryz.underlying24 ?_
   exact ⟨_, er_, by (with_reducible repeat apply pV); exact Kd.V_mono aO.out im_, bl_⟩

end Go.Proofs.YtphboakgkmjpbaaGreatDoor.P
