/- pp.py and press2.py (wip/tools) wrote this text. -/
import Derived.Test.YtjpedimndkibnaaGreatDoorPx0
import Derived.Test.YtjpedimndkibnaaGreatDoorPxS
import Derived.Test.YtjpedimndkibnaaGreatDoorPxT
import Derived.Test.YtjpedimndkibnaaGreatDoorPx0L
import Derived.Test.YtjpedimndkibnaaGreatDoorPx17
import Derived.Test.YtjpedimndkibnaaGreatDoorPx18
import Derived.Test.YtjpedimndkibnaaGreatDoorPx23
namespace Go.Proofs.YtjpedimndkibnaaGreatDoor.P
open Go.RowKit Go.Proofs.YtjpedimndkibnaaGreatDoorW.PrintWords Go.Proofs.YtjpedimndkibnaaGreatDoorW.PrintLast Go.Proofs.YtjpedimndkibnaaGreatDoorW.PrintMore
attribute [local go_sem] max2_int min2_int max_two min_two max_three min_three max_four min_four
attribute [local go_sem] Instr.field asAgg
set_option linter.unusedVariables false
set_option linter.unusedSimpArgs false
set_option maxHeartbeats 8000000
set_option maxRecDepth 100000

/-! ### shutterref13_Do: function 13 -/
mutual
def shutterref13_Do.j0 : Nat → Bool → Int → Int → List (S55) → Int → Bool → Bool → Int → Bool → Bool → Bool → List (S57) → Int → Int → List (S55) → Int → Bool → Bool → Option (Int × Int × (List (S55)) × Int × Bool × Bool)
 | 0, _, _, _, _, _, _, _, _, _, _, _, _, _, _, _, _, _, _ => none
 | k + 1, x18, p, q, b, r, s, t, c, l, m, n, o, d, e, i, j, g, h => if x18 = true then (some (d, e, i, j, g, h)) else (if c = 111 then ((shutterref13_Reset.f k d e i j g h false).bind fun a => (shutterref13_Do.l0 k 0 p q b r s t a.1 a.2.1 a.2.2.1 a.2.2.2.1 a.2.2.2.2.1 a.2.2.2.2.2)) else (if c = 245 then (if 0 ≤ (b.length : Int) then (if ((b.length : Int) : Int).toNat ≤ 7036874417766 then (shutterref13_Do.j2 k c l m n o d e (List.replicate ((b.length : Int) : Int).toNat z55) 0 g h) else (none)) else (none)) else (shutterref13_Do.j2 k c l m n o d e i j g h)))
def shutterref13_Do.l0 : Nat → Int → Int → Int → List (S55) → Int → Bool → Bool → Int → Int → List (S55) → Int → Bool → Bool → Option (Int × Int × (List (S55)) × Int × Bool × Bool)
 | 0, _, _, _, _, _, _, _, _, _, _, _, _, _ => none
 | k + 1, l, c, d, b, e, g, h, i, j, a, m, n, o => if l < (b.length : Int) then ((shutterref11_Open.f k c d b e g h l).bind fun q => (if q = true then (if 0 ≤ l then (if l < (a.length : Int) then (shutterref13_Do.l0 k (wrap64 (l + 1)) c d b e g h i j (a.set (l : Int).toNat (⟨(rd_T55 a l).f0, (⟨(rd_T55 a l).f1.f0, (rd_T55 a l).f1.f1, (rd_T55 a l).f1.f2, (rd_T55 a l).f1.f3⟩ : S53), 0⟩ : S55)) m n o) else (none)) else (none)) else (shutterref13_Do.l0 k (wrap64 (l + 1)) c d b e g h i j a m n o))) else ((shutterref11_Next.f k c d b e g h (wrap64 ((b.length : Int) - 1))).bind fun p => (if p < 0 then (some (i, j, a, 0, false, false)) else (some (i, j, a, p, false, false))))
def shutterref13_Do.j2 : Nat → Int → Bool → Bool → Bool → List (S57) → Int → Int → List (S55) → Int → Bool → Bool → Option (Int × Int × (List (S55)) × Int × Bool × Bool)
 | 0, _, _, _, _, _, _, _, _, _, _, _ => none
 | k + 1, i, j, l, a, m, b, c, d, e, g, h => if a = true then ((shutterref13_Reset.f k b c d e g h true).bind fun n => (none)) else (none)
end
def shutterref13_Do.f (k : Nat) (c d : Int) (i : List (S55)) (e : Int) (g h : Bool) (b : Int) (j l m : Bool) (n : List (S57)) : Option (Int × Int × (List (S55)) × Int × Bool × Bool) := (shutterref10_Copy.f c d i e g h).bind fun a => (if b = 242 then (shutterref13_Do.j0 k true c d i e g h b j l m n a.1 a.2.1 a.2.2.1 a.2.2.2.1 a.2.2.2.2.1 a.2.2.2.2.2) else (shutterref13_Do.j0 k (b == 246) c d i e g h b j l m n a.1 a.2.1 a.2.2.1 a.2.2.2.1 a.2.2.2.2.1 a.2.2.2.2.2))
theorem shutterref13_Do.mono_l : ∀ k, (∀ b c f g i j l m n o a d e t u v w x, LeO (shutterref13_Do.j0 k b c f g i j l m n o a d e t u v w x) (shutterref13_Do.j0 (k + 1) b c f g i j l m n o a d e t u v w x)) ∧ (∀ b c f g i j l m n o a d e, LeO (shutterref13_Do.l0 k b c f g i j l m n o a d e) (shutterref13_Do.l0 (k + 1) b c f g i j l m n o a d e)) ∧ (∀ b c f g i j l m n o a, LeO (shutterref13_Do.j2 k b c f g i j l m n o a) (shutterref13_Do.j2 (k + 1) b c f g i j l m n o a))
 | 0 => ⟨fun _ _ _ _ _ _ _ _ _ _ _ _ _ _ _ _ _ _ r h => by simp [shutterref13_Do.j0] at h, fun _ _ _ _ _ _ _ _ _ _ _ _ _ r h => by simp [shutterref13_Do.l0] at h, fun _ _ _ _ _ _ _ _ _ _ _ r h => by simp [shutterref13_Do.j2] at h⟩
 | k + 1 => by
  obtain ⟨p, q, s⟩ := shutterref13_Do.mono_l k
  refine ⟨?_, ?_, ?_⟩
  ·intro b c f g i j l m n o a d e t u v w x
   unfold shutterref13_Do.j0
   repeat' first
   | (with_reducible exact p _ _ _ _ _ _ _ _ _ _ _ _ _ _ _ _ _ _)
   | (with_reducible exact q _ _ _ _ _ _ _ _ _ _ _ _ _)
   | (with_reducible exact s _ _ _ _ _ _ _ _ _ _ _)
   | (with_reducible exact shutterref11_Next.mono _ _ _ _ _ _ _ _)
   | (with_reducible exact shutterref11_Open.mono _ _ _ _ _ _ _ _)
   | (with_reducible exact shutterref13_Reset.mono _ _ _ _ _ _ _ _)
   | (with_reducible exact LeO.refl _)
   | (with_reducible exact LeO.none _)
   | (with_reducible refine LeO.ite ?_ ?_)
   | (with_reducible refine LeO.bind ?_ (fun _ => ?_))
   | exact p _ _ _ _ _ _ _ _ _ _ _ _ _ _ _ _ _ _
   | exact q _ _ _ _ _ _ _ _ _ _ _ _ _
   | exact s _ _ _ _ _ _ _ _ _ _ _
   | exact shutterref11_Next.mono _ _ _ _ _ _ _ _
   | exact shutterref11_Open.mono _ _ _ _ _ _ _ _
   | exact shutterref13_Reset.mono _ _ _ _ _ _ _ _
   | exact LeO.none _
   | refine LeO.ite ?_ ?_
   | refine LeO.bind ?_ (fun _ => ?_)
  ·intro b c f g i j l m n o a d e
   unfold shutterref13_Do.l0
   repeat' first
   | (with_reducible exact p _ _ _ _ _ _ _ _ _ _ _ _ _ _ _ _ _ _)
   | (with_reducible exact q _ _ _ _ _ _ _ _ _ _ _ _ _)
   | (with_reducible exact s _ _ _ _ _ _ _ _ _ _ _)
   | (with_reducible exact shutterref11_Next.mono _ _ _ _ _ _ _ _)
   | (with_reducible exact shutterref11_Open.mono _ _ _ _ _ _ _ _)
   | (with_reducible exact shutterref13_Reset.mono _ _ _ _ _ _ _ _)
   | (with_reducible exact LeO.refl _)
   | (with_reducible exact LeO.none _)
   | (with_reducible refine LeO.ite ?_ ?_)
   | (with_reducible refine LeO.bind ?_ (fun _ => ?_))
   | exact p _ _ _ _ _ _ _ _ _ _ _ _ _ _ _ _ _ _
   | exact q _ _ _ _ _ _ _ _ _ _ _ _ _
   | exact s _ _ _ _ _ _ _ _ _ _ _
   | exact shutterref11_Next.mono _ _ _ _ _ _ _ _
   | exact shutterref11_Open.mono _ _ _ _ _ _ _ _
   | exact shutterref13_Reset.mono _ _ _ _ _ _ _ _
   | exact LeO.none _
   | refine LeO.ite ?_ ?_
   | refine LeO.bind ?_ (fun _ => ?_)
  ·intro b c f g i j l m n o a
   unfold shutterref13_Do.j2
   repeat' first
   | (with_reducible exact p _ _ _ _ _ _ _ _ _ _ _ _ _ _ _ _ _ _)
   | (with_reducible exact q _ _ _ _ _ _ _ _ _ _ _ _ _)
   | (with_reducible exact s _ _ _ _ _ _ _ _ _ _ _)
   | (with_reducible exact shutterref11_Next.mono _ _ _ _ _ _ _ _)
   | (with_reducible exact shutterref11_Open.mono _ _ _ _ _ _ _ _)
   | (with_reducible exact shutterref13_Reset.mono _ _ _ _ _ _ _ _)
   | (with_reducible exact LeO.refl _)
   | (with_reducible exact LeO.none _)
   | (with_reducible refine LeO.ite ?_ ?_)
   | (with_reducible refine LeO.bind ?_ (fun _ => ?_))
   | exact p _ _ _ _ _ _ _ _ _ _ _ _ _ _ _ _ _ _
   | exact q _ _ _ _ _ _ _ _ _ _ _ _ _
   | exact s _ _ _ _ _ _ _ _ _ _ _
   | exact shutterref11_Next.mono _ _ _ _ _ _ _ _
   | exact shutterref11_Open.mono _ _ _ _ _ _ _ _
   | exact shutterref13_Reset.mono _ _ _ _ _ _ _ _
   | exact LeO.none _
   | refine LeO.ite ?_ ?_
   | refine LeO.bind ?_ (fun _ => ?_)
theorem shutterref13_Do.mono : ∀ a0 a1 e g a4 h i j l m a k, LeO (shutterref13_Do.f k a0 a1 e g a4 h i j l m a) (shutterref13_Do.f (k + 1) a0 a1 e g a4 h i j l m a) := by
 intro a0 a1 e g a4 h i j l m a k
 obtain ⟨b, c, d⟩ := shutterref13_Do.mono_l k
 unfold shutterref13_Do.f
 repeat' first
   | (with_reducible exact b _ _ _ _ _ _ _ _ _ _ _ _ _ _ _ _ _ _)
   | (with_reducible exact c _ _ _ _ _ _ _ _ _ _ _ _ _)
   | (with_reducible exact d _ _ _ _ _ _ _ _ _ _ _)
   | (with_reducible exact shutterref11_Next.mono _ _ _ _ _ _ _ _)
   | (with_reducible exact shutterref11_Open.mono _ _ _ _ _ _ _ _)
   | (with_reducible exact shutterref13_Reset.mono _ _ _ _ _ _ _ _)
   | (with_reducible exact LeO.refl _)
   | (with_reducible exact LeO.none _)
   | (with_reducible refine LeO.ite ?_ ?_)
   | (with_reducible refine LeO.bind ?_ (fun _ => ?_))
   | exact b _ _ _ _ _ _ _ _ _ _ _ _ _ _ _ _ _ _
   | exact c _ _ _ _ _ _ _ _ _ _ _ _ _
   | exact d _ _ _ _ _ _ _ _ _ _ _
   | exact shutterref11_Next.mono _ _ _ _ _ _ _ _
   | exact shutterref11_Open.mono _ _ _ _ _ _ _ _
   | exact shutterref13_Reset.mono _ _ _ _ _ _ _ _
   | exact LeO.none _
   | refine LeO.ite ?_ ?_
   | refine LeO.bind ?_ (fun _ => ?_)
theorem shutterref13_Do.calls (k : Nat) (x y : Int) (an : Option Addr) (ao : Nat) (m : List (S55)) (z : Int) (A B : Bool) (q : Int) (ab ac Y : Bool) (aA : Option Addr) (aC : Nat) (S : List (S57)) (r1 r2 : Int) (r3 : List (S55)) (r4 : Int) (r5 r6 : Bool) (w : World) (dX : Kd.C k55 w an m.length m) (dT : m.length ≤ ao) (dY : Kd.C k57 w aA S.length S) (dU : S.length ≤ aC) (h : shutterref13_Do.f k x y m z A B q ab ac Y S = some (r1, r2, r3, r4, r5, r6)) :
  Calls Tryz.prog 13 #[.agg #[.int .i64 x, .int .i64 y, .slice an m.length ao, .int .i64 z, .bool A, .bool B], .agg #[.int .i64 q, .bool ab, .bool ac, .bool Y, .slice aA S.length aC]] w fun e w' => ∃ hc : Value, e = .returned (.agg #[.int .i64 r1, .int .i64 r2, hc, .int .i64 r4, .bool r5, .bool r6]) ∧ Kd.R k55 55 w' w.heap.size (fun _ => True) hc r3 ∧ Below w.heap.size w w' := by
 have jW := Tryz.underlying24
 have jX := Tryz.underlying29
 have aT := Z dX
 have aS := Z dT
 clear dX dT
 have h3 := Z dY
 have h2 := Z dU
 clear dY dU
 have HB := Z (Below.refl w.heap.size w)
 unfold shutterref13_Do.f at h
 have H := h
 clear h
 replace H := bn_ H
 obtain ⟨⟨T, U, aa, aj, V, W⟩, A3, H⟩ := H
 try dsimp only at H
 have gw := Z H
 clear H
 go_enter Tryz.func13, Tryz.ntmps13
 go_upto_region 2 with (first | ((with_reducible refine gD_ 2 rfl ?_); refine bx_ 2 24 #[.int .i64 x, .int .i64 y, .slice an m.length ao, .int .i64 z, .bool A, .bool B] ?_; intro ax hg w5 hbox hb; have c := Z hbox; have hY := ln' w hg; replace HB := bs_ hb; clear hb hbox hg) | ((with_reducible refine gD_ 3 rfl ?_); refine bx_ 3 29 #[.int .i64 q, .bool ab, .bool ac, .bool Y, .slice aA S.length aC] ?_; intro ay hg w6 hbox hb; have i := Z hbox; have hZ := ln' w hg; replace HB := bs_ hb; have L := nl' c hg; replace c := kb' c hb; clear hb hbox hg) | ((with_reducible refine gD_ 4 rfl ?_); refine bx_ 4 24 zS_ ?_; intro u hg w7 hbox hb; have l := Z hbox; have h0 := ln' w hg; replace HB := bs_ hb; have ae := nl' c hg; replace c := kb' c hb; have af := nl' i hg; replace i := kb' i hb; clear hb hbox hg; have jS := ns_ L; have jT := ns_ ae; have aZ := cells6 c.out) | ((with_reducible refine gF_ 32 rfl ?_); refine gd_ (some 10) Tryz.func32 (shutterref10_Copy.calls x y _ _ m z A B T U aa aj V W _ (cB_ aT HB) aS.out A3.out) ?_; rintro e kK ⟨j9, rfl, cT, hb⟩; refine ⟨_, rfl, ?_⟩; have aM := Z (Kd.R_lower cT (below_size bl_)); replace c := kb' c hb; replace i := kb' i hb; replace l := kb' l hb; replace HB := bs_ hb; (try clear hb); (try clear cT)) | ((with_reducible refine gD_ 5 rfl ?_); refine bx_ 5 24 zS_ ?_; intro n hg kL hbox hb; replace aM := rb' aM hb; have d := Z hbox; have h1 := ln' w hg; replace HB := bs_ hb; have E := nl' c hg; replace c := kb' c hb; have r := nl' i hg; replace i := kb' i hb; have s := nl' l hg; replace l := kb' l hb; clear hb hbox hg; have h5 := ns_ E; have h6 := ns_ r; have h7 := ns_ s; have a5 := cells6 d.out; obtain ⟨aB, aD, hf⟩ := Kd.R_slice aM.out; subst hf))
 (try simp only [Act.put, sA, sB, sC])
 go_cut [18] (fun hT wc => ∃ (kq : Nat) (bK : Bool), hT = .bool bK ∧ Aside0 (shutterref13_Do.j0 kq bK x y m z A B q ab ac Y S T U aa aj V W = some (r1, r2, r3, r4, r5, r6)) ∧ Aside0 (kq ≤ k) ∧ Aside0 (Kd.R k55 55 wc w.heap.size (fun _ => True) (.slice aB aa.length aD) aa) ∧ Aside0 (wc.heap[ax]? = some (.cells #[.int .i64 x, .int .i64 y, (.slice an m.length ao), .int .i64 z, .bool A, .bool B] 24 (0, 0))) ∧ Aside0 (wc.heap[ay]? = some (.cells #[.int .i64 q, .bool ab, .bool ac, .bool Y, (.slice aA S.length aC)] 29 (0, 0))) ∧ Aside0 (wc.heap[u]? = some (.cells zS_ 24 (0, 0))) ∧ Aside0 (wc.heap[n]? = some (.cells #[.int .i64 T, .int .i64 U, (.slice aB aa.length aD), .int .i64 aj, .bool V, .bool W] 24 (0, 0))) ∧ Aside0 (Below w.heap.size w wc))
 case first =>
  have H := gw.out
  clear gw
  by_cases aQ : q = 242
  ·rw [if_pos aQ] at H
   obtain ⟨aw, bJ⟩ := eT_ aQ
   clear aQ
   (first | rw [aw] | (simp only [i64_w, i32_w]; rw [aw]) | skip)
   have H' := Z H
   clear H
   have h8 := ns_ L
   have h9 := ns_ af
   have ia := ns_ r
   have bb := cells5 i.out
   go_wp2
   go_meet
   case rel => exact ⟨_, (true), (dn_), H', ⟨by first | omega | exact Nat.le_refl _⟩, ⟨by (with_reducible repeat apply pR); exact Kd.R_mono (f6R n (Kd.R_types aM.out d.out (by decide)) im_) im_⟩, ⟨blk_off c.out E.out off2_⟩, ⟨blk_off i.out r.out off2_⟩, ⟨blk_off l.out s.out off2_⟩, ⟨put6 d.out⟩, ⟨bl_⟩⟩
  rw [if_neg aQ] at H
  obtain ⟨aw, bJ⟩ := eF_ aQ
  (first | rw [aw] | (simp only [i64_w, i32_w]; rw [aw]) | skip)
  have H' := Z H
  clear H
  have ib := ns_ L
  have ic := ns_ af
  have id := ns_ r
  have bg := cells5 i.out
  go_wp2
  go_meet
  case rel => exact ⟨_, ((q == 246)), (dn_), H', ⟨by first | omega | exact Nat.le_refl _⟩, ⟨by (with_reducible repeat apply pR); exact Kd.R_mono (f6R n (Kd.R_types aM.out d.out (by decide)) im_) im_⟩, ⟨blk_off c.out E.out off2_⟩, ⟨blk_off i.out r.out off2_⟩, ⟨blk_off l.out s.out off2_⟩, ⟨put6 d.out⟩, ⟨bl_⟩⟩
 clear gw
 try clear aZ
 try clear a5
 obtain ⟨kq, bK, rfl, HA, bU, GA, c, i, l, d, HB⟩ := hcut
 cases kq with
 | zero => exact absurd HA.out (by simp [shutterref13_Do.j0])
 | succ aR =>
  have H := HA.out
  clear HA
  simp only [shutterref13_Do.j0] at H
  by_cases bV : bK = true
  ·subst bV
   rw [if_pos rfl] at H
   obtain ⟨rfl, rfl, rfl, rfl, rfl, rfl⟩ := ij6_ H
   have ie := ns_ E
   have ig := ns_ r
   have ih := ns_ s
   have bW := cells6 d.out
   have ii := ns_ ae
   have ij := ns_ af
   have b2 := cells6 l.out
   go_wp2
   refine rc1_ (put6 l.out) Tryz.underlying24 ?_
   exact ⟨_, er_, by (with_reducible repeat apply pR); exact Kd.R_mono (f6R u (Kd.R_types GA.out l.out (by decide)) im_) im_, bl_⟩
  replace bV := Bool.eq_false_iff.mpr bV
  subst bV
  rw [iF_] at H
  by_cases aU : q = 111
  rotate_left
  ·rw [if_neg aU] at H
   obtain ⟨cW, cX⟩ := eF_ aU
   have dj := Z H
   clear H
   have iL := ns_ L
   have iM := ns_ af
   have iN := ns_ r
   have e3 := cells5 i.out
   go_upto_if 56 with (fail)
   go_cut [] (fun wc => ∃ (kq : Nat) (ar : List (S55)) (au : Int) (GB : Value), Aside0 (shutterref13_Do.j2 kq q ab ac Y S T U ar au V W = some (r1, r2, r3, r4, r5, r6)) ∧ Aside0 (kq ≤ aR) ∧ Aside0 (Kd.R k55 55 wc w.heap.size (fun _ => True) GB ar) ∧ Aside0 (wc.heap[ax]? = some (.cells #[.int .i64 x, .int .i64 y, (.slice an m.length ao), .int .i64 z, .bool A, .bool B] 24 (0, 0))) ∧ Aside0 (wc.heap[ay]? = some (.cells #[.int .i64 q, .bool ab, .bool ac, .bool Y, (.slice aA S.length aC)] 29 (0, 0))) ∧ Aside0 (wc.heap[u]? = some (.cells zS_ 24 (0, 0))) ∧ Aside0 (wc.heap[n]? = some (.cells #[.int .i64 T, .int .i64 U, GB, .int .i64 au, .bool V, .bool W] 24 (0, 0))) ∧ Aside0 (Below w.heap.size w wc))
   case first =>
    have H := dj.out
    clear dj
    by_cases bI : q = 245
    rotate_left
    ·rw [if_neg bI] at H
     obtain ⟨aO, dS⟩ := eF_ bI
     (first | rw [aO] | (simp only [i64_w, i32_w]; rw [aO]) | skip)
     have H' := Z H
     clear H
     go_wp2
     go_meet
     case rel => exact ⟨_, (aa), (aj), (.slice aB aa.length aD), H', ⟨by have := bU.out; first | omega | exact Nat.le_refl _⟩, ⟨by (with_reducible repeat apply pR); exact GA.out⟩, ⟨vK c.out⟩, ⟨vK i.out⟩, ⟨vK l.out⟩, ⟨vK d.out⟩, ⟨bl_⟩⟩
    rw [if_pos bI] at H
    obtain ⟨aO, dS⟩ := eT_ bI
    clear bI
    (first | rw [aO] | (simp only [i64_w, i32_w]; rw [aO]) | skip)
    obtain ⟨aX, H⟩ := gt_ H
    have gz := eq_true aX
    have gA := decide_eq_true aX
    clear aX
    obtain ⟨aY, H⟩ := gt_ H
    have gB := eq_true aY
    have gC := decide_eq_true aY
    clear aY
    obtain ⟨bT, aW⟩ : ∃ y_ : List (S55), y_ = (List.replicate ((m.length : Int) : Int).toNat z55) := ⟨_, rfl⟩
    replace H : (shutterref13_Do.j2 aR q ab ac Y S T U bT 0 V W) = some (r1, r2, r3, r4, r5, r6) := by first | (rw [aW]; with_reducible exact H) | (have bN := (Option.bind_some _ _).symm.trans H; rw [aW]; with_reducible exact bN) | (have bN := (Option.bind_some _ _).symm.trans H; with_reducible exact bN) | with_reducible exact H | (rw [aW]; exact H) | exact H
    have dP := Z aW
    clear aW
    have H' := Z H
    clear H
    have hJ := ns_ L
    have hK := ns_ ae
    have hL := ns_ E
    have dl := cells6 c.out
    go_wp2_with (first | ((with_reducible refine gD_ 60 rfl ?_); refine Kd.R_make k55 _ 55 rfl (N := 60) rfl 22 _ _ rfl (m.length : Int) rfl rfl Tryz.underlying22 (.agg #[(.bool false), (.bool false), (.bool false), (.int .i64 0), (.bool false), (.int .u8 0)]) 40 info55 rfl (by decide) (by omega) z55 (ok := fun _ => True) (okp := fun _ => True) (k55_mkM _ _ _ z55 ) (fun _ hk => hk) trivial (od_) (Nat.le_trans (Nat.mul_le_mul_right _ (od_ : (m.length : Int).toNat ≤ 7036874417766)) (by omega)) (Below.refl _ _) (Nat.le_refl _) ?_; intro kc kd aP hb hg_ hnew_; clear hg_ hnew_; (first | rw [← dP.out] at aP | (simp only [Int.reduceToNat] at aP; rw [← dP.out] at aP)); have dO := Z (Kd.R_lower (Kd.R_new' aP (Kd.R_lt (by (with_reducible repeat apply pR); exact GA.out))) (below_size bl_)); replace GA := Z (Kd.R_elder' (by (with_reducible repeat apply pR); exact GA.out) (Kd.R_base aP) hb); replace c := kb' c hb; replace i := kb' i hb; replace l := kb' l hb; replace d := kb' d hb; replace HB := bs_ hb; clear hb aP; obtain ⟨cU, cY, gY⟩ := Kd.R_slice dO.out; subst gY; have hM := ns_ r; have hN := ns_ s; have ds := cells6 d.out))
    go_meet
    case rel => exact ⟨_, (bT), (0), (.slice cU bT.length cY), H', ⟨by have := bU.out; first | omega | exact Nat.le_refl _⟩, ⟨by (with_reducible repeat apply pR); exact Kd.R_mono (Kd.R_far (p := ⟨n, 3, none⟩) (Kd.R_far (p := ⟨n, 2, none⟩) (Kd.R_types dO.out d.out (by decide)) im_ (.slice cU bT.length cY)) im_ (.int .i64 0)) im_⟩, ⟨blk_off c.out E.out off2_⟩, ⟨blk_off i.out r.out off2_⟩, ⟨blk_off l.out s.out off2_⟩, ⟨by (with_reducible repeat apply pK); refine blk_put (cs := #[.int .i64 T, .int .i64 U, .slice cU bT.length cY, .int .i64 aj, .bool V, .bool W]) ?_ 3 _ rfl; (with_reducible repeat apply pK); refine blk_put (cs := #[.int .i64 T, .int .i64 U, .slice aB aa.length aD, .int .i64 aj, .bool V, .bool W]) ?_ 2 _ rfl; (with_reducible repeat apply pK); exact d.out⟩, ⟨bl_⟩⟩
   clear dj
   try clear bV
   try clear aU
   try clear cW
   try clear cX
   try clear aZ
   try clear a5
   try clear e3
   obtain ⟨kq, ar, au, GB, HA, jH, GA, c, i, l, d, HB⟩ := hcut
   cases kq with
   | zero => exact absurd HA.out (by simp [shutterref13_Do.j2])
   | succ hp =>
    have H := HA.out
    clear HA
    simp only [shutterref13_Do.j2] at H
    by_cases cV : Y = true
    ·subst cV
     rw [if_pos rfl] at H
     replace H := bn_ H
     obtain ⟨⟨j1, j3, j4, j5, j6, j7⟩, jE, H⟩ := H
     try dsimp only at H
     exact absurd H (by simp)
    replace cV := Bool.eq_false_iff.mpr cV
    subst cV
    rw [iF_] at H
    exact absurd H (by simp)
  rw [if_pos aU] at H
  obtain ⟨cW, cX⟩ := eT_ aU
  clear aU
  replace H := bn_ H
  obtain ⟨⟨D, F, bS, ak, ap, am⟩, hq, H⟩ := H
  try dsimp only at H
  have H' := Z H
  clear H
  have ik := ns_ L
  have il := ns_ af
  have im := ns_ r
  have b8 := cells5 i.out
  have io := ns_ E
  have ip := ns_ s
  have cd := cells6 d.out
  go_wp2_with (first | ((with_reducible refine gF_ 33 rfl ?_); refine gd_ (some 24) Tryz.func33 (shutterref13_Reset.calls aR T U _ _ aa aj V W false D F bS ak ap am _ (rC_ GA) (rL_ GA) hq.out) ?_; rintro e kM ⟨ka, rfl, cT, hb⟩; refine ⟨_, rfl, ?_⟩; have dN := Z (Kd.R_lower (Kd.R_new' cT (Kd.R_lt (by (with_reducible repeat apply pR); exact GA.out))) (below_size bl_)); replace GA := Z (Kd.R_elder' (by (with_reducible repeat apply pR); exact GA.out) (Kd.R_base cT) hb); replace c := kb' c hb; replace i := kb' i hb; replace l := kb' l hb; replace d := kb' d hb; replace HB := bs_ hb; (try clear hb); (try clear cT); have cj := cells6 d.out; obtain ⟨gv, gD, hh⟩ := Kd.R_slice dN.out; subst hh))
  go_loopg [6] aR (fun kq v6 w' => ∃ (b : Int) (a : List (S55)) (GB : Value), v6 = .int .i64 b ∧ Aside0 (shutterref13_Do.l0 kq b x y m z A B D F a ak ap am = some (r1, r2, r3, r4, r5, r6)) ∧ Aside0 (kq ≤ aR) ∧ Aside0 (Kd.R k55 55 w' w.heap.size (fun _ => True) GB a) ∧ Aside0 (w'.heap[ax]? = some (.cells #[.int .i64 x, .int .i64 y, (.slice an m.length ao), .int .i64 z, .bool A, .bool B] 24 (0, 0))) ∧ Aside0 (w'.heap[ay]? = some (.cells #[.int .i64 q, .bool ab, .bool ac, .bool Y, (.slice aA S.length aC)] 29 (0, 0))) ∧ Aside0 (w'.heap[u]? = some (.cells zS_ 24 (0, 0))) ∧ Aside0 (w'.heap[n]? = some (.cells #[.int .i64 D, .int .i64 F, GB, .int .i64 ak, .bool ap, .bool am] 24 (0, 0))) ∧ Aside0 (Below w.heap.size w w'))
  case atStart => exact ⟨(0), (bS), (.slice gv bS.length gD), (dn_), H', ⟨Nat.le_refl _⟩, ⟨by (with_reducible repeat apply pR); exact Kd.R_mono (f6R n (Kd.R_types dN.out d.out (by decide)) im_) im_⟩, ⟨blk_off c.out E.out off2_⟩, ⟨blk_off i.out r.out off2_⟩, ⟨blk_off l.out s.out off2_⟩, ⟨put6 d.out⟩, ⟨bl_⟩⟩
  case round =>
   clear H'
   try clear bV
   try clear aU
   try clear cW
   try clear cX
   try clear aZ
   try clear a5
   try clear b8
   try clear cd
   try clear cj
   obtain ⟨b, a, GB, rfl, HA, dM, GA, c, i, l, d, HB⟩ := hrel
   cases gk with
   | zero => exact absurd HA.out (by simp [shutterref13_Do.l0])
   | succ k2 =>
    have H := HA.out
    clear HA
    simp only [shutterref13_Do.l0] at H
    by_cases bO : b < (m.length : Int)
    ·rw [if_pos bO] at H
     have dQ := decide_eq_true bO
     clear bO
     replace H := bn_ H
     obtain ⟨gT, g1, H⟩ := H
     cases gT
     ·rw [iF_] at H
      have H' := Z H
      clear H
      have iw := ns_ L
      have ix := ns_ ae
      have iy := ns_ E
      have eb := cells6 c.out
      go_wp2_with (first | ((with_reducible refine gF_ 34 rfl ?_); refine gd_ (some 34) Tryz.func34 (shutterref11_Open.calls k2 x y _ _ m z A B b false _ (cB_ aT HB) aS.out g1.out) ?_; rintro e kN ⟨rfl, hb⟩; refine ⟨_, rfl, ?_⟩; replace GA := rb' GA hb; replace c := kb' c hb; replace i := kb' i hb; replace l := kb' l hb; replace d := kb' d hb; replace HB := bs_ hb; (try clear hb)))
      go_roundg k2
      case measure => have := bU.out; have := dM.out; omega
      case rel => exact ⟨(wrap64 (b + 1)), (a), (GB), (dn_), H', ⟨by have := bU.out; have := dM.out; omega⟩, ⟨by (with_reducible repeat apply pR); exact GA.out⟩, ⟨vK c.out⟩, ⟨vK i.out⟩, ⟨vK l.out⟩, ⟨vK d.out⟩, ⟨bl_⟩⟩
     rw [if_pos rfl] at H
     obtain ⟨db, H⟩ := gt_ H
     have gW := decide_eq_true db
     clear db
     obtain ⟨dc, H⟩ := gt_ H
     have gX := decide_eq_true dc
     clear dc
     obtain ⟨dK, aV⟩ : ∃ y_ : List (S55), y_ = (a.set (b : Int).toNat (⟨(rd_T55 a b).f0, (⟨(rd_T55 a b).f1.f0, (rd_T55 a b).f1.f1, (rd_T55 a b).f1.f2, (rd_T55 a b).f1.f3⟩ : S53), 0⟩ : S55)) := ⟨_, rfl⟩
     replace H : (shutterref13_Do.l0 k2 (wrap64 (b + 1)) x y m z A B D F dK ak ap am) = some (r1, r2, r3, r4, r5, r6) := by first | (rw [aV]; with_reducible exact H) | (have bN := (Option.bind_some _ _).symm.trans H; rw [aV]; with_reducible exact bN) | (have bN := (Option.bind_some _ _).symm.trans H; with_reducible exact bN) | with_reducible exact H | (rw [aV]; exact H) | exact H
     have gV := Z aV
     clear aV
     have H' := Z H
     clear H
     have iq := ns_ L
     have ir := ns_ ae
     have it := ns_ E
     have dZ := cells6 c.out
     go_wp2_with (first | ((with_reducible refine gF_ 34 rfl ?_); refine gd_ (some 34) Tryz.func34 (shutterref11_Open.calls k2 x y _ _ m z A B b true _ (cB_ aT HB) aS.out g1.out) ?_; rintro e av ⟨rfl, hb⟩; refine ⟨_, rfl, ?_⟩; replace GA := rb' GA hb; replace c := kb' c hb; replace i := kb' i hb; replace l := kb' l hb; replace d := kb' d hb; replace HB := bs_ hb; (try clear hb); (try clear hk); have iu := ns_ r; have iv := ns_ s; have d5 := cells6 d.out; have p52 : 0 ≤ (b : Int) := od_; have di : (b : Int) < ((a.length : Int) : Int) := od_; obtain ⟨ad, cZ, gE, gF, hm, jP, gx⟩ := Kd.R_form GA.out (by omega); (first | cases gE | (injection gE with ea_ en_ ec_; (first | subst ea_ | (injection ea_ with ea_; subst ea_)); subst ec_; clear en_)); have he := Z gF; have jG := Z gx; clear gF hm gx; obtain ⟨jN, gZ, gG, aE, aF⟩ := Kd.R_elem GA.out z55 (b : Int) p52 di; obtain rfl := k55_openM gG; have gJ := ce_ aE; have hD := cf_ aF; clear gZ aE aF gG; replace p52 := eq_true p52; replace di := eq_true di; have gy := Z (show Kd.R k55 55 av w.heap.size (fun _ => True) (.slice (some ⟨ad, 0, none⟩) a.length cZ) a from (by (with_reducible repeat apply pR); exact GA.out)); obtain ⟨jO, dV, gH, c0, dW⟩ := Kd.R_elem gy.out z55 (b : Int) (od_) (by have h_ : (b : Int) < ((a.length : Int) : Int) := od_; first | exact h_ | (have e_ := (Kd.R_reads' GA.out).1; omega) | simpa using h_); obtain rfl := k55_openM gH; have dk := Kd.R_seg gy.out (b : Int) (od_) (by have h_ : (b : Int) < ((a.length : Int) : Int) := od_; first | exact h_ | (have e_ := (Kd.R_reads' GA.out).1; omega) | simpa using h_) (seg := [.int .u8 0]) (j := 5) dV c0 (show 6 ≤ 6 from by decide) (x' := (⟨(rd_T55 a b).f0, (⟨(rd_T55 a b).f1.f0, (rd_T55 a b).f1.f1, (rd_T55 a b).f1.f2, (rd_T55 a b).f1.f3⟩ : S53), 0⟩ : S55)) (k55_mkM _ _ _ (⟨(rd_T55 a b).f0, (⟨(rd_T55 a b).f1.f0, (rd_T55 a b).f1.f1, (rd_T55 a b).f1.f2, (rd_T55 a b).f1.f3⟩ : S53), 0⟩ : S55) ) (fun _ hk => hk); have de := c0 5 _ rfl; (try simp only [show (k55).sz = 6 from rfl, Nat.mul_one, Nat.add_zero] at de); have gI := dW 5; (try simp only [show (k55).sz = 6 from rfl, Nat.mul_one, Nat.add_zero] at gI); clear dV c0 dW gH) | ((with_reducible refine gate_store (t := 5) (p := 39) rfl ?_); refine sx_ 5 39 (av.setCell ⟨ad, (b : Int).toNat * 6 + 5, none⟩ (.int .u8 0)) ?_; intro gU hw; have hg : av.grownBy gU (some ad) := (by rw [hw]; exact dk.2); have hp_ : Kd.R k55 55 gU w.heap.size (fun _ => True) (.slice (some ⟨ad, 0, none⟩) a.length cZ) dK := (by rw [hw, gV.out]; exact dk.1); clear dk; replace c := gw_ ⟨vK c.out⟩ hg (Kd.R_ne GA.out c.out (by decide)); replace i := gw_ ⟨vK i.out⟩ hg (Kd.R_ne GA.out i.out (by decide)); replace l := gw_ ⟨vK l.out⟩ hg (Kd.R_ne GA.out l.out (by decide)); replace d := gw_ ⟨vK d.out⟩ hg (Kd.R_ne GA.out d.out (by decide)); replace GA := Z (hp_); replace HB := Z ((by rw [hw]; exact below_set (HB.out) he.out : Below w.heap.size w gU)); clear hg hw hp_))
     go_roundg k2
     case measure => have := bU.out; have := dM.out; omega
     case rel => exact ⟨(wrap64 (b + 1)), (dK), (.slice (some ⟨ad, 0, none⟩) a.length cZ), (dn_), H', ⟨by have := bU.out; have := dM.out; omega⟩, ⟨by (with_reducible repeat apply pR); exact GA.out⟩, ⟨vK c.out⟩, ⟨vK i.out⟩, ⟨vK l.out⟩, ⟨vK d.out⟩, ⟨bl_⟩⟩
    rw [if_neg bO] at H
    have dQ := decide_eq_false bO
    clear bO
    replace H := bn_ H
    obtain ⟨aq, g2, H⟩ := H
    by_cases bP : aq < 0
    ·rw [if_pos bP] at H
     have dR := decide_eq_true bP
     clear bP
     obtain ⟨rfl, rfl, rfl, rfl, rfl, rfl⟩ := ij6_ H
     have iz := ns_ L
     have iA := ns_ ae
     have iB := ns_ E
     have eh := cells6 c.out
     have iC := ns_ r
     have iD := ns_ s
     have en := cells6 d.out
     go_wp2_with (first | ((with_reducible refine gF_ 35 rfl ?_); refine gd_ (some 47) Tryz.func35 (shutterref11_Next.calls k2 x y _ _ m z A B (wrap64 ((m.length : Int) - 1)) aq _ (Kd.C_below aT.out bl_) aS.out g2.out) ?_; rintro e kO ⟨rfl, hb⟩; refine ⟨_, rfl, ?_⟩; replace GA := Z (Kd.R_below (by (with_reducible repeat apply pR); exact (Kd.R_mono (Kd.R_far (p := ⟨n, 5, none⟩) (Kd.R_far (p := ⟨n, 4, none⟩) (Kd.R_types GA.out d.out (by decide)) (fun _ hk => hk.2) (.bool false)) (fun _ hk => hk.2) (.bool false)) (fun _ h_ => h_.1))) hb); replace c := Z (blk_below (g := ax) (o := .cells #[.int .i64 x, .int .i64 y, .slice an m.length ao, .int .i64 z, .bool A, .bool B] 24 (0, 0)) (blk_off c.out E.out off2_) hb); replace i := Z (blk_below (g := ay) (o := .cells #[.int .i64 q, .bool ab, .bool ac, .bool Y, .slice aA S.length aC] 29 (0, 0)) (blk_off i.out r.out off2_) hb); replace l := Z (blk_below (g := u) (o := .cells zS_ 24 (0, 0)) (blk_off l.out s.out off2_) hb); replace d := Z (blk_below (g := n) (o := .cells #[.int .i64 D, .int .i64 F, GB, .int .i64 ak, .bool false, .bool false] 24 (0, 0)) (by (with_reducible repeat apply pK); refine blk_put (cs := #[.int .i64 D, .int .i64 F, GB, .int .i64 ak, .bool false, .bool am]) ?_ 5 _ rfl; (with_reducible repeat apply pK); refine blk_put (cs := #[.int .i64 D, .int .i64 F, GB, .int .i64 ak, .bool ap, .bool am]) ?_ 4 _ rfl; (with_reducible repeat apply pK); exact d.out) hb); replace HB := bs_ hb; (try clear hb); (try clear hk); have et := cells6 d.out; have iE := ns_ af; have ez := cells6 l.out; obtain ⟨bL, bQ, hj⟩ := Kd.R_slice GA.out; subst hj))
     refine bodyPost_ret (results_cell_row rfl _ _ u 24 #[.int .i64 D, .int .i64 F, .slice bL a.length bQ, .int .i64 0, .bool false, .bool false] (0, 0) _ rfl (put6 (by (with_reducible repeat apply pK); refine blk_far ?_ s.out _; (with_reducible repeat apply pK); refine blk_far ?_ s.out _; (with_reducible repeat apply pK); exact l.out)) Tryz.underlying24 rfl (by kernel_rfl)) rfl ?_
     exact ⟨_, er_, by (with_reducible repeat apply pR); exact Kd.R_mono (f6R u (Kd.R_far (p := ⟨n, 3, none⟩) (Kd.R_far (p := ⟨n, 3, none⟩) (Kd.R_types (Kd.R_types GA.out d.out (by decide)) l.out (by decide)) im_ (.int .i64 aq)) im_ (.int .i64 0)) im_) im_, bl_⟩
    rw [if_neg bP] at H
    have dR := decide_eq_false bP
    clear bP
    obtain ⟨rfl, rfl, rfl, rfl, rfl, rfl⟩ := ij6_ H
    have iF := ns_ L
    have iG := ns_ ae
    have iH := ns_ E
    have eF := cells6 c.out
    have iI := ns_ r
    have iJ := ns_ s
    have eL := cells6 d.out
    go_wp2_with (first | ((with_reducible refine gF_ 35 rfl ?_); refine gd_ (some 47) Tryz.func35 (shutterref11_Next.calls k2 x y _ _ m z A B (wrap64 ((m.length : Int) - 1)) aq _ (Kd.C_below aT.out bl_) aS.out g2.out) ?_; rintro e kP ⟨rfl, hb⟩; refine ⟨_, rfl, ?_⟩; replace GA := Z (Kd.R_below (by (with_reducible repeat apply pR); exact (Kd.R_mono (Kd.R_far (p := ⟨n, 5, none⟩) (Kd.R_far (p := ⟨n, 4, none⟩) (Kd.R_types GA.out d.out (by decide)) (fun _ hk => hk.2) (.bool false)) (fun _ hk => hk.2) (.bool false)) (fun _ h_ => h_.1))) hb); replace c := Z (blk_below (g := ax) (o := .cells #[.int .i64 x, .int .i64 y, .slice an m.length ao, .int .i64 z, .bool A, .bool B] 24 (0, 0)) (blk_off c.out E.out off2_) hb); replace i := Z (blk_below (g := ay) (o := .cells #[.int .i64 q, .bool ab, .bool ac, .bool Y, .slice aA S.length aC] 29 (0, 0)) (blk_off i.out r.out off2_) hb); replace l := Z (blk_below (g := u) (o := .cells zS_ 24 (0, 0)) (blk_off l.out s.out off2_) hb); replace d := Z (blk_below (g := n) (o := .cells #[.int .i64 D, .int .i64 F, GB, .int .i64 ak, .bool false, .bool false] 24 (0, 0)) (by (with_reducible repeat apply pK); refine blk_put (cs := #[.int .i64 D, .int .i64 F, GB, .int .i64 ak, .bool false, .bool am]) ?_ 5 _ rfl; (with_reducible repeat apply pK); refine blk_put (cs := #[.int .i64 D, .int .i64 F, GB, .int .i64 ak, .bool ap, .bool am]) ?_ 4 _ rfl; (with_reducible repeat apply pK); exact d.out) hb); replace HB := bs_ hb; (try clear hb); (try clear hk); have eR := cells6 d.out; have iK := ns_ af; have eX := cells6 l.out; obtain ⟨bM, bR, hl⟩ := Kd.R_slice GA.out; subst hl))
    refine bodyPost_ret (results_cell_row rfl _ _ u 24 #[.int .i64 D, .int .i64 F, .slice bM a.length bR, .int .i64 aq, .bool false, .bool false] (0, 0) _ rfl (put6 (by (with_reducible repeat apply pK); refine blk_far ?_ s.out _; (with_reducible repeat apply pK); exact l.out)) Tryz.underlying24 rfl (by kernel_rfl)) rfl ?_
    exact ⟨_, er_, by (with_reducible repeat apply pR); exact Kd.R_mono (f6R u (Kd.R_far (p := ⟨n, 3, none⟩) (Kd.R_types (Kd.R_types GA.out d.out (by decide)) l.out (by decide)) im_ (.int .i64 aq)) im_) im_, bl_⟩

end Go.Proofs.YtjpedimndkibnaaGreatDoor.P
