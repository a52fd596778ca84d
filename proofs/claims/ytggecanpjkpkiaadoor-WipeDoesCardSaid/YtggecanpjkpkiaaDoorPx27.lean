/- pp.py and press2.py (wip/tools) wrote this text. -/
import Derived.Test.YtggecanpjkpkiaaDoorPx0
import Derived.Test.YtggecanpjkpkiaaDoorPxS
import Derived.Test.YtggecanpjkpkiaaDoorPx0L
import Derived.Test.YtggecanpjkpkiaaDoorPx10
import Derived.Test.YtggecanpjkpkiaaDoorPx14
import Derived.Test.YtggecanpjkpkiaaDoorPx15
import Derived.Test.YtggecanpjkpkiaaDoorPx26
namespace Go.Proofs.YtggecanpjkpkiaaDoor.P
open Go.RowKit Go.Proofs.YtggecanpjkpkiaaDoorW.PrintWords Go.Proofs.YtggecanpjkpkiaaDoorW.PrintLast Go.Proofs.YtggecanpjkpkiaaDoorW.PrintMore
attribute [local go_sem] max2_int min2_int max_two min_two max_three min_three max_four min_four
attribute [local go_sem] Instr.field asAgg
set_option linter.unusedVariables false
set_option linter.unusedSimpArgs false

/-! ### shutterref13_Do: function 52 -/
mutual
def shutterref13_Do.j0 : Nat → Bool → Int → Int → List (S35) → Int → Bool → Bool → Int → Bool → Bool → Bool → List (S128) → Int → Int → List (S35) → Int → Bool → Bool → Option (Int × Int × (List (S35)) × Int × Bool × Bool)
 | 0, _, _, _, _, _, _, _, _, _, _, _, _, _, _, _, _, _, _ => none
 | k + 1, x18, p, q, b, r, s, t, c, l, m, n, o, d, e, i, j, g, h => if x18 = true then (some (d, e, i, j, g, h)) else (if c = 111 then ((shutterref13_Reset.f k d e i j g h false).bind fun a => (shutterref13_Do.l0 k 0 p q b r s t a.1 a.2.1 a.2.2.1 a.2.2.2.1 a.2.2.2.2.1 a.2.2.2.2.2)) else (if c = 245 then (if 0 ≤ (b.length : Int) then (if ((b.length : Int) : Int).toNat ≤ 7036874417766 then (shutterref13_Do.j2 k c l m n o d e (List.replicate ((b.length : Int) : Int).toNat z35) 0 g h) else (none)) else (none)) else (shutterref13_Do.j2 k c l m n o d e i j g h)))
def shutterref13_Do.l0 : Nat → Int → Int → Int → List (S35) → Int → Bool → Bool → Int → Int → List (S35) → Int → Bool → Bool → Option (Int × Int × (List (S35)) × Int × Bool × Bool)
 | 0, _, _, _, _, _, _, _, _, _, _, _, _, _ => none
 | k + 1, l, c, d, b, e, g, h, i, j, a, m, n, o => if l < (b.length : Int) then ((shutterref11_Open.f k c d b e g h l).bind fun q => (if q = true then (if 0 ≤ l then (if l < (a.length : Int) then (shutterref13_Do.l0 k (wrap64 (l + 1)) c d b e g h i j (a.set (l : Int).toNat (⟨(rd_T35 a l).f0, (⟨(rd_T35 a l).f1.f0, (rd_T35 a l).f1.f1, (rd_T35 a l).f1.f2, (rd_T35 a l).f1.f3⟩ : S33), 0⟩ : S35)) m n o) else (none)) else (none)) else (shutterref13_Do.l0 k (wrap64 (l + 1)) c d b e g h i j a m n o))) else ((shutterref11_Next.f k c d b e g h (wrap64 ((b.length : Int) - 1))).bind fun p => (if p < 0 then (some (i, j, a, 0, false, false)) else (some (i, j, a, p, false, false))))
def shutterref13_Do.j2 : Nat → Int → Bool → Bool → Bool → List (S128) → Int → Int → List (S35) → Int → Bool → Bool → Option (Int × Int × (List (S35)) × Int × Bool × Bool)
 | 0, _, _, _, _, _, _, _, _, _, _, _ => none
 | k + 1, i, j, l, a, m, b, c, d, e, g, h => if a = true then ((shutterref13_Reset.f k b c d e g h true).bind fun n => (none)) else (none)
end
def shutterref13_Do.f (k : Nat) (c : Int) (d : Int) (i : List (S35)) (e : Int) (g : Bool) (h : Bool) (b : Int) (j : Bool) (l : Bool) (m : Bool) (n : List (S128)) : Option (Int × Int × (List (S35)) × Int × Bool × Bool) := (shutterref10_Copy.f c d i e g h).bind fun a => (if b = 242 then (shutterref13_Do.j0 k true c d i e g h b j l m n a.1 a.2.1 a.2.2.1 a.2.2.2.1 a.2.2.2.2.1 a.2.2.2.2.2) else (shutterref13_Do.j0 k (b == 246) c d i e g h b j l m n a.1 a.2.1 a.2.2.1 a.2.2.2.1 a.2.2.2.2.1 a.2.2.2.2.2))
theorem shutterref13_Do.mono_l : ∀ k, (∀ b c f g i j l m n o a d e t u v w x, LeO (shutterref13_Do.j0 k b c f g i j l m n o a d e t u v w x) (shutterref13_Do.j0 (k + 1) b c f g i j l m n o a d e t u v w x)) ∧ (∀ b c f g i j l m n o a d e, LeO (shutterref13_Do.l0 k b c f g i j l m n o a d e) (shutterref13_Do.l0 (k + 1) b c f g i j l m n o a d e)) ∧ (∀ b c f g i j l m n o a, LeO (shutterref13_Do.j2 k b c f g i j l m n o a) (shutterref13_Do.j2 (k + 1) b c f g i j l m n o a))
 | 0 => ⟨fun _ _ _ _ _ _ _ _ _ _ _ _ _ _ _ _ _ _ r h => by simp [shutterref13_Do.j0] at h, fun _ _ _ _ _ _ _ _ _ _ _ _ _ r h => by simp [shutterref13_Do.l0] at h, fun _ _ _ _ _ _ _ _ _ _ _ r h => by simp [shutterref13_Do.j2] at h⟩
 | k + 1 => by
  obtain ⟨p, q, s⟩ := shutterref13_Do.mono_l k
  refine ⟨?_, ?_, ?_⟩
  ·intro b c f g i j l m n o a d e t u v w x
   unfold shutterref13_Do.j0
   repeat' first
   | (with_reducible exact p _ _ _ _ _ _ _ _ _ _ _ _ _ _ _ _ _ _)
   | (with_reducible exact q _ _ _ _ _ _ _ _ _ _ _ _ _)
   | (with_reducible exact s _ _ _ _ _ _ _ _ _ _ _)
   | (with_reducible exact shutterref11_Next.mono _ _ _ _ _ _ _ _)
   | (with_reducible exact shutterref11_Open.mono _ _ _ _ _ _ _ _)
   | (with_reducible exact shutterref13_Reset.mono _ _ _ _ _ _ _ _)
   | (with_reducible exact LeO.refl _)
   | (with_reducible exact LeO.none _)
   | (with_reducible refine LeO.ite ?_ ?_)
   | (with_reducible refine LeO.bind ?_ (fun _ => ?_))
   | exact p _ _ _ _ _ _ _ _ _ _ _ _ _ _ _ _ _ _
   | exact q _ _ _ _ _ _ _ _ _ _ _ _ _
   | exact s _ _ _ _ _ _ _ _ _ _ _
   | exact shutterref11_Next.mono _ _ _ _ _ _ _ _
   | exact shutterref11_Open.mono _ _ _ _ _ _ _ _
   | exact shutterref13_Reset.mono _ _ _ _ _ _ _ _
   | exact LeO.none _
   | refine LeO.ite ?_ ?_
   | refine LeO.bind ?_ (fun _ => ?_)
  ·intro b c f g i j l m n o a d e
   unfold shutterref13_Do.l0
   repeat' first
   | (with_reducible exact p _ _ _ _ _ _ _ _ _ _ _ _ _ _ _ _ _ _)
   | (with_reducible exact q _ _ _ _ _ _ _ _ _ _ _ _ _)
   | (with_reducible exact s _ _ _ _ _ _ _ _ _ _ _)
   | (with_reducible exact shutterref11_Next.mono _ _ _ _ _ _ _ _)
   | (with_reducible exact shutterref11_Open.mono _ _ _ _ _ _ _ _)
   | (with_reducible exact shutterref13_Reset.mono _ _ _ _ _ _ _ _)
   | (with_reducible exact LeO.refl _)
   | (with_reducible exact LeO.none _)
   | (with_reducible refine LeO.ite ?_ ?_)
   | (with_reducible refine LeO.bind ?_ (fun _ => ?_))
   | exact p _ _ _ _ _ _ _ _ _ _ _ _ _ _ _ _ _ _
   | exact q _ _ _ _ _ _ _ _ _ _ _ _ _
   | exact s _ _ _ _ _ _ _ _ _ _ _
   | exact shutterref11_Next.mono _ _ _ _ _ _ _ _
   | exact shutterref11_Open.mono _ _ _ _ _ _ _ _
   | exact shutterref13_Reset.mono _ _ _ _ _ _ _ _
   | exact LeO.none _
   | refine LeO.ite ?_ ?_
   | refine LeO.bind ?_ (fun _ => ?_)
  ·intro b c f g i j l m n o a
   unfold shutterref13_Do.j2
   repeat' first
   | (with_reducible exact p _ _ _ _ _ _ _ _ _ _ _ _ _ _ _ _ _ _)
   | (with_reducible exact q _ _ _ _ _ _ _ _ _ _ _ _ _)
   | (with_reducible exact s _ _ _ _ _ _ _ _ _ _ _)
   | (with_reducible exact shutterref11_Next.mono _ _ _ _ _ _ _ _)
   | (with_reducible exact shutterref11_Open.mono _ _ _ _ _ _ _ _)
   | (with_reducible exact shutterref13_Reset.mono _ _ _ _ _ _ _ _)
   | (with_reducible exact LeO.refl _)
   | (with_reducible exact LeO.none _)
   | (with_reducible refine LeO.ite ?_ ?_)
   | (with_reducible refine LeO.bind ?_ (fun _ => ?_))
   | exact p _ _ _ _ _ _ _ _ _ _ _ _ _ _ _ _ _ _
   | exact q _ _ _ _ _ _ _ _ _ _ _ _ _
   | exact s _ _ _ _ _ _ _ _ _ _ _
   | exact shutterref11_Next.mono _ _ _ _ _ _ _ _
   | exact shutterref11_Open.mono _ _ _ _ _ _ _ _
   | exact shutterref13_Reset.mono _ _ _ _ _ _ _ _
   | exact LeO.none _
   | refine LeO.ite ?_ ?_
   | refine LeO.bind ?_ (fun _ => ?_)
theorem shutterref13_Do.mono : ∀ a0 a1 e g a4 h i j l m a k, LeO (shutterref13_Do.f k a0 a1 e g a4 h i j l m a) (shutterref13_Do.f (k + 1) a0 a1 e g a4 h i j l m a) := by
 intro a0 a1 e g a4 h i j l m a k
 obtain ⟨b, c, d⟩ := shutterref13_Do.mono_l k
 unfold shutterref13_Do.f
 repeat' first
   | (with_reducible exact b _ _ _ _ _ _ _ _ _ _ _ _ _ _ _ _ _ _)
   | (with_reducible exact c _ _ _ _ _ _ _ _ _ _ _ _ _)
   | (with_reducible exact d _ _ _ _ _ _ _ _ _ _ _)
   | (with_reducible exact shutterref11_Next.mono _ _ _ _ _ _ _ _)
   | (with_reducible exact shutterref11_Open.mono _ _ _ _ _ _ _ _)
   | (with_reducible exact shutterref13_Reset.mono _ _ _ _ _ _ _ _)
   | (with_reducible exact LeO.refl _)
   | (with_reducible exact LeO.none _)
   | (with_reducible refine LeO.ite ?_ ?_)
   | (with_reducible refine LeO.bind ?_ (fun _ => ?_))
   | exact b _ _ _ _ _ _ _ _ _ _ _ _ _ _ _ _ _ _
   | exact c _ _ _ _ _ _ _ _ _ _ _ _ _
   | exact d _ _ _ _ _ _ _ _ _ _ _
   | exact shutterref11_Next.mono _ _ _ _ _ _ _ _
   | exact shutterref11_Open.mono _ _ _ _ _ _ _ _
   | exact shutterref13_Reset.mono _ _ _ _ _ _ _ _
   | exact LeO.none _
   | refine LeO.ite ?_ ?_
   | refine LeO.bind ?_ (fun _ => ?_)
set_option maxHeartbeats 8000000 in
set_option maxRecDepth 100000 in
theorem shutterref13_Do.calls (k : Nat) (A : Int) (B : Int) (ap : Option Addr) (aq : Nat) (n : List (S35)) (D : Int) (E : Bool) (F : Bool) (y : Int) (ak : Bool) (al : Bool) (ah : Bool) (aC : Option Addr) (aE : Nat) (ag : List (S128)) (r1 : Int) (r2 : Int) (r3 : List (S35)) (r4 : Int) (r5 : Bool) (r6 : Bool) (w : World) (dX : Kd.C k35 w ap n.length n) (dT : n.length ≤ aq) (dY : Kd.C k128 w aC ag.length ag) (dU : ag.length ≤ aE) (h : shutterref13_Do.f k A B n D E F y ak al ah ag = some (r1, r2, r3, r4, r5, r6)) :
  Calls Tryd.prog 52 #[.agg #[.int .i64 A, .int .i64 B, .slice ap n.length aq, .int .i64 D, .bool E, .bool F], .agg #[.int .i64 y, .bool ak, .bool al, .bool ah, .slice aC ag.length aE]] w fun e w' => ∃ hc : Value, e = .returned (.agg #[.int .i64 r1, .int .i64 r2, hc, .int .i64 r4, .bool r5, .bool r6]) ∧ Kd.R k35 35 w' w.heap.size (fun _ => True) hc r3 ∧ Below w.heap.size w w' := by
 have j7 := Tryd.underlying24
 have j8 := Tryd.underlying75
 have aV := Z dX
 have aU := Z dT
 clear dX dT
 have h4 := Z dY
 have h3 := Z dU
 clear dY dU
 have HB := Z (Below.refl w.heap.size w)
 have H : ((shutterref10_Copy.f A B n D E F).bind fun aj => (if y = 242 then (shutterref13_Do.j0 k true A B n D E F y ak al ah ag aj.1 aj.2.1 aj.2.2.1 aj.2.2.2.1 aj.2.2.2.2.1 aj.2.2.2.2.2) else (shutterref13_Do.j0 k (y == 246) A B n D E F y ak al ah ag aj.1 aj.2.1 aj.2.2.1 aj.2.2.2.1 aj.2.2.2.2.1 aj.2.2.2.2.2))) = some (r1, r2, r3, r4, r5, r6) := h
 clear h
 replace H := Option.bind_eq_some_iff.mp H
 obtain ⟨⟨K, L, U, Y, M, O⟩, g0, H⟩ := H
 replace H : (if y = 242 then (shutterref13_Do.j0 k true A B n D E F y ak al ah ag K L U Y M O) else (shutterref13_Do.j0 k (y == 246) A B n D E F y ak al ah ag K L U Y M O)) = some (r1, r2, r3, r4, r5, r6) := H
 have A3 := Z g0
 clear g0
 have gx := Z H
 clear H
 go_enter Tryd.func52, Tryd.ntmps52
 go_upto_region 2 with (first | ((with_reducible refine gate_dst (N := 2) rfl ?_); refine bx_ 2 24 #[.int .i64 A, .int .i64 B, .slice ap n.length aq, .int .i64 D, .bool E, .bool F] ?_; intro av hg w5 hbox hb; have b := Z (hbox); have hx := Z (ln_ hg : w.heap.size ≤ av); have hs := Z (ln_ hg : w.heap.size ≤ av); replace HB := Z (below_step bl_ hb); clear hb hbox hg) | ((with_reducible refine gate_dst (N := 3) rfl ?_); refine bx_ 3 75 #[.int .i64 y, .bool ak, .bool al, .bool ah, .slice aC ag.length aE] ?_; intro aw hg w6 hbox hb; have i := Z (hbox); have hy := Z (ln_ hg : w.heap.size ≤ aw); have ht := Z (ln_ hg : w.heap.size ≤ aw); replace HB := Z (below_step bl_ hb); have G := Z (nl b.out hg); have I := Z (ng b.out hg); replace b := Z (kb b.out hb); clear hb hbox hg) | ((with_reducible refine gate_dst (N := 4) rfl ?_); refine bx_ 4 24 #[.int .i64 0, .int .i64 0, .slice none 0 0, .int .i64 0, .bool false, .bool false] ?_; intro s hg w7 hbox hb; have l := Z (hbox); have hz := Z (ln_ hg : w.heap.size ≤ s); have hu := Z (ln_ hg : w.heap.size ≤ s); replace HB := Z (below_step bl_ hb); have ab := Z (nl b.out hg); have ad := Z (ng b.out hg); replace b := Z (kb b.out hb); have ac := Z (nl i.out hg); have ae := Z (ng i.out hg); replace i := Z (kb i.out hb); clear hb hbox hg; have j3 := G.out; have j5 := I.out; have j4 := ab.out; have j6 := ad.out; obtain ⟨a1, a2, a3, a4, a5, a6, bn, bo, bp, bq, br, bs⟩ := cells6 b.out) | ((with_reducible refine gate_callee (f := 23) rfl ?_); refine goesL_ (some 10) rfl rfl Tryd.func23 (by kernel_rfl) rfl #[.agg #[.int .i64 A, .int .i64 B, .slice ap n.length aq, .int .i64 D, .bool E, .bool F]] rfl ag_ ?_; (with_reducible refine (shutterref10_Copy.calls A B _ _ n D E F K L U Y M O _ ?side1 ?side2 A3.out).mono ?_); (case side1 => repeat (first | exact (Kd.C_below aV.out HB.out) | (with_reducible apply pC))); (case side2 => exact aU.out); rintro e kM ⟨jK, rfl, cT, hb⟩; refine ⟨_, rfl, ?_⟩; have aA := Z (Kd.R_lower cT (below_size bl_)); replace b := Z (kb b.out hb); replace i := Z (kb i.out hb); replace l := Z (kb l.out hb); replace HB := Z (below_step bl_ hb); (try clear hb); (try clear dh); (try clear hk); (try clear hi); (try clear cT)) | ((with_reducible refine gate_dst (N := 5) rfl ?_); refine bx_ 5 24 #[.int .i64 0, .int .i64 0, .slice none 0 0, .int .i64 0, .bool false, .bool false] ?_; intro m hg kN hbox hb; replace aA := Z (rb aA.out hb); have d := Z (hbox); have hA := Z (ln_ hg : w.heap.size ≤ m); have hv := Z (ln_ hg : w.heap.size ≤ m); replace HB := Z (below_step bl_ hb); have x := Z (nl b.out hg); have V := Z (ng b.out hg); replace b := Z (kb b.out hb); have q := Z (nl i.out hg); have J := Z (ng i.out hg); replace i := Z (kb i.out hb); have r := Z (nl l.out hg); have af := Z (ng l.out hg); replace l := Z (kb l.out hb); clear hb hbox hg; have h5 := V.out; have iO := x.out; have h6 := J.out; have iP := q.out; have h7 := af.out; have iQ := r.out; obtain ⟨a7, a8, a9, ba, bb, bc, bt, bu, bv, bw, bx, bz⟩ := cells6 d.out; obtain ⟨aD, aF, hf⟩ := Kd.R_slice aA.out; subst hf))
 (try simp only [Act.put, sA, sB, sC])
 go_cut [18] (fun h2 wc => ∃ (kq : Nat) (bM : Bool), h2 = .bool bM ∧ Aside0 (shutterref13_Do.j0 kq bM A B n D E F y ak al ah ag K L U Y M O = some (r1, r2, r3, r4, r5, r6)) ∧ Aside0 (kq ≤ k) ∧ Aside0 (Kd.R k35 35 wc w.heap.size (fun _ => True) (.slice aD U.length aF) U) ∧ Aside0 (wc.heap[av]? = some (.cells #[.int .i64 A, .int .i64 B, (.slice ap n.length aq), .int .i64 D, .bool E, .bool F] 24 (0, 0))) ∧ Aside0 (wc.heap[aw]? = some (.cells #[.int .i64 y, .bool ak, .bool al, .bool ah, (.slice aC ag.length aE)] 75 (0, 0))) ∧ Aside0 (wc.heap[s]? = some (.cells #[.int .i64 0, .int .i64 0, (.slice none 0 0), .int .i64 0, .bool false, .bool false] 24 (0, 0))) ∧ Aside0 (wc.heap[m]? = some (.cells #[.int .i64 K, .int .i64 L, (.slice aD U.length aF), .int .i64 Y, .bool M, .bool O] 24 (0, 0))) ∧ Aside0 (Below w.heap.size w wc))
 case first =>
  have H := gx.out
  clear gx
  by_cases aS : y = 242
  ·rw [if_pos aS] at H
   have ay : (y == 242) = true := beq_iff_eq.mpr aS
   have bL : (y != 242) = false := bne_eq_false_iff_eq.mpr aS
   clear aS
   (first | rw [ay] | (simp only [i64_w, i32_w]; rw [ay]) | skip)
   have H' := Z H
   clear H
   have h8 := I.out
   have iR := G.out
   have h9 := ac.out
   have iS := ae.out
   have ia := q.out
   have iT := J.out
   obtain ⟨bd, be, bf, bg, bh, bA, bB, bC, bD, bE⟩ := cells5 i.out
   go_wp2
   go_meet
   case rel => exact ⟨_, (true), (dn_), H', ⟨by first | omega | exact Nat.le_refl _⟩, ⟨by (with_reducible repeat apply pR); exact Kd.R_mono (f6R m (Kd.R_types aA.out d.out (by decide)) (fun _ hk => hk.2)) (fun _ hk => trivial)⟩, ⟨blk_off b.out x.out off2_⟩, ⟨blk_off i.out q.out off2_⟩, ⟨blk_off l.out r.out off2_⟩, ⟨put6 d.out⟩, ⟨bl_⟩⟩
  ·rw [if_neg aS] at H
   have ay : (y == 242) = false := beq_eq_false_iff_ne.mpr aS
   have bL : (y != 242) = true := bne_iff_ne.mpr aS
   (first | rw [ay] | (simp only [i64_w, i32_w]; rw [ay]) | skip)
   have H' := Z H
   clear H
   have ib := I.out
   have iU := G.out
   have ic := ac.out
   have iV := ae.out
   have id := q.out
   have iW := J.out
   obtain ⟨bi, bj, bk, bl, bm, bF, bG, bH, bI, bJ⟩ := cells5 i.out
   go_wp2
   go_meet
   case rel => exact ⟨_, ((y == 246)), (dn_), H', ⟨by first | omega | exact Nat.le_refl _⟩, ⟨by (with_reducible repeat apply pR); exact Kd.R_mono (f6R m (Kd.R_types aA.out d.out (by decide)) (fun _ hk => hk.2)) (fun _ hk => trivial)⟩, ⟨blk_off b.out x.out off2_⟩, ⟨blk_off i.out q.out off2_⟩, ⟨blk_off l.out r.out off2_⟩, ⟨put6 d.out⟩, ⟨bl_⟩⟩
 case rest =>
  clear gx
  try clear c1
  try clear c2
  try clear p2
  try clear c5
  try clear c8
  try clear c9
  try clear g3
  try clear g4
  try clear g5
  try clear aS
  try clear ay
  try clear bL
  try clear g6
  try clear g7
  try clear g8
  try clear g9
  try clear c24
  try clear ha
  try clear a1
  try clear a2
  try clear a3
  try clear a4
  try clear a5
  try clear a6
  try clear a7
  try clear a8
  try clear a9
  try clear ba
  try clear bb
  try clear bc
  try clear bd
  try clear be
  try clear bf
  try clear bg
  try clear bh
  try clear bi
  try clear bj
  try clear bk
  try clear bl
  try clear bm
  try clear bn
  try clear bo
  try clear bp
  try clear bq
  try clear br
  try clear bs
  try clear bt
  try clear bu
  try clear bv
  try clear bw
  try clear bx
  try clear bz
  try clear bA
  try clear bB
  try clear bC
  try clear bD
  try clear bE
  try clear bF
  try clear bG
  try clear bH
  try clear bI
  try clear bJ
  obtain ⟨kq, bM, rfl, HA, bU, HO_1020002, b, i, l, d, HB⟩ := hcut
  cases kq with
  | zero => exact absurd HA.out (by simp [shutterref13_Do.j0])
  | succ aT =>
   have H := HA.out
   clear HA
   simp only [shutterref13_Do.j0] at H
   by_cases bV : bM = true
   ·subst bV
    have H1 : (some (K, L, U, Y, M, O)) = some (r1, r2, r3, r4, r5, r6) := by rw [if_pos rfl] at H; exact H
    clear H
    have H := H1
    clear H1
    simp only [Option.some.injEq, Prod.mk.injEq] at H
    obtain ⟨rfl, rfl, rfl, rfl, rfl, rfl⟩ := H
    have ie := V.out
    have iX := x.out
    have ig := J.out
    have iY := q.out
    have ih := af.out
    have iZ := r.out
    obtain ⟨bW, bX, bY, bZ, b0, b1, cp, cq, cr, ct, cu, cv⟩ := cells6 d.out
    have ii := ad.out
    have ja := ab.out
    have ij := ae.out
    have jb := ac.out
    obtain ⟨b2, b3, b4, b5, b6, b7, cw, cx, cy, cz, cA, cB⟩ := cells6 l.out
    go_wp2
    refine bodyPost_ret (results_cell_row rfl _ _ s 24 #[.int .i64 K, .int .i64 L, .slice aD U.length aF, .int .i64 Y, .bool M, .bool O] (0, 0) _ rfl (put6 l.out) Tryd.underlying24 rfl (by kernel_rfl)) rfl ?_
    exact ⟨_, er_, by (with_reducible repeat apply pR); exact Kd.R_mono (f6R s (Kd.R_types HO_1020002.out l.out (by decide)) (fun _ hk => hk.2)) (fun _ hk => trivial), bl_⟩
   ·replace bV := Bool.eq_false_iff.mpr bV
    subst bV
    have H1 : (if y = 111 then ((shutterref13_Reset.f aT K L U Y M O false).bind fun aB => (shutterref13_Do.l0 aT 0 A B n D E F aB.1 aB.2.1 aB.2.2.1 aB.2.2.2.1 aB.2.2.2.2.1 aB.2.2.2.2.2)) else (if y = 245 then (if 0 ≤ (n.length : Int) then (if ((n.length : Int) : Int).toNat ≤ 7036874417766 then (shutterref13_Do.j2 aT y ak al ah ag K L (List.replicate ((n.length : Int) : Int).toNat z35) 0 M O) else (none)) else (none)) else (shutterref13_Do.j2 aT y ak al ah ag K L U Y M O))) = some (r1, r2, r3, r4, r5, r6) := by rw [if_neg (show ¬ (false = true) by decide)] at H; exact H
    clear H
    have H := H1
    clear H1
    by_cases aW : y = 111
    ·rw [if_pos aW] at H
     have cW : (y == 111) = true := beq_iff_eq.mpr aW
     have cX : (y != 111) = false := bne_eq_false_iff_eq.mpr aW
     clear aW
     replace H := Option.bind_eq_some_iff.mp H
     obtain ⟨⟨u, z, aX, aa, an, ai⟩, gt, H⟩ := H
     replace H : (shutterref13_Do.l0 aT 0 A B n D E F u z aX aa an ai) = some (r1, r2, r3, r4, r5, r6) := H
     have hq := Z gt
     clear gt
     have H' := Z H
     clear H
     have ik := I.out
     have jc := G.out
     have il := ac.out
     have jd := ae.out
     have im := q.out
     have je := J.out
     obtain ⟨b8, b9, ca, cb, cc, cC, cD, cE, cF, cG⟩ := cells5 i.out
     have io := V.out
     have jf := x.out
     have ip := af.out
     have jg := r.out
     obtain ⟨cd, ce, cf, cg, ch, ci, cH, cI, cJ, cK, cL, cM⟩ := cells6 d.out
     go_wp2_with (first | ((with_reducible refine gate_callee (f := 76) rfl ?_); refine goesL_ (some 24) rfl rfl Tryd.func76 (by kernel_rfl) rfl #[.agg #[.int .i64 K, .int .i64 L, .slice aD U.length aF, .int .i64 Y, .bool M, .bool O], .bool false] rfl ag_ ?_; (with_reducible refine (shutterref13_Reset.calls aT K L _ _ U Y M O false u z aX aa an ai _ ?side1 ?side2 hq.out).mono ?_); (case side1 => repeat (first | exact (Kd.R_reads' HO_1020002.out).2.2 | (with_reducible apply pC))); (case side2 => exact (Kd.R_reads' HO_1020002.out).2.1); rintro e kO ⟨jL, rfl, cT, hb⟩; refine ⟨_, rfl, ?_⟩; have db := Z (Kd.R_lower (Kd.R_new' cT (Kd.R_lt (by (with_reducible repeat apply pR); exact HO_1020002.out))) (below_size bl_)); replace HO_1020002 := Z (Kd.R_elder' (by (with_reducible repeat apply pR); exact HO_1020002.out) (Kd.R_base cT) hb); replace b := Z (kb b.out hb); replace i := Z (kb i.out hb); replace l := Z (kb l.out hb); replace d := Z (kb d.out hb); replace HB := Z (below_step bl_ hb); (try clear hb); (try clear dh); (try clear hk); (try clear hi); (try clear cT); obtain ⟨cj, ck, cl, cm, cn, co, cN, cO, cP, cQ, cR, cS⟩ := cells6 d.out; obtain ⟨gw, gF, hh⟩ := Kd.R_slice db.out; subst hh))
     go_loopg [6] aT (fun kq v6 w' => ∃ (c : Int) (a : List (S35)) (u1020002 : Value), v6 = .int .i64 c ∧ Aside0 (shutterref13_Do.l0 kq c A B n D E F u z a aa an ai = some (r1, r2, r3, r4, r5, r6)) ∧ Aside0 (kq ≤ aT) ∧ Aside0 (Kd.R k35 35 w' w.heap.size (fun _ => True) u1020002 a) ∧ Aside0 (w'.heap[av]? = some (.cells #[.int .i64 A, .int .i64 B, (.slice ap n.length aq), .int .i64 D, .bool E, .bool F] 24 (0, 0))) ∧ Aside0 (w'.heap[aw]? = some (.cells #[.int .i64 y, .bool ak, .bool al, .bool ah, (.slice aC ag.length aE)] 75 (0, 0))) ∧ Aside0 (w'.heap[s]? = some (.cells #[.int .i64 0, .int .i64 0, (.slice none 0 0), .int .i64 0, .bool false, .bool false] 24 (0, 0))) ∧ Aside0 (w'.heap[m]? = some (.cells #[.int .i64 u, .int .i64 z, u1020002, .int .i64 aa, .bool an, .bool ai] 24 (0, 0))) ∧ Aside0 (Below w.heap.size w w'))
     case atStart => exact ⟨(0), (aX), (.slice gw aX.length gF), (dn_), H', ⟨Nat.le_refl _⟩, ⟨by (with_reducible repeat apply pR); exact Kd.R_mono (f6R m (Kd.R_types db.out d.out (by decide)) (fun _ hk => hk.2)) (fun _ hk => trivial)⟩, ⟨blk_off b.out x.out off2_⟩, ⟨blk_off i.out q.out off2_⟩, ⟨blk_off l.out r.out off2_⟩, ⟨put6 d.out⟩, ⟨bl_⟩⟩
     case round =>
      clear H'
      try clear c1
      try clear c2
      try clear p2
      try clear c3
      try clear c4
      try clear c5
      try clear c7
      try clear c8
      try clear c9
      try clear g3
      try clear g4
      try clear g5
      try clear aS
      try clear ay
      try clear bL
      try clear g6
      try clear g7
      try clear g8
      try clear g9
      try clear c24
      try clear ha
      try clear bV
      try clear hC
      try clear hD
      try clear hE
      try clear hF
      try clear hG
      try clear aW
      try clear cW
      try clear cX
      try clear hH
      try clear hI
      try clear hJ
      try clear hK
      try clear hL
      try clear a1
      try clear a2
      try clear a3
      try clear a4
      try clear a5
      try clear a6
      try clear a7
      try clear a8
      try clear a9
      try clear ba
      try clear bb
      try clear bc
      try clear bd
      try clear be
      try clear bf
      try clear bg
      try clear bh
      try clear bi
      try clear bj
      try clear bk
      try clear bl
      try clear bm
      try clear bW
      try clear bX
      try clear bY
      try clear bZ
      try clear b0
      try clear b1
      try clear b2
      try clear b3
      try clear b4
      try clear b5
      try clear b6
      try clear b7
      try clear b8
      try clear b9
      try clear ca
      try clear cb
      try clear cc
      try clear cd
      try clear ce
      try clear cf
      try clear cg
      try clear ch
      try clear ci
      try clear cj
      try clear ck
      try clear cl
      try clear cm
      try clear cn
      try clear co
      try clear bn
      try clear bo
      try clear bp
      try clear bq
      try clear br
      try clear bs
      try clear bt
      try clear bu
      try clear bv
      try clear bw
      try clear bx
      try clear bz
      try clear bA
      try clear bB
      try clear bC
      try clear bD
      try clear bE
      try clear bF
      try clear bG
      try clear bH
      try clear bI
      try clear bJ
      try clear cp
      try clear cq
      try clear cr
      try clear ct
      try clear cu
      try clear cv
      try clear cw
      try clear cx
      try clear cy
      try clear cz
      try clear cA
      try clear cB
      try clear cC
      try clear cD
      try clear cE
      try clear cF
      try clear cG
      try clear cH
      try clear cI
      try clear cJ
      try clear cK
      try clear cL
      try clear cM
      try clear cN
      try clear cO
      try clear cP
      try clear cQ
      try clear cR
      try clear cS
      try clear p2
      obtain ⟨c, a, u1020002, rfl, HA, dP, HO_1020002, b, i, l, d, HB⟩ := hrel
      cases gk with
      | zero => exact absurd HA.out (by simp [shutterref13_Do.l0])
      | succ k2 =>
       have H := HA.out
       clear HA
       simp only [shutterref13_Do.l0] at H
       by_cases bQ : c < (n.length : Int)
       ·rw [if_pos bQ] at H
        have dQ : decide (c < (n.length : Int)) = true := decide_eq_true bQ
        clear bQ
        replace H := Option.bind_eq_some_iff.mp H
        obtain ⟨dZ, gu, H⟩ := H
        replace H : (if dZ = true then (if 0 ≤ c then (if c < (a.length : Int) then (shutterref13_Do.l0 k2 (wrap64 (c + 1)) A B n D E F u z (a.set (c : Int).toNat (⟨(rd_T35 a c).f0, (⟨(rd_T35 a c).f1.f0, (rd_T35 a c).f1.f1, (rd_T35 a c).f1.f2, (rd_T35 a c).f1.f3⟩ : S33), 0⟩ : S35)) aa an ai) else (none)) else (none)) else (shutterref13_Do.l0 k2 (wrap64 (c + 1)) A B n D E F u z a aa an ai)) = some (r1, r2, r3, r4, r5, r6) := H
        have g1 := Z gu
        clear gu
        by_cases de : dZ = true
        ·subst de
         have H1 : (if 0 ≤ c then (if c < (a.length : Int) then (shutterref13_Do.l0 k2 (wrap64 (c + 1)) A B n D E F u z (a.set (c : Int).toNat (⟨(rd_T35 a c).f0, (⟨(rd_T35 a c).f1.f0, (rd_T35 a c).f1.f1, (rd_T35 a c).f1.f2, (rd_T35 a c).f1.f3⟩ : S33), 0⟩ : S35)) aa an ai) else (none)) else (none)) = some (r1, r2, r3, r4, r5, r6) := by rw [if_pos rfl] at H; exact H
         clear H
         have H := H1
         clear H1
         by_cases df : 0 ≤ c
         ·rw [if_pos df] at H
          have gW : decide (0 ≤ c) = true := decide_eq_true df
          clear df
          by_cases dg : c < (a.length : Int)
          ·rw [if_pos dg] at H
           have gX : decide (c < (a.length : Int)) = true := decide_eq_true dg
           clear dg
           obtain ⟨da, aO⟩ : ∃ y_ : List (S35), y_ = (a.set (c : Int).toNat (⟨(rd_T35 a c).f0, (⟨(rd_T35 a c).f1.f0, (rd_T35 a c).f1.f1, (rd_T35 a c).f1.f2, (rd_T35 a c).f1.f3⟩ : S33), 0⟩ : S35)) := ⟨_, rfl⟩
           replace H : (shutterref13_Do.l0 k2 (wrap64 (c + 1)) A B n D E F u z da aa an ai) = some (r1, r2, r3, r4, r5, r6) := by first | (rw [aO]; with_reducible exact H) | (have bP := (Option.bind_some _ _).symm.trans H; rw [aO]; with_reducible exact bP) | (have bP := (Option.bind_some _ _).symm.trans H; with_reducible exact bP) | with_reducible exact H | (rw [aO]; exact H) | exact H
           have gA := Z aO
           clear aO
           have H' := Z H
           clear H
           have iq := G.out
           have jh := I.out
           have ir := ab.out
           have ji := ad.out
           have it := x.out
           have jj := V.out
           obtain ⟨d0, d1, d2, d3, d4, d5, e9, fa, fb, fc, fd, fe⟩ := cells6 b.out
           go_wp2_with (first | ((with_reducible refine gate_callee (f := 22) rfl ?_); refine goesL_ (some 34) rfl rfl Tryd.func22 (by kernel_rfl) rfl #[.agg #[.int .i64 A, .int .i64 B, .slice ap n.length aq, .int .i64 D, .bool E, .bool F], .int .i64 c] rfl ag_ ?_; (with_reducible refine (shutterref11_Open.calls k2 A B _ _ n D E F c true _ ?side1 ?side2 g1.out).mono ?_); (case side1 => repeat (first | exact (Kd.C_below aV.out HB.out) | (with_reducible apply pC))); (case side2 => exact aU.out); rintro e ax ⟨rfl, hb⟩; refine ⟨_, rfl, ?_⟩; replace HO_1020002 := Z (rb HO_1020002.out hb); replace b := Z (kb b.out hb); replace i := Z (kb i.out hb); replace l := Z (kb l.out hb); replace d := Z (kb d.out hb); replace HB := Z (below_step bl_ hb); (try clear hb); (try clear dh); (try clear hk); (try clear hi); have iu := J.out; have jk := q.out; have iv := af.out; have jl := r.out; obtain ⟨d6, d7, d8, d9, ea, eb, ff, fg, fh, fi, fj, fk⟩ := cells6 d.out; have p52 : 0 ≤ (c : Int) := od_; have dm : (c : Int) < ((a.length : Int) : Int) := od_; obtain ⟨am, cZ, gG, gH, hm, jY, gy⟩ := Kd.R_form HO_1020002.out (by omega); (first | cases gG | (injection gG with ea_ en_ ec_; (first | subst ea_ | (injection ea_ with ea_; subst ea_)); subst ec_; clear en_)); have he := Z gH; have jP := Z gy; clear gH hm gy; obtain ⟨jW, gZ, gI, aG, aH⟩ := Kd.R_elem HO_1020002.out z35 (c : Int) p52 dm; obtain rfl := k35_openM gI; have gL : ax.cell? ⟨am, (c : Int).toNat * 6, none⟩ = some (.bool ((rd_T35 a c).f0)) := aG 0 _ rfl; have gM : ax.cell? ⟨am, (c : Int).toNat * 6 + 1, none⟩ = some (.bool ((rd_T35 a c).f1.f0)) := aG 1 _ rfl; have gN : ax.cell? ⟨am, (c : Int).toNat * 6 + 2, none⟩ = some (.bool ((rd_T35 a c).f1.f1)) := aG 2 _ rfl; have gO : ax.cell? ⟨am, (c : Int).toNat * 6 + 3, none⟩ = some (.int .i64 ((rd_T35 a c).f1.f2)) := aG 3 _ rfl; have gP : ax.cell? ⟨am, (c : Int).toNat * 6 + 4, none⟩ = some (.bool ((rd_T35 a c).f1.f3)) := aG 4 _ rfl; have gQ : ax.cell? ⟨am, (c : Int).toNat * 6 + 5, none⟩ = some (.int .u8 ((rd_T35 a c).f2)) := aG 5 _ rfl; have hM : ax.frozen? ⟨am, (c : Int).toNat * 6, none⟩ = false := aH 0; have hN : ax.frozen? ⟨am, (c : Int).toNat * 6 + 1, none⟩ = false := aH 1; have hO : ax.frozen? ⟨am, (c : Int).toNat * 6 + 2, none⟩ = false := aH 2; have hP : ax.frozen? ⟨am, (c : Int).toNat * 6 + 3, none⟩ = false := aH 3; have hQ : ax.frozen? ⟨am, (c : Int).toNat * 6 + 4, none⟩ = false := aH 4; have hR : ax.frozen? ⟨am, (c : Int).toNat * 6 + 5, none⟩ = false := aH 5; clear gZ aG aH gI; replace p52 := eq_true p52; replace dm := eq_true dm; have gz := Z (show Kd.R k35 35 ax w.heap.size (fun _ => True) (.slice (some ⟨am, 0, none⟩) a.length cZ) a from (by (with_reducible repeat apply pR); exact HO_1020002.out)); obtain ⟨jX, dV, gJ, c0, dW⟩ := Kd.R_elem gz.out z35 (c : Int) (od_) (by have h_ : (c : Int) < ((a.length : Int) : Int) := od_; first | exact h_ | (have e_ := (Kd.R_reads' HO_1020002.out).1; omega) | simpa using h_); obtain rfl := k35_openM gJ; have dp := Kd.R_seg gz.out (c : Int) (od_) (by have h_ : (c : Int) < ((a.length : Int) : Int) := od_; first | exact h_ | (have e_ := (Kd.R_reads' HO_1020002.out).1; omega) | simpa using h_) (seg := [.int .u8 0]) (j := 5) dV c0 (show 6 ≤ 6 from by decide) (x' := (⟨(rd_T35 a c).f0, (⟨(rd_T35 a c).f1.f0, (rd_T35 a c).f1.f1, (rd_T35 a c).f1.f2, (rd_T35 a c).f1.f3⟩ : S33), 0⟩ : S35)) (k35_mkM _ _ _ (⟨(rd_T35 a c).f0, (⟨(rd_T35 a c).f1.f0, (rd_T35 a c).f1.f1, (rd_T35 a c).f1.f2, (rd_T35 a c).f1.f3⟩ : S33), 0⟩ : S35) ) (fun _ hk => hk); have di := c0 5 _ rfl; (try simp only [show (k35).sz = 6 from rfl, Nat.mul_one, Nat.add_zero] at di); have gK := dW 5; (try simp only [show (k35).sz = 6 from rfl, Nat.mul_one, Nat.add_zero] at gK); clear dV c0 dW gJ) | ((with_reducible refine gate_store (t := 5) (p := 39) rfl ?_); refine sx_ 5 39 (ax.setCell ⟨am, (c : Int).toNat * 6 + 5, none⟩ (.int .u8 0)) ?_; intro gV hw; have hg : ax.grownBy gV (some am) := (by rw [hw]; exact dp.2); have hp_ : Kd.R k35 35 gV w.heap.size (fun _ => True) (.slice (some ⟨am, 0, none⟩) a.length cZ) da := (by rw [hw, gA.out]; exact dp.1); clear dp; replace b := Z (blk_grown (g := av) (o := .cells #[.int .i64 A, .int .i64 B, .slice ap n.length aq, .int .i64 D, .bool E, .bool F] 24 (0, 0)) (vK b.out) hg (Kd.R_ne HO_1020002.out b.out (by decide))); replace i := Z (blk_grown (g := aw) (o := .cells #[.int .i64 y, .bool ak, .bool al, .bool ah, .slice aC ag.length aE] 75 (0, 0)) (vK i.out) hg (Kd.R_ne HO_1020002.out i.out (by decide))); replace l := Z (blk_grown (g := s) (o := .cells #[.int .i64 0, .int .i64 0, .slice none 0 0, .int .i64 0, .bool false, .bool false] 24 (0, 0)) (vK l.out) hg (Kd.R_ne HO_1020002.out l.out (by decide))); replace d := Z (blk_grown (g := m) (o := .cells #[.int .i64 u, .int .i64 z, .slice (some ⟨am, 0, none⟩) a.length cZ, .int .i64 aa, .bool an, .bool ai] 24 (0, 0)) (vK d.out) hg (Kd.R_ne HO_1020002.out d.out (by decide))); replace HO_1020002 := Z (hp_); replace HB := Z ((by rw [hw]; exact below_set (HB.out) he.out : Below w.heap.size w gV)); clear hg hw hp_))
           go_roundg k2
           case measure => have := bU.out; have := dP.out; omega
           case rel => exact ⟨(wrap64 (c + 1)), (da), (.slice (some ⟨am, 0, none⟩) a.length cZ), (dn_), H', ⟨by have := bU.out; have := dP.out; omega⟩, ⟨by (with_reducible repeat apply pR); exact HO_1020002.out⟩, ⟨vK b.out⟩, ⟨vK i.out⟩, ⟨vK l.out⟩, ⟨vK d.out⟩, ⟨bl_⟩⟩
          ·rw [if_neg dg] at H
           exact absurd H (by simp)
         ·rw [if_neg df] at H
          exact absurd H (by simp)
        ·replace de := Bool.eq_false_iff.mpr de
         subst de
         have H1 : (shutterref13_Do.l0 k2 (wrap64 (c + 1)) A B n D E F u z a aa an ai) = some (r1, r2, r3, r4, r5, r6) := by rw [if_neg (show ¬ (false = true) by decide)] at H; exact H
         clear H
         have H := H1
         clear H1
         have H' := Z H
         clear H
         have iw := G.out
         have jm := I.out
         have ix := ab.out
         have jn := ad.out
         have iy := x.out
         have jo := V.out
         obtain ⟨ec, ed, ee, ef, eg, eh, fl, fm, fn, fo, fp, fq⟩ := cells6 b.out
         go_wp2_with (first | ((with_reducible refine gate_callee (f := 22) rfl ?_); refine goesL_ (some 34) rfl rfl Tryd.func22 (by kernel_rfl) rfl #[.agg #[.int .i64 A, .int .i64 B, .slice ap n.length aq, .int .i64 D, .bool E, .bool F], .int .i64 c] rfl ag_ ?_; (with_reducible refine (shutterref11_Open.calls k2 A B _ _ n D E F c false _ ?side1 ?side2 g1.out).mono ?_); (case side1 => repeat (first | exact (Kd.C_below aV.out HB.out) | (with_reducible apply pC))); (case side2 => exact aU.out); rintro e kP ⟨rfl, hb⟩; refine ⟨_, rfl, ?_⟩; replace HO_1020002 := Z (rb HO_1020002.out hb); replace b := Z (kb b.out hb); replace i := Z (kb i.out hb); replace l := Z (kb l.out hb); replace d := Z (kb d.out hb); replace HB := Z (below_step bl_ hb); (try clear hb); (try clear dh); (try clear hk); (try clear hi)))
         go_roundg k2
         case measure => have := bU.out; have := dP.out; omega
         case rel => exact ⟨(wrap64 (c + 1)), (a), (u1020002), (dn_), H', ⟨by have := bU.out; have := dP.out; omega⟩, ⟨by (with_reducible repeat apply pR); exact HO_1020002.out⟩, ⟨vK b.out⟩, ⟨vK i.out⟩, ⟨vK l.out⟩, ⟨vK d.out⟩, ⟨bl_⟩⟩
       ·rw [if_neg bQ] at H
        have dQ : decide (c < (n.length : Int)) = false := decide_eq_false bQ
        clear bQ
        replace H := Option.bind_eq_some_iff.mp H
        obtain ⟨ao, gv, H⟩ := H
        replace H : (if ao < 0 then (some (u, z, a, 0, false, false)) else (some (u, z, a, ao, false, false))) = some (r1, r2, r3, r4, r5, r6) := H
        have g2 := Z gv
        clear gv
        by_cases bR : ao < 0
        ·rw [if_pos bR] at H
         have dR : decide (ao < 0) = true := decide_eq_true bR
         clear bR
         simp only [Option.some.injEq, Prod.mk.injEq] at H
         obtain ⟨rfl, rfl, rfl, rfl, rfl, rfl⟩ := H
         have iz := G.out
         have jp := I.out
         have iA := ab.out
         have jq := ad.out
         have iB := x.out
         have jr := V.out
         obtain ⟨ei, ej, ek, el, em, en, fr, fs, ft, fu, fv, fw⟩ := cells6 b.out
         have iC := J.out
         have js := q.out
         have iD := af.out
         have jt := r.out
         obtain ⟨eo, ep, eq, er, es, et, fx, fy, fz, fA, fB, fC⟩ := cells6 d.out
         go_wp2_with (first | ((with_reducible refine gate_callee (f := 60) rfl ?_); refine goesL_ (some 47) rfl rfl Tryd.func60 (by kernel_rfl) rfl #[.agg #[.int .i64 A, .int .i64 B, .slice ap n.length aq, .int .i64 D, .bool E, .bool F], .int .i64 (wrap64 ((n.length : Int) - 1))] rfl ag_ ?_; (with_reducible refine (shutterref11_Next.calls k2 A B _ _ n D E F (wrap64 ((n.length : Int) - 1)) ao _ ?side1 ?side2 g2.out).mono ?_); (case side1 => exact Kd.C_below aV.out bl_); (case side2 => exact aU.out); rintro e kQ ⟨rfl, hb⟩; refine ⟨_, rfl, ?_⟩; replace HO_1020002 := Z (Kd.R_below (by (with_reducible repeat apply pR); exact (Kd.R_mono (Kd.R_far (p := ⟨m, 5, none⟩) (Kd.R_far (p := ⟨m, 4, none⟩) (Kd.R_types HO_1020002.out d.out (by decide)) (fun _ hk => hk.2) (.bool false)) (fun _ hk => hk.2) (.bool false)) (fun _ h_ => h_.1))) hb); replace b := Z (blk_below (g := av) (o := .cells #[.int .i64 A, .int .i64 B, .slice ap n.length aq, .int .i64 D, .bool E, .bool F] 24 (0, 0)) (blk_off b.out x.out off2_) hb); replace i := Z (blk_below (g := aw) (o := .cells #[.int .i64 y, .bool ak, .bool al, .bool ah, .slice aC ag.length aE] 75 (0, 0)) (blk_off i.out q.out off2_) hb); replace l := Z (blk_below (g := s) (o := .cells #[.int .i64 0, .int .i64 0, .slice none 0 0, .int .i64 0, .bool false, .bool false] 24 (0, 0)) (blk_off l.out r.out off2_) hb); replace d := Z (blk_below (g := m) (o := .cells #[.int .i64 u, .int .i64 z, u1020002, .int .i64 aa, .bool false, .bool false] 24 (0, 0)) (by (with_reducible repeat apply pK); refine blk_put (cs := #[.int .i64 u, .int .i64 z, u1020002, .int .i64 aa, .bool false, .bool ai]) ?_ 5 _ rfl; (with_reducible repeat apply pK); refine blk_put (cs := #[.int .i64 u, .int .i64 z, u1020002, .int .i64 aa, .bool an, .bool ai]) ?_ 4 _ rfl; (with_reducible repeat apply pK); exact d.out) hb); replace HB := Z (below_step bl_ hb); (try clear hb); (try clear dh); (try clear hk); (try clear hi); obtain ⟨eu, ev, ew, ex, ey, ez, fD, fE, fF, fG, fH, fI⟩ := cells6 d.out; have iE := ae.out; have ju := ac.out; obtain ⟨eA, eB, eC, eD, eE, eF, fJ, fK, fL, fM, fN, fO⟩ := cells6 l.out; obtain ⟨bN, bS, hj⟩ := Kd.R_slice HO_1020002.out; subst hj))
         refine bodyPost_ret (results_cell_row rfl _ _ s 24 #[.int .i64 u, .int .i64 z, .slice bN a.length bS, .int .i64 0, .bool false, .bool false] (0, 0) _ rfl (by (with_reducible repeat apply pK); refine blk_put (cs := #[.int .i64 u, .int .i64 z, .slice bN a.length bS, .int .i64 0, .bool false, .bool false]) ?_ 5 _ rfl; (with_reducible repeat apply pK); refine blk_put (cs := #[.int .i64 u, .int .i64 z, .slice bN a.length bS, .int .i64 0, .bool false, .bool false]) ?_ 4 _ rfl; (with_reducible repeat apply pK); refine blk_put (cs := #[.int .i64 u, .int .i64 z, .slice bN a.length bS, .int .i64 0, .bool false, .bool false]) ?_ 3 _ rfl; (with_reducible repeat apply pK); refine blk_put (cs := #[.int .i64 u, .int .i64 z, .slice none 0 0, .int .i64 0, .bool false, .bool false]) ?_ 2 _ rfl; (with_reducible repeat apply pK); refine blk_put (cs := #[.int .i64 u, .int .i64 0, .slice none 0 0, .int .i64 0, .bool false, .bool false]) ?_ 1 _ rfl; (with_reducible repeat apply pK); refine blk_put (cs := #[.int .i64 0, .int .i64 0, .slice none 0 0, .int .i64 0, .bool false, .bool false]) ?_ 0 _ rfl; (with_reducible repeat apply pK); refine blk_far ?_ r.out _; (with_reducible repeat apply pK); refine blk_far ?_ r.out _; (with_reducible repeat apply pK); exact l.out) Tryd.underlying24 rfl (by kernel_rfl)) rfl ?_
         exact ⟨_, er_, by (with_reducible repeat apply pR); exact Kd.R_mono (f6R s (Kd.R_far (p := ⟨m, 3, none⟩) (Kd.R_far (p := ⟨m, 3, none⟩) (Kd.R_types (Kd.R_types HO_1020002.out d.out (by decide)) l.out (by decide)) (fun _ hk => hk.1.2) (.int .i64 ao)) (fun _ hk => hk.1.2) (.int .i64 0)) (fun _ hk => hk.2)) (fun _ hk => trivial), bl_⟩
        ·rw [if_neg bR] at H
         have dR : decide (ao < 0) = false := decide_eq_false bR
         clear bR
         simp only [Option.some.injEq, Prod.mk.injEq] at H
         obtain ⟨rfl, rfl, rfl, rfl, rfl, rfl⟩ := H
         have iF := G.out
         have jv := I.out
         have iG := ab.out
         have jw := ad.out
         have iH := x.out
         have jx := V.out
         obtain ⟨eG, eH, eI, eJ, eK, eL, fP, fQ, fR, fS, fT, fU⟩ := cells6 b.out
         have iI := J.out
         have jy := q.out
         have iJ := af.out
         have jz := r.out
         obtain ⟨eM, eN, eO, eP, eQ, eR, fV, fW, fX, fY, fZ, ga⟩ := cells6 d.out
         go_wp2_with (first | ((with_reducible refine gate_callee (f := 60) rfl ?_); refine goesL_ (some 47) rfl rfl Tryd.func60 (by kernel_rfl) rfl #[.agg #[.int .i64 A, .int .i64 B, .slice ap n.length aq, .int .i64 D, .bool E, .bool F], .int .i64 (wrap64 ((n.length : Int) - 1))] rfl ag_ ?_; (with_reducible refine (shutterref11_Next.calls k2 A B _ _ n D E F (wrap64 ((n.length : Int) - 1)) ao _ ?side1 ?side2 g2.out).mono ?_); (case side1 => exact Kd.C_below aV.out bl_); (case side2 => exact aU.out); rintro e kR ⟨rfl, hb⟩; refine ⟨_, rfl, ?_⟩; replace HO_1020002 := Z (Kd.R_below (by (with_reducible repeat apply pR); exact (Kd.R_mono (Kd.R_far (p := ⟨m, 5, none⟩) (Kd.R_far (p := ⟨m, 4, none⟩) (Kd.R_types HO_1020002.out d.out (by decide)) (fun _ hk => hk.2) (.bool false)) (fun _ hk => hk.2) (.bool false)) (fun _ h_ => h_.1))) hb); replace b := Z (blk_below (g := av) (o := .cells #[.int .i64 A, .int .i64 B, .slice ap n.length aq, .int .i64 D, .bool E, .bool F] 24 (0, 0)) (blk_off b.out x.out off2_) hb); replace i := Z (blk_below (g := aw) (o := .cells #[.int .i64 y, .bool ak, .bool al, .bool ah, .slice aC ag.length aE] 75 (0, 0)) (blk_off i.out q.out off2_) hb); replace l := Z (blk_below (g := s) (o := .cells #[.int .i64 0, .int .i64 0, .slice none 0 0, .int .i64 0, .bool false, .bool false] 24 (0, 0)) (blk_off l.out r.out off2_) hb); replace d := Z (blk_below (g := m) (o := .cells #[.int .i64 u, .int .i64 z, u1020002, .int .i64 aa, .bool false, .bool false] 24 (0, 0)) (by (with_reducible repeat apply pK); refine blk_put (cs := #[.int .i64 u, .int .i64 z, u1020002, .int .i64 aa, .bool false, .bool ai]) ?_ 5 _ rfl; (with_reducible repeat apply pK); refine blk_put (cs := #[.int .i64 u, .int .i64 z, u1020002, .int .i64 aa, .bool an, .bool ai]) ?_ 4 _ rfl; (with_reducible repeat apply pK); exact d.out) hb); replace HB := Z (below_step bl_ hb); (try clear hb); (try clear dh); (try clear hk); (try clear hi); obtain ⟨eS, eT, eU, eV, eW, eX, gb, gc, gd, ge, gf, gg⟩ := cells6 d.out; have iK := ae.out; have jA := ac.out; obtain ⟨eY, eZ, e0, e1, e2, e3, gh, gi, gj, gl, gm, gn⟩ := cells6 l.out; obtain ⟨bO, bT, hl⟩ := Kd.R_slice HO_1020002.out; subst hl))
         refine bodyPost_ret (results_cell_row rfl _ _ s 24 #[.int .i64 u, .int .i64 z, .slice bO a.length bT, .int .i64 ao, .bool false, .bool false] (0, 0) _ rfl (by (with_reducible repeat apply pK); refine blk_put (cs := #[.int .i64 u, .int .i64 z, .slice bO a.length bT, .int .i64 ao, .bool false, .bool false]) ?_ 5 _ rfl; (with_reducible repeat apply pK); refine blk_put (cs := #[.int .i64 u, .int .i64 z, .slice bO a.length bT, .int .i64 ao, .bool false, .bool false]) ?_ 4 _ rfl; (with_reducible repeat apply pK); refine blk_put (cs := #[.int .i64 u, .int .i64 z, .slice bO a.length bT, .int .i64 0, .bool false, .bool false]) ?_ 3 _ rfl; (with_reducible repeat apply pK); refine blk_put (cs := #[.int .i64 u, .int .i64 z, .slice none 0 0, .int .i64 0, .bool false, .bool false]) ?_ 2 _ rfl; (with_reducible repeat apply pK); refine blk_put (cs := #[.int .i64 u, .int .i64 0, .slice none 0 0, .int .i64 0, .bool false, .bool false]) ?_ 1 _ rfl; (with_reducible repeat apply pK); refine blk_put (cs := #[.int .i64 0, .int .i64 0, .slice none 0 0, .int .i64 0, .bool false, .bool false]) ?_ 0 _ rfl; (with_reducible repeat apply pK); refine blk_far ?_ r.out _; (with_reducible repeat apply pK); exact l.out) Tryd.underlying24 rfl (by kernel_rfl)) rfl ?_
         exact ⟨_, er_, by (with_reducible repeat apply pR); exact Kd.R_mono (f6R s (Kd.R_far (p := ⟨m, 3, none⟩) (Kd.R_types (Kd.R_types HO_1020002.out d.out (by decide)) l.out (by decide)) (fun _ hk => hk.1.2) (.int .i64 ao)) (fun _ hk => hk.2)) (fun _ hk => trivial), bl_⟩
    ·rw [if_neg aW] at H
     have cW : (y == 111) = false := beq_eq_false_iff_ne.mpr aW
     have cX : (y != 111) = true := bne_iff_ne.mpr aW
     have dn := Z H
     clear H
     have iL := I.out
     have jB := G.out
     have iM := ac.out
     have jC := ae.out
     have iN := q.out
     have jD := J.out
     obtain ⟨e4, e5, e6, e7, e8, go, gp, gq, gr, gs⟩ := cells5 i.out
     go_upto_if 56 with (fail)
     go_cut [] (fun wc => ∃ (kq : Nat) (ar : List (S35)) (au : Int) (u1020002 : Value), Aside0 (shutterref13_Do.j2 kq y ak al ah ag K L ar au M O = some (r1, r2, r3, r4, r5, r6)) ∧ Aside0 (kq ≤ aT) ∧ Aside0 (Kd.R k35 35 wc w.heap.size (fun _ => True) u1020002 ar) ∧ Aside0 (wc.heap[av]? = some (.cells #[.int .i64 A, .int .i64 B, (.slice ap n.length aq), .int .i64 D, .bool E, .bool F] 24 (0, 0))) ∧ Aside0 (wc.heap[aw]? = some (.cells #[.int .i64 y, .bool ak, .bool al, .bool ah, (.slice aC ag.length aE)] 75 (0, 0))) ∧ Aside0 (wc.heap[s]? = some (.cells #[.int .i64 0, .int .i64 0, (.slice none 0 0), .int .i64 0, .bool false, .bool false] 24 (0, 0))) ∧ Aside0 (wc.heap[m]? = some (.cells #[.int .i64 K, .int .i64 L, u1020002, .int .i64 au, .bool M, .bool O] 24 (0, 0))) ∧ Aside0 (Below w.heap.size w wc))
     case first =>
      have H := dn.out
      clear dn
      by_cases bK : y = 245
      ·rw [if_pos bK] at H
       have aQ : (y == 245) = true := beq_iff_eq.mpr bK
       have dS : (y != 245) = false := bne_eq_false_iff_eq.mpr bK
       clear bK
       (first | rw [aQ] | (simp only [i64_w, i32_w]; rw [aQ]) | skip)
       by_cases aZ : 0 ≤ (n.length : Int)
       ·rw [if_pos aZ] at H
        have gB := eq_true aZ
        have gC : decide (0 ≤ (n.length : Int)) = true := decide_eq_true aZ
        clear aZ
        by_cases a0 : ((n.length : Int) : Int).toNat ≤ 7036874417766
        ·rw [if_pos a0] at H
         have gD := eq_true a0
         have gE : decide (((n.length : Int) : Int).toNat ≤ 7036874417766) = true := decide_eq_true a0
         clear a0
         obtain ⟨aY, aP⟩ : ∃ y_ : List (S35), y_ = (List.replicate ((n.length : Int) : Int).toNat z35) := ⟨_, rfl⟩
         replace H : (shutterref13_Do.j2 aT y ak al ah ag K L aY 0 M O) = some (r1, r2, r3, r4, r5, r6) := by first | (rw [aP]; with_reducible exact H) | (have bP := (Option.bind_some _ _).symm.trans H; rw [aP]; with_reducible exact bP) | (have bP := (Option.bind_some _ _).symm.trans H; with_reducible exact bP) | with_reducible exact H | (rw [aP]; exact H) | exact H
         have dd := Z aP
         clear aP
         have H' := Z H
         clear H
         have hS := G.out
         have hX := I.out
         have hT := ab.out
         have hY := ad.out
         have hU := x.out
         have hZ := V.out
         obtain ⟨dq, dr, ds, dt, du, dv, dC, dD, dE, dF, dG, dH⟩ := cells6 b.out
         go_wp2_with (first | ((with_reducible refine gate_dst (N := 60) rfl ?_); refine Kd.R_make k35 _ 35 rfl (N := 60) rfl 22 _ _ rfl (n.length : Int) rfl rfl Tryd.underlying22 (.agg #[(.bool false), (.bool false), (.bool false), (.int .i64 0), (.bool false), (.int .u8 0)]) 40 info35 rfl (by decide) (by omega) z35 (ok := fun _ => True) (okp := fun _ => True) (k35_mkM _ _ _ z35 ) (fun _ hk => hk) trivial (od_) (Nat.le_trans (Nat.mul_le_mul_right _ (od_ : (n.length : Int).toNat ≤ 7036874417766)) (by omega)) (Below.refl _ _) (Nat.le_refl _) ?_; intro jM kd aR hb hg_ hnew_; clear hg_ hnew_; (first | rw [← dd.out] at aR | (simp only [Int.reduceToNat] at aR; rw [← dd.out] at aR)); have dc := Z (Kd.R_lower (Kd.R_new' aR (Kd.R_lt (by (with_reducible repeat apply pR); exact HO_1020002.out))) (below_size bl_)); replace HO_1020002 := Z (Kd.R_elder' (by (with_reducible repeat apply pR); exact HO_1020002.out) (Kd.R_base aR) hb); replace b := Z (kb b.out hb); replace i := Z (kb i.out hb); replace l := Z (kb l.out hb); replace d := Z (kb d.out hb); replace HB := Z (below_step bl_ hb); clear hb aR; obtain ⟨cU, cY, gY⟩ := Kd.R_slice dc.out; subst gY; have hV := J.out; have h0 := q.out; have hW := af.out; have h1 := r.out; obtain ⟨dw, dx, dy, dz, dA, dB, dI, dJ, dK, dL, dM, dN⟩ := cells6 d.out))
         go_meet
         case rel => exact ⟨_, (aY), (0), (.slice cU aY.length cY), H', ⟨by have := bU.out; first | omega | exact Nat.le_refl _⟩, ⟨by (with_reducible repeat apply pR); exact Kd.R_mono (Kd.R_far (p := ⟨m, 3, none⟩) (Kd.R_far (p := ⟨m, 2, none⟩) (Kd.R_types dc.out d.out (by decide)) (fun _ hk => hk.2) (.slice cU aY.length cY)) (fun _ hk => hk.2) (.int .i64 0)) (fun _ hk => trivial)⟩, ⟨blk_off b.out x.out off2_⟩, ⟨blk_off i.out q.out off2_⟩, ⟨blk_off l.out r.out off2_⟩, ⟨by (with_reducible repeat apply pK); refine blk_put (cs := #[.int .i64 K, .int .i64 L, .slice cU aY.length cY, .int .i64 Y, .bool M, .bool O]) ?_ 3 _ rfl; (with_reducible repeat apply pK); refine blk_put (cs := #[.int .i64 K, .int .i64 L, .slice aD U.length aF, .int .i64 Y, .bool M, .bool O]) ?_ 2 _ rfl; (with_reducible repeat apply pK); exact d.out⟩, ⟨bl_⟩⟩
        ·rw [if_neg a0] at H
         exact absurd H (by simp)
       ·rw [if_neg aZ] at H
        exact absurd H (by simp)
      ·rw [if_neg bK] at H
       have aQ : (y == 245) = false := beq_eq_false_iff_ne.mpr bK
       have dS : (y != 245) = true := bne_iff_ne.mpr bK
       (first | rw [aQ] | (simp only [i64_w, i32_w]; rw [aQ]) | skip)
       have H' := Z H
       clear H
       go_wp2
       go_meet
       case rel => exact ⟨_, (U), (Y), (.slice aD U.length aF), H', ⟨by have := bU.out; first | omega | exact Nat.le_refl _⟩, ⟨by (with_reducible repeat apply pR); exact HO_1020002.out⟩, ⟨vK b.out⟩, ⟨vK i.out⟩, ⟨vK l.out⟩, ⟨vK d.out⟩, ⟨bl_⟩⟩
     case rest =>
      clear dn
      try clear c1
      try clear c2
      try clear p2
      try clear c3
      try clear c4
      try clear c5
      try clear p5
      try clear q5
      try clear kK
      try clear kI
      try clear c6
      try clear p6
      try clear kL
      try clear kJ
      try clear c7
      try clear c8
      try clear c9
      try clear c10
      try clear ke
      try clear g3
      try clear g4
      try clear g5
      try clear aS
      try clear ay
      try clear bL
      try clear g6
      try clear g7
      try clear g8
      try clear kf
      try clear g9
      try clear c24
      try clear ha
      try clear bV
      try clear hC
      try clear hD
      try clear hE
      try clear hF
      try clear hG
      try clear aW
      try clear cW
      try clear cX
      try clear hH
      try clear hI
      try clear hJ
      try clear hK
      try clear hL
      try clear bQ
      try clear dQ
      try clear de
      try clear df
      try clear gW
      try clear dg
      try clear gX
      try clear kg
      try clear p52
      try clear dm
      try clear j9
      try clear jZ
      try clear kh
      try clear ki
      try clear kj
      try clear kk
      try clear kl
      try clear km
      try clear kn
      try clear ka
      try clear j1
      try clear ko
      try clear kp
      try clear p64
      try clear kr
      try clear bR
      try clear dR
      try clear ks
      try clear kt
      try clear ku
      try clear kv
      try clear kw
      try clear kx
      try clear ky
      try clear kz
      try clear kA
      try clear kB
      try clear kC
      try clear kD
      try clear kE
      try clear kF
      try clear kG
      try clear kH
      try clear bK
      try clear aQ
      try clear dS
      try clear aZ
      try clear gB
      try clear gC
      try clear a0
      try clear gD
      try clear gE
      try clear jR
      try clear jS
      try clear jT
      try clear jU
      try clear jV
      try clear dq
      try clear dr
      try clear ds
      try clear dt
      try clear du
      try clear dv
      try clear a1
      try clear a2
      try clear a3
      try clear a4
      try clear a5
      try clear a6
      try clear dw
      try clear dx
      try clear dy
      try clear dz
      try clear dA
      try clear dB
      try clear a7
      try clear a8
      try clear a9
      try clear ba
      try clear bb
      try clear bc
      try clear bd
      try clear be
      try clear bf
      try clear bg
      try clear bh
      try clear bi
      try clear bj
      try clear bk
      try clear bl
      try clear bm
      try clear bW
      try clear bX
      try clear bY
      try clear bZ
      try clear b0
      try clear b1
      try clear b2
      try clear b3
      try clear b4
      try clear b5
      try clear b6
      try clear b7
      try clear b8
      try clear b9
      try clear ca
      try clear cb
      try clear cc
      try clear cd
      try clear ce
      try clear cf
      try clear cg
      try clear ch
      try clear ci
      try clear cj
      try clear ck
      try clear cl
      try clear cm
      try clear cn
      try clear co
      try clear d0
      try clear d1
      try clear d2
      try clear d3
      try clear d4
      try clear d5
      try clear d6
      try clear d7
      try clear d8
      try clear d9
      try clear ea
      try clear eb
      try clear ec
      try clear ed
      try clear ee
      try clear ef
      try clear eg
      try clear eh
      try clear ei
      try clear ej
      try clear ek
      try clear el
      try clear em
      try clear en
      try clear eo
      try clear ep
      try clear eq
      try clear er
      try clear es
      try clear et
      try clear eu
      try clear ev
      try clear ew
      try clear ex
      try clear ey
      try clear ez
      try clear eA
      try clear eB
      try clear eC
      try clear eD
      try clear eE
      try clear eF
      try clear eG
      try clear eH
      try clear eI
      try clear eJ
      try clear eK
      try clear eL
      try clear eM
      try clear eN
      try clear eO
      try clear eP
      try clear eQ
      try clear eR
      try clear eS
      try clear eT
      try clear eU
      try clear eV
      try clear eW
      try clear eX
      try clear eY
      try clear eZ
      try clear e0
      try clear e1
      try clear e2
      try clear e3
      try clear e4
      try clear e5
      try clear e6
      try clear e7
      try clear e8
      try clear dC
      try clear dD
      try clear dE
      try clear dF
      try clear dG
      try clear dH
      try clear bn
      try clear bo
      try clear bp
      try clear bq
      try clear br
      try clear bs
      try clear dI
      try clear dJ
      try clear dK
      try clear dL
      try clear dM
      try clear dN
      try clear bt
      try clear bu
      try clear bv
      try clear bw
      try clear bx
      try clear bz
      try clear bA
      try clear bB
      try clear bC
      try clear bD
      try clear bE
      try clear bF
      try clear bG
      try clear bH
      try clear bI
      try clear bJ
      try clear cp
      try clear cq
      try clear cr
      try clear ct
      try clear cu
      try clear cv
      try clear cw
      try clear cx
      try clear cy
      try clear cz
      try clear cA
      try clear cB
      try clear cC
      try clear cD
      try clear cE
      try clear cF
      try clear cG
      try clear cH
      try clear cI
      try clear cJ
      try clear cK
      try clear cL
      try clear cM
      try clear cN
      try clear cO
      try clear cP
      try clear cQ
      try clear cR
      try clear cS
      try clear e9
      try clear fa
      try clear fb
      try clear fc
      try clear fd
      try clear fe
      try clear ff
      try clear fg
      try clear fh
      try clear fi
      try clear fj
      try clear fk
      try clear fl
      try clear fm
      try clear fn
      try clear fo
      try clear fp
      try clear fq
      try clear fr
      try clear fs
      try clear ft
      try clear fu
      try clear fv
      try clear fw
      try clear fx
      try clear fy
      try clear fz
      try clear fA
      try clear fB
      try clear fC
      try clear fD
      try clear fE
      try clear fF
      try clear fG
      try clear fH
      try clear fI
      try clear fJ
      try clear fK
      try clear fL
      try clear fM
      try clear fN
      try clear fO
      try clear fP
      try clear fQ
      try clear fR
      try clear fS
      try clear fT
      try clear fU
      try clear fV
      try clear fW
      try clear fX
      try clear fY
      try clear fZ
      try clear ga
      try clear gb
      try clear gc
      try clear gd
      try clear ge
      try clear gf
      try clear gg
      try clear gh
      try clear gi
      try clear gj
      try clear gl
      try clear gm
      try clear gn
      try clear go
      try clear gp
      try clear gq
      try clear gr
      try clear gs
      try clear gL
      try clear gM
      try clear gN
      try clear gO
      try clear gP
      try clear gQ
      try clear di
      try clear p2
      try clear p52
      try clear dm
      obtain ⟨kq, ar, au, u1020002, HA, jQ, HO_1020002, b, i, l, d, HB⟩ := hcut
      cases kq with
      | zero => exact absurd HA.out (by simp [shutterref13_Do.j2])
      | succ hp =>
       have H := HA.out
       clear HA
       simp only [shutterref13_Do.j2] at H
       by_cases cV : ah = true
       ·subst cV
        have H1 : ((shutterref13_Reset.f hp K L ar au M O true).bind fun hB => (none)) = some (r1, r2, r3, r4, r5, r6) := by rw [if_pos rfl] at H; exact H
        clear H
        have H := H1
        clear H1
        replace H := Option.bind_eq_some_iff.mp H
        obtain ⟨⟨jE, jF, jG, jH, jI, jJ⟩, dO, H⟩ := H
        replace H : (none) = some (r1, r2, r3, r4, r5, r6) := H
        have jN := Z dO
        clear dO
        exact absurd H (by simp)
       ·replace cV := Bool.eq_false_iff.mpr cV
        subst cV
        have H1 : (none) = some (r1, r2, r3, r4, r5, r6) := by rw [if_neg (show ¬ (false = true) by decide)] at H; exact H
        clear H
        have H := H1
        clear H1
        exact absurd H (by simp)

end Go.Proofs.YtggecanpjkpkiaaDoor.P
