/- pp.py and press2.py (wip/tools) wrote this text. -/
import Derived.Test.YtggecanpjkpkiaaDoorPx0
import Derived.Test.YtggecanpjkpkiaaDoorPxS
import Derived.Test.YtggecanpjkpkiaaDoorPx14
namespace Go.Proofs.YtggecanpjkpkiaaDoor.P
open Go.RowKit Go.Proofs.YtggecanpjkpkiaaDoorW.PrintWords Go.Proofs.YtggecanpjkpkiaaDoorW.PrintLast Go.Proofs.YtggecanpjkpkiaaDoorW.PrintMore
attribute [local go_sem] max2_int min2_int max_two min_two max_three min_three max_four min_four
attribute [local go_sem] Instr.field asAgg
set_option linter.unusedVariables false
set_option linter.unusedSimpArgs false

/-! ### shutterref13_Reset: function 76 -/
def shutterref13_Reset.l0 : Nat → Bool → Int → Int → Int → List (S35) → Int → Bool → Bool → Int → Int → List (S35) → Int → Bool → Bool → Option (Int × Int × (List (S35)) × Int × Bool × Bool)
 | 0, _, _, _, _, _, _, _, _, _, _, _, _, _, _ => none
 | k + 1, o, c, i, j, b, l, m, n, d, e, a, f, g, h => if c < (a.length : Int) then (if 0 ≤ c then (if c < (b.length : Int) then (if (rd_T35 b c).f0 = true then (if o = true then (shutterref13_Reset.l0 k o (wrap64 (c + 1)) i j b l m n d e (a.set (c : Int).toNat (⟨(rd_T35 a c).f0, (⟨(rd_T35 a c).f1.f0, (rd_T35 a c).f1.f1, (rd_T35 a c).f1.f2, false⟩ : S33), (rd_T35 a c).f2⟩ : S35)) f g h) else (if ((rd_T35 b c).f1.f0 = true) then (shutterref13_Reset.l0 k o (wrap64 (c + 1)) i j b l m n d e a f g h) else (shutterref13_Reset.l0 k o (wrap64 (c + 1)) i j b l m n d e (a.set (c : Int).toNat (⟨(rd_T35 a c).f0, (⟨(rd_T35 a c).f1.f0, (rd_T35 a c).f1.f1, (rd_T35 a c).f1.f2, false⟩ : S33), (rd_T35 a c).f2⟩ : S35)) f g h))) else (shutterref13_Reset.l0 k o (wrap64 (c + 1)) i j b l m n d e a f g h)) else (none)) else (none)) else (some (d, e, a, f, g, h))
def shutterref13_Reset.f (k : Nat) (b : Int) (c : Int) (h : List (S35)) (d : Int) (e : Bool) (g : Bool) (a1 : Bool) : Option (Int × Int × (List (S35)) × Int × Bool × Bool) := (shutterref10_Copy.f b c h d e g).bind fun a => (shutterref13_Reset.l0 k a1 0 b c h d e g a.1 a.2.1 a.2.2.1 a.2.2.2.1 a.2.2.2.2.1 a.2.2.2.2.2)
theorem shutterref13_Reset.mono_l : ∀ k, (∀ f g i j l m n o p q a b c d, LeO (shutterref13_Reset.l0 k f g i j l m n o p q a b c d) (shutterref13_Reset.l0 (k + 1) f g i j l m n o p q a b c d))
 | 0 => fun _ _ _ _ _ _ _ _ _ _ _ _ _ _ r h => by simp [shutterref13_Reset.l0] at h
 | k + 1 => by
  have e := shutterref13_Reset.mono_l k
  ·intro f g i j l m n o p q a b c d
   unfold shutterref13_Reset.l0
   repeat' first
   | (with_reducible exact e _ _ _ _ _ _ _ _ _ _ _ _ _ _)
   | (with_reducible exact LeO.refl _)
   | (with_reducible exact LeO.none _)
   | (with_reducible refine LeO.ite ?_ ?_)
   | (with_reducible refine LeO.bind ?_ (fun _ => ?_))
   | exact e _ _ _ _ _ _ _ _ _ _ _ _ _ _
   | exact LeO.none _
   | refine LeO.ite ?_ ?_
   | refine LeO.bind ?_ (fun _ => ?_)
theorem shutterref13_Reset.mono : ∀ a0 a1 b c a4 d e k, LeO (shutterref13_Reset.f k a0 a1 b c a4 d e) (shutterref13_Reset.f (k + 1) a0 a1 b c a4 d e) := by
 intro a0 a1 b c a4 d e k
 have a := shutterref13_Reset.mono_l k
 unfold shutterref13_Reset.f
 repeat' first
   | (with_reducible exact a _ _ _ _ _ _ _ _ _ _ _ _ _ _)
   | (with_reducible exact LeO.refl _)
   | (with_reducible exact LeO.none _)
   | (with_reducible refine LeO.ite ?_ ?_)
   | (with_reducible refine LeO.bind ?_ (fun _ => ?_))
   | exact a _ _ _ _ _ _ _ _ _ _ _ _ _ _
   | exact LeO.none _
   | refine LeO.ite ?_ ?_
   | refine LeO.bind ?_ (fun _ => ?_)
set_option maxHeartbeats 8000000 in
set_option maxRecDepth 100000 in
theorem shutterref13_Reset.calls (k : Nat) (s : Int) (u : Int) (aJ : Option Addr) (au : Nat) (c : List (S35)) (x : Int) (y : Bool) (z : Bool) (a1 : Bool) (r1 : Int) (r2 : Int) (r3 : List (S35)) (r4 : Int) (r5 : Bool) (r6 : Bool) (w : World) (bc : Kd.C k35 w aJ c.length c) (a7 : c.length ≤ au) (h : shutterref13_Reset.f k s u c x y z a1 = some (r1, r2, r3, r4, r5, r6)) :
  Calls Tryd.prog 76 #[.agg #[.int .i64 s, .int .i64 u, .slice aJ c.length au, .int .i64 x, .bool y, .bool z], .bool a1] w fun e w' => ∃ ce : Value, e = .returned (.agg #[.int .i64 r1, .int .i64 r2, ce, .int .i64 r4, .bool r5, .bool r6]) ∧ Kd.R k35 35 w' w.heap.size (fun _ => True) ce r3 ∧ Below w.heap.size w w' := by
 have fO := Tryd.underlying24
 have ak := Z bc
 have b3 := Z a7
 clear bc a7
 have HB := Z (Below.refl w.heap.size w)
 have H : ((shutterref10_Copy.f s u c x y z).bind fun ar => (shutterref13_Reset.l0 k a1 0 s u c x y z ar.1 ar.2.1 ar.2.2.1 ar.2.2.2.1 ar.2.2.2.2.1 ar.2.2.2.2.2)) = some (r1, r2, r3, r4, r5, r6) := h
 clear h
 replace H := Option.bind_eq_some_iff.mp H
 obtain ⟨⟨E, F, aL, G, I, J⟩, b9, H⟩ := H
 replace H : (shutterref13_Reset.l0 k a1 0 s u c x y z E F aL G I J) = some (r1, r2, r3, r4, r5, r6) := H
 have A3 := Z b9
 clear b9
 have H' := Z H
 clear H
 go_enter Tryd.func76, Tryd.ntmps76
 go_wp2_with (first | ((with_reducible refine gate_dst (N := 2) rfl ?_); refine bx_ 2 24 #[.int .i64 s, .int .i64 u, .slice aJ c.length au, .int .i64 x, .bool y, .bool z] ?_; intro aF hg w4 hbox hb; have d := Z (hbox); have eW := Z (ln_ hg : w.heap.size ≤ aF); have eT := Z (ln_ hg : w.heap.size ≤ aF); replace HB := Z (below_step bl_ hb); clear hb hbox hg) | ((with_reducible refine gate_dst (N := 4) rfl ?_); refine bx_ 4 24 #[.int .i64 0, .int .i64 0, .slice none 0 0, .int .i64 0, .bool false, .bool false] ?_; intro V hg w5 hbox hb; have q := Z (hbox); have eX := Z (ln_ hg : w.heap.size ≤ V); have eU := Z (ln_ hg : w.heap.size ≤ V); replace HB := Z (below_step bl_ hb); have Y := Z (nl d.out hg); have aa := Z (ng d.out hg); replace d := Z (kb d.out hb); clear hb hbox hg; have fM := Y.out; have fN := aa.out; obtain ⟨bI, bJ, bK, bL, bM, bN, bQ, bR, bS, bT, bU, bV⟩ := cells6 d.out) | ((with_reducible refine gate_callee (f := 23) rfl ?_); refine goesL_ (some 8) rfl rfl Tryd.func23 (by kernel_rfl) rfl #[.agg #[.int .i64 s, .int .i64 u, .slice aJ c.length au, .int .i64 x, .bool y, .bool z]] rfl ag_ ?_; (with_reducible refine (shutterref10_Copy.calls s u _ _ c x y z E F aL G I J _ ?side1 ?side2 A3.out).mono ?_); (case side1 => repeat (first | exact (Kd.C_below ak.out HB.out) | (with_reducible apply pC))); (case side2 => exact b3.out); rintro e w8 ⟨fQ, rfl, ca, hb⟩; refine ⟨_, rfl, ?_⟩; have aE := Z (Kd.R_lower ca (below_size bl_)); replace d := Z (kb d.out hb); replace q := Z (kb q.out hb); replace HB := Z (below_step bl_ hb); (try clear hb); (try clear fS); (try clear hk); (try clear hi); (try clear ca)) | ((with_reducible refine gate_dst (N := 5) rfl ?_); refine bx_ 5 24 #[.int .i64 0, .int .i64 0, .slice none 0 0, .int .i64 0, .bool false, .bool false] ?_; intro ad hg w9 hbox hb; replace aE := Z (rb aE.out hb); have D := Z (hbox); have eY := Z (ln_ hg : w.heap.size ≤ ad); have eV := Z (ln_ hg : w.heap.size ≤ ad); replace HB := Z (below_step bl_ hb); have T := Z (nl d.out hg); have ab := Z (ng d.out hg); replace d := Z (kb d.out hb); have U := Z (nl q.out hg); have ac := Z (ng q.out hg); replace q := Z (kb q.out hb); clear hb hbox hg; have e1 := ab.out; have fi := T.out; have e2 := ac.out; have fj := U.out; obtain ⟨bd, be, bf, bg, bh, bi, bj, bk, bl, bm, bn, bo⟩ := cells6 D.out; obtain ⟨bp, bx, cl⟩ := Kd.R_slice aE.out; subst cl))
 go_loopg [6] k (fun kq v6 w' => ∃ (b : Int) (a : List (S35)) (u962002 : Value), v6 = .int .i64 b ∧ Aside0 (shutterref13_Reset.l0 kq a1 b s u c x y z E F a G I J = some (r1, r2, r3, r4, r5, r6)) ∧ Aside0 (kq ≤ k) ∧ Aside0 (Kd.R k35 35 w' w.heap.size (fun _ => True) u962002 a) ∧ Aside0 (w'.heap[aF]? = some (.cells #[.int .i64 s, .int .i64 u, (.slice aJ c.length au), .int .i64 x, .bool y, .bool z] 24 (0, 0))) ∧ Aside0 (w'.heap[V]? = some (.cells #[.int .i64 0, .int .i64 0, (.slice none 0 0), .int .i64 0, .bool false, .bool false] 24 (0, 0))) ∧ Aside0 (w'.heap[ad]? = some (.cells #[.int .i64 E, .int .i64 F, u962002, .int .i64 G, .bool I, .bool J] 24 (0, 0))) ∧ Aside0 (Below w.heap.size w w'))
 case atStart => exact ⟨(0), (aL), (.slice bp aL.length bx), (dn_), H', ⟨Nat.le_refl _⟩, ⟨by (with_reducible repeat apply pR); exact Kd.R_mono (f6R ad (Kd.R_types aE.out D.out (by decide)) (fun _ hk => hk.2)) (fun _ hk => trivial)⟩, ⟨blk_off d.out T.out off2_⟩, ⟨blk_off q.out U.out off2_⟩, ⟨put6 D.out⟩, ⟨bl_⟩⟩
 case round =>
  clear H'
  try clear c1
  try clear c2
  try clear p2
  try clear c6
  try clear c7
  try clear c10
  try clear fR
  try clear bd
  try clear be
  try clear bf
  try clear bg
  try clear bh
  try clear bi
  try clear bI
  try clear bJ
  try clear bK
  try clear bL
  try clear bM
  try clear bN
  try clear bj
  try clear bk
  try clear bl
  try clear bm
  try clear bn
  try clear bo
  try clear bQ
  try clear bR
  try clear bS
  try clear bT
  try clear bU
  try clear bV
  obtain ⟨b, a, u962002, rfl, HA, aI, HO_962002, d, q, D, HB⟩ := hrel
  cases gk with
  | zero => exact absurd HA.out (by simp [shutterref13_Reset.l0])
  | succ k1 =>
   have H := HA.out
   clear HA
   simp only [shutterref13_Reset.l0] at H
   by_cases aM : b < (a.length : Int)
   ·rw [if_pos aM] at H
    have b6 : decide (b < (a.length : Int)) = true := decide_eq_true aM
    clear aM
    by_cases a2 : 0 ≤ b
    ·rw [if_pos a2] at H
     have eZ : decide (0 ≤ b) = true := decide_eq_true a2
     clear a2
     by_cases a3 : b < (c.length : Int)
     ·rw [if_pos a3] at H
      have e0 : decide (b < (c.length : Int)) = true := decide_eq_true a3
      clear a3
      obtain ⟨bv, aQ⟩ : ∃ b_ : Bool, b_ = ((rd_T35 c b).f0) := ⟨_, rfl⟩
      replace H : (if bv = true then (if a1 = true then (shutterref13_Reset.l0 k1 a1 (wrap64 (b + 1)) s u c x y z E F (a.set (b : Int).toNat (⟨(rd_T35 a b).f0, (⟨(rd_T35 a b).f1.f0, (rd_T35 a b).f1.f1, (rd_T35 a b).f1.f2, false⟩ : S33), (rd_T35 a b).f2⟩ : S35)) G I J) else (if ((rd_T35 c b).f1.f0 = true) then (shutterref13_Reset.l0 k1 a1 (wrap64 (b + 1)) s u c x y z E F a G I J) else (shutterref13_Reset.l0 k1 a1 (wrap64 (b + 1)) s u c x y z E F (a.set (b : Int).toNat (⟨(rd_T35 a b).f0, (⟨(rd_T35 a b).f1.f0, (rd_T35 a b).f1.f1, (rd_T35 a b).f1.f2, false⟩ : S33), (rd_T35 a b).f2⟩ : S35)) G I J))) else (shutterref13_Reset.l0 k1 a1 (wrap64 (b + 1)) s u c x y z E F a G I J)) = some (r1, r2, r3, r4, r5, r6) := by rw [← aQ] at H; exact H
      have r := Z aQ
      clear aQ
      by_cases a4 : bv = true
      ·subst a4
       have H1 : (if a1 = true then (shutterref13_Reset.l0 k1 a1 (wrap64 (b + 1)) s u c x y z E F (a.set (b : Int).toNat (⟨(rd_T35 a b).f0, (⟨(rd_T35 a b).f1.f0, (rd_T35 a b).f1.f1, (rd_T35 a b).f1.f2, false⟩ : S33), (rd_T35 a b).f2⟩ : S35)) G I J) else (if ((rd_T35 c b).f1.f0 = true) then (shutterref13_Reset.l0 k1 a1 (wrap64 (b + 1)) s u c x y z E F a G I J) else (shutterref13_Reset.l0 k1 a1 (wrap64 (b + 1)) s u c x y z E F (a.set (b : Int).toNat (⟨(rd_T35 a b).f0, (⟨(rd_T35 a b).f1.f0, (rd_T35 a b).f1.f1, (rd_T35 a b).f1.f2, false⟩ : S33), (rd_T35 a b).f2⟩ : S35)) G I J))) = some (r1, r2, r3, r4, r5, r6) := by rw [if_pos rfl] at H; exact H
       clear H
       have H := H1
       clear H1
       by_cases a5 : a1 = true
       ·subst a5
        have H1 : (shutterref13_Reset.l0 k1 true (wrap64 (b + 1)) s u c x y z E F (a.set (b : Int).toNat (⟨(rd_T35 a b).f0, (⟨(rd_T35 a b).f1.f0, (rd_T35 a b).f1.f1, (rd_T35 a b).f1.f2, false⟩ : S33), (rd_T35 a b).f2⟩ : S35)) G I J) = some (r1, r2, r3, r4, r5, r6) := by rw [if_pos rfl] at H; exact H
        clear H
        have H := H1
        clear H1
        obtain ⟨aZ, aG⟩ : ∃ y_ : List (S35), y_ = (a.set (b : Int).toNat (⟨(rd_T35 a b).f0, (⟨(rd_T35 a b).f1.f0, (rd_T35 a b).f1.f1, (rd_T35 a b).f1.f2, false⟩ : S33), (rd_T35 a b).f2⟩ : S35)) := ⟨_, rfl⟩
        replace H : (shutterref13_Reset.l0 k1 true (wrap64 (b + 1)) s u c x y z E F aZ G I J) = some (r1, r2, r3, r4, r5, r6) := by first | (rw [aG]; with_reducible exact H) | (have aK := (Option.bind_some _ _).symm.trans H; rw [aG]; with_reducible exact aK) | (have aK := (Option.bind_some _ _).symm.trans H; with_reducible exact aK) | with_reducible exact H | (rw [aG]; exact H) | exact H
        have b4 := Z aG
        clear aG
        have H' := Z H
        clear H
        have e3 := ab.out
        have fk := T.out
        have e4 := ac.out
        have fl := U.out
        obtain ⟨cu, cv, cw, cx, cy, cz, dx, dy, dz, dA, dB, dC⟩ := cells6 D.out
        obtain ⟨fA, aO, cm⟩ := Kd.R_slice HO_962002.out
        subst cm
        have e5 := Y.out
        have fm := aa.out
        obtain ⟨cA, cB, cC, cD, cE, cF, dD, dE, dF, dG, dH, dI⟩ := cells6 d.out
        have W : 0 ≤ (b : Int) := od_
        have X : b < (c.length : Int) := od_
        obtain ⟨al, av, i, l, m, A, n, B⟩ := at_T35 ak.out b W X
        (try rw [← r.out] at i)
        (try rw [← r.out] at l)
        (try rw [← r.out] at m)
        (try rw [← r.out] at n)
        cases av
        replace i := (HB.out.cell (bk_ w _ i)).trans i
        replace l := (HB.out.cell (bk_ w _ l)).trans l
        replace m := (HB.out.cell (bk_ w _ m)).trans m
        replace A := (HB.out.cell (bk_ w _ A)).trans A
        replace n := (HB.out.cell (bk_ w _ n)).trans n
        replace B := (HB.out.cell (bk_ w _ B)).trans B
        replace W := eq_true W
        replace X := eq_true X
        have bZ : 0 ≤ (b : Int) := od_
        have b0 : (b : Int) < ((a.length : Int) : Int) := od_
        obtain ⟨Q, fK, bA, bC, cr, fI, br⟩ := Kd.R_form HO_962002.out (by omega)
        (first | cases bA | (injection bA with ea_ en_ ec_; (first | subst ea_ | (injection ea_ with ea_; subst ea_)); subst ec_; clear en_))
        have ch := Z bC
        have fC := Z br
        clear bC cr br
        obtain ⟨fE, b7, bE, am, ao⟩ := Kd.R_elem HO_962002.out z35 (b : Int) bZ b0
        obtain rfl := k35_openM bE
        have eH : wr.cell? ⟨Q, (b : Int).toNat * 6, none⟩ = some (.bool ((rd_T35 a b).f0)) := am 0 _ rfl
        have eI : wr.cell? ⟨Q, (b : Int).toNat * 6 + 1, none⟩ = some (.bool ((rd_T35 a b).f1.f0)) := am 1 _ rfl
        have eJ : wr.cell? ⟨Q, (b : Int).toNat * 6 + 2, none⟩ = some (.bool ((rd_T35 a b).f1.f1)) := am 2 _ rfl
        have eK : wr.cell? ⟨Q, (b : Int).toNat * 6 + 3, none⟩ = some (.int .i64 ((rd_T35 a b).f1.f2)) := am 3 _ rfl
        have eL : wr.cell? ⟨Q, (b : Int).toNat * 6 + 4, none⟩ = some (.bool ((rd_T35 a b).f1.f3)) := am 4 _ rfl
        have eM : wr.cell? ⟨Q, (b : Int).toNat * 6 + 5, none⟩ = some (.int .u8 ((rd_T35 a b).f2)) := am 5 _ rfl
        have ev : wr.frozen? ⟨Q, (b : Int).toNat * 6, none⟩ = false := ao 0
        have ew : wr.frozen? ⟨Q, (b : Int).toNat * 6 + 1, none⟩ = false := ao 1
        have ex : wr.frozen? ⟨Q, (b : Int).toNat * 6 + 2, none⟩ = false := ao 2
        have ey : wr.frozen? ⟨Q, (b : Int).toNat * 6 + 3, none⟩ = false := ao 3
        have ez : wr.frozen? ⟨Q, (b : Int).toNat * 6 + 4, none⟩ = false := ao 4
        have eA : wr.frozen? ⟨Q, (b : Int).toNat * 6 + 5, none⟩ = false := ao 5
        clear b7 am ao bE
        replace bZ := eq_true bZ
        replace b0 := eq_true b0
        have bt := Z (show Kd.R k35 35 wr w.heap.size (fun _ => True) (.slice (some ⟨Q, 0, none⟩) a.length aO) a from (by (with_reducible repeat apply pR); exact HO_962002.out))
        obtain ⟨fF, a8, bF, aS, ba⟩ := Kd.R_elem bt.out z35 (b : Int) (od_) (by have h_ : (b : Int) < ((a.length : Int) : Int) := od_; first | exact h_ | (have e_ := (Kd.R_reads' HO_962002.out).1; omega) | simpa using h_)
        obtain rfl := k35_openM bF
        have aW := Kd.R_seg bt.out (b : Int) (od_) (by have h_ : (b : Int) < ((a.length : Int) : Int) := od_; first | exact h_ | (have e_ := (Kd.R_reads' HO_962002.out).1; omega) | simpa using h_) (seg := [.bool false]) (j := 4) a8 aS (show 5 ≤ 6 from by decide) (x' := (⟨(rd_T35 a b).f0, (⟨(rd_T35 a b).f1.f0, (rd_T35 a b).f1.f1, (rd_T35 a b).f1.f2, false⟩ : S33), (rd_T35 a b).f2⟩ : S35)) (k35_mkM _ _ _ (⟨(rd_T35 a b).f0, (⟨(rd_T35 a b).f1.f0, (rd_T35 a b).f1.f1, (rd_T35 a b).f1.f2, false⟩ : S33), (rd_T35 a b).f2⟩ : S35) ) (fun _ hk => hk)
        have bW := aS 4 _ rfl
        (try simp only [show (k35).sz = 6 from rfl, Nat.mul_one, Nat.add_zero] at bW)
        have bO := ba 4
        (try simp only [show (k35).sz = 6 from rfl, Nat.mul_one, Nat.add_zero] at bO)
        clear a8 aS ba bF
        go_wp2_with (first | ((with_reducible refine gate_store (t := 4) (p := 40) rfl ?_); refine sx_ 4 40 (wr.setCell ⟨Q, (b : Int).toNat * 6 + 4, none⟩ (.bool false)) ?_; intro b1 hw; have hg : wr.grownBy b1 (some Q) := (by rw [hw]; exact aW.2); have hp_ : Kd.R k35 35 b1 w.heap.size (fun _ => True) (.slice (some ⟨Q, 0, none⟩) a.length aO) aZ := (by rw [hw, b4.out]; exact aW.1); clear aW; replace d := Z (blk_grown (g := aF) (o := .cells #[.int .i64 s, .int .i64 u, .slice (some al) c.length au, .int .i64 x, .bool y, .bool z] 24 (0, 0)) (vK d.out) hg (Kd.R_ne HO_962002.out d.out (by decide))); replace q := Z (blk_grown (g := V) (o := .cells #[.int .i64 0, .int .i64 0, .slice none 0 0, .int .i64 0, .bool false, .bool false] 24 (0, 0)) (vK q.out) hg (Kd.R_ne HO_962002.out q.out (by decide))); replace D := Z (blk_grown (g := ad) (o := .cells #[.int .i64 E, .int .i64 F, .slice (some ⟨Q, 0, none⟩) a.length aO, .int .i64 G, .bool I, .bool J] 24 (0, 0)) (vK D.out) hg (Kd.R_ne HO_962002.out D.out (by decide))); replace HO_962002 := Z (hp_); replace HB := Z ((by rw [hw]; exact below_set (HB.out) ch.out : Below w.heap.size w b1)); clear hg hw hp_))
        go_roundg k1
        case measure => have := aI.out; omega
        case rel => exact ⟨(wrap64 (b + 1)), (aZ), (.slice (some ⟨Q, 0, none⟩) a.length aO), (dn_), H', ⟨by have := aI.out; omega⟩, ⟨by (with_reducible repeat apply pR); exact HO_962002.out⟩, ⟨vK d.out⟩, ⟨vK q.out⟩, ⟨vK D.out⟩, ⟨bl_⟩⟩
       ·replace a5 := Bool.eq_false_iff.mpr a5
        subst a5
        have H1 : (if ((rd_T35 c b).f1.f0 = true) then (shutterref13_Reset.l0 k1 false (wrap64 (b + 1)) s u c x y z E F a G I J) else (shutterref13_Reset.l0 k1 false (wrap64 (b + 1)) s u c x y z E F (a.set (b : Int).toNat (⟨(rd_T35 a b).f0, (⟨(rd_T35 a b).f1.f0, (rd_T35 a b).f1.f1, (rd_T35 a b).f1.f2, false⟩ : S33), (rd_T35 a b).f2⟩ : S35)) G I J)) = some (r1, r2, r3, r4, r5, r6) := by rw [if_neg (show ¬ (false = true) by decide)] at H; exact H
        clear H
        have H := H1
        clear H1
        obtain ⟨bw, aR⟩ : ∃ b_ : Bool, b_ = ((rd_T35 c b).f1.f0) := ⟨_, rfl⟩
        replace H : (if (bw = true) then (shutterref13_Reset.l0 k1 false (wrap64 (b + 1)) s u c x y z E F a G I J) else (shutterref13_Reset.l0 k1 false (wrap64 (b + 1)) s u c x y z E F (a.set (b : Int).toNat (⟨(rd_T35 a b).f0, (⟨(rd_T35 a b).f1.f0, (rd_T35 a b).f1.f1, (rd_T35 a b).f1.f2, false⟩ : S33), (rd_T35 a b).f2⟩ : S35)) G I J)) = some (r1, r2, r3, r4, r5, r6) := by rw [← aR] at H; exact H
        have K := Z aR
        clear aR
        by_cases a6 : (bw = true)
        ·subst a6
         have H1 : (shutterref13_Reset.l0 k1 false (wrap64 (b + 1)) s u c x y z E F a G I J) = some (r1, r2, r3, r4, r5, r6) := by rw [if_pos rfl] at H; exact H
         clear H
         have H := H1
         clear H1
         have H' := Z H
         clear H
         have e6 := ab.out
         have fn := T.out
         have e7 := ac.out
         have fo := U.out
         obtain ⟨cG, cH, cI, cJ, cK, cL, dJ, dK, dL, dM, dN, dO⟩ := cells6 D.out
         obtain ⟨cf, cj, cn⟩ := Kd.R_slice HO_962002.out
         subst cn
         have e8 := Y.out
         have fp := aa.out
         obtain ⟨cM, cN, cO, cP, cQ, cR, dP, dQ, dR, dS, dT, dU⟩ := cells6 d.out
         have W : 0 ≤ (b : Int) := od_
         have X : b < (c.length : Int) := od_
         obtain ⟨al, av, i, l, m, A, n, B⟩ := at_T35 ak.out b W X
         (try rw [← r.out] at i)
         (try rw [← K.out] at i)
         (try rw [← r.out] at l)
         (try rw [← K.out] at l)
         (try rw [← r.out] at m)
         (try rw [← K.out] at m)
         (try rw [← r.out] at n)
         (try rw [← K.out] at n)
         cases av
         replace i := (HB.out.cell (bk_ w _ i)).trans i
         replace l := (HB.out.cell (bk_ w _ l)).trans l
         replace m := (HB.out.cell (bk_ w _ m)).trans m
         replace A := (HB.out.cell (bk_ w _ A)).trans A
         replace n := (HB.out.cell (bk_ w _ n)).trans n
         replace B := (HB.out.cell (bk_ w _ B)).trans B
         replace W := eq_true W
         replace X := eq_true X
         have aw : 0 ≤ (b : Int) := od_
         have ax : b < (c.length : Int) := od_
         obtain ⟨aN, aY, L, M, O, ae, P, af⟩ := at_T35 ak.out b aw ax
         (try rw [← r.out] at L)
         (try rw [← K.out] at L)
         (try rw [← r.out] at M)
         (try rw [← K.out] at M)
         (try rw [← r.out] at O)
         (try rw [← K.out] at O)
         (try rw [← r.out] at P)
         (try rw [← K.out] at P)
         obtain rfl : al = aN := (by injection aY)
         replace L := (HB.out.cell (bk_ w _ L)).trans L
         replace M := (HB.out.cell (bk_ w _ M)).trans M
         replace O := (HB.out.cell (bk_ w _ O)).trans O
         replace ae := (HB.out.cell (bk_ w _ ae)).trans ae
         replace P := (HB.out.cell (bk_ w _ P)).trans P
         replace af := (HB.out.cell (bk_ w _ af)).trans af
         replace aw := eq_true aw
         replace ax := eq_true ax
         go_wp2
         go_roundg k1
         case measure => have := aI.out; omega
         case rel => exact ⟨(wrap64 (b + 1)), (a), (.slice cf a.length cj), (dn_), H', ⟨by have := aI.out; omega⟩, ⟨by (with_reducible repeat apply pR); exact HO_962002.out⟩, ⟨vK d.out⟩, ⟨vK q.out⟩, ⟨vK D.out⟩, ⟨bl_⟩⟩
        ·replace a6 := Bool.eq_false_iff.mpr a6
         subst a6
         have H1 : (shutterref13_Reset.l0 k1 false (wrap64 (b + 1)) s u c x y z E F (a.set (b : Int).toNat (⟨(rd_T35 a b).f0, (⟨(rd_T35 a b).f1.f0, (rd_T35 a b).f1.f1, (rd_T35 a b).f1.f2, false⟩ : S33), (rd_T35 a b).f2⟩ : S35)) G I J) = some (r1, r2, r3, r4, r5, r6) := by rw [if_neg (show ¬ (false = true) by decide)] at H; exact H
         clear H
         have H := H1
         clear H1
         obtain ⟨a0, aH⟩ : ∃ y_ : List (S35), y_ = (a.set (b : Int).toNat (⟨(rd_T35 a b).f0, (⟨(rd_T35 a b).f1.f0, (rd_T35 a b).f1.f1, (rd_T35 a b).f1.f2, false⟩ : S33), (rd_T35 a b).f2⟩ : S35)) := ⟨_, rfl⟩
         replace H : (shutterref13_Reset.l0 k1 false (wrap64 (b + 1)) s u c x y z E F a0 G I J) = some (r1, r2, r3, r4, r5, r6) := by first | (rw [aH]; with_reducible exact H) | (have aK := (Option.bind_some _ _).symm.trans H; rw [aH]; with_reducible exact aK) | (have aK := (Option.bind_some _ _).symm.trans H; with_reducible exact aK) | with_reducible exact H | (rw [aH]; exact H) | exact H
         have b5 := Z aH
         clear aH
         have H' := Z H
         clear H
         have e9 := ab.out
         have fq := T.out
         have fa := ac.out
         have fr := U.out
         obtain ⟨cS, cT, cU, cV, cW, cX, dV, dW, dX, dY, dZ, d0⟩ := cells6 D.out
         obtain ⟨fB, aP, co⟩ := Kd.R_slice HO_962002.out
         subst co
         have fb := Y.out
         have fs := aa.out
         obtain ⟨cY, cZ, c0, c3, c4, c5, d1, d2, d3, d4, d5, d6⟩ := cells6 d.out
         have W : 0 ≤ (b : Int) := od_
         have X : b < (c.length : Int) := od_
         obtain ⟨al, av, i, l, m, A, n, B⟩ := at_T35 ak.out b W X
         (try rw [← r.out] at i)
         (try rw [← K.out] at i)
         (try rw [← r.out] at l)
         (try rw [← K.out] at l)
         (try rw [← r.out] at m)
         (try rw [← K.out] at m)
         (try rw [← r.out] at n)
         (try rw [← K.out] at n)
         cases av
         replace i := (HB.out.cell (bk_ w _ i)).trans i
         replace l := (HB.out.cell (bk_ w _ l)).trans l
         replace m := (HB.out.cell (bk_ w _ m)).trans m
         replace A := (HB.out.cell (bk_ w _ A)).trans A
         replace n := (HB.out.cell (bk_ w _ n)).trans n
         replace B := (HB.out.cell (bk_ w _ B)).trans B
         replace W := eq_true W
         replace X := eq_true X
         have aw : 0 ≤ (b : Int) := od_
         have ax : b < (c.length : Int) := od_
         obtain ⟨aN, aY, L, M, O, ae, P, af⟩ := at_T35 ak.out b aw ax
         (try rw [← r.out] at L)
         (try rw [← K.out] at L)
         (try rw [← r.out] at M)
         (try rw [← K.out] at M)
         (try rw [← r.out] at O)
         (try rw [← K.out] at O)
         (try rw [← r.out] at P)
         (try rw [← K.out] at P)
         obtain rfl : al = aN := (by injection aY)
         replace L := (HB.out.cell (bk_ w _ L)).trans L
         replace M := (HB.out.cell (bk_ w _ M)).trans M
         replace O := (HB.out.cell (bk_ w _ O)).trans O
         replace ae := (HB.out.cell (bk_ w _ ae)).trans ae
         replace P := (HB.out.cell (bk_ w _ P)).trans P
         replace af := (HB.out.cell (bk_ w _ af)).trans af
         replace aw := eq_true aw
         replace ax := eq_true ax
         have p37 : 0 ≤ (b : Int) := od_
         have q37 : (b : Int) < ((a.length : Int) : Int) := od_
         obtain ⟨S, fL, bB, bD, ct, fJ, bs⟩ := Kd.R_form HO_962002.out (by omega)
         (first | cases bB | (injection bB with ea_ en_ ec_; (first | subst ea_ | (injection ea_ with ea_; subst ea_)); subst ec_; clear en_))
         have ci := Z bD
         have fD := Z bs
         clear bD ct bs
         obtain ⟨fG, b8, bG, an, ap⟩ := Kd.R_elem HO_962002.out z35 (b : Int) p37 q37
         obtain rfl := k35_openM bG
         have eN : wr.cell? ⟨S, (b : Int).toNat * 6, none⟩ = some (.bool ((rd_T35 a b).f0)) := an 0 _ rfl
         have eO : wr.cell? ⟨S, (b : Int).toNat * 6 + 1, none⟩ = some (.bool ((rd_T35 a b).f1.f0)) := an 1 _ rfl
         have eP : wr.cell? ⟨S, (b : Int).toNat * 6 + 2, none⟩ = some (.bool ((rd_T35 a b).f1.f1)) := an 2 _ rfl
         have eQ : wr.cell? ⟨S, (b : Int).toNat * 6 + 3, none⟩ = some (.int .i64 ((rd_T35 a b).f1.f2)) := an 3 _ rfl
         have eR : wr.cell? ⟨S, (b : Int).toNat * 6 + 4, none⟩ = some (.bool ((rd_T35 a b).f1.f3)) := an 4 _ rfl
         have eS : wr.cell? ⟨S, (b : Int).toNat * 6 + 5, none⟩ = some (.int .u8 ((rd_T35 a b).f2)) := an 5 _ rfl
         have eB : wr.frozen? ⟨S, (b : Int).toNat * 6, none⟩ = false := ap 0
         have eC : wr.frozen? ⟨S, (b : Int).toNat * 6 + 1, none⟩ = false := ap 1
         have eD : wr.frozen? ⟨S, (b : Int).toNat * 6 + 2, none⟩ = false := ap 2
         have eE : wr.frozen? ⟨S, (b : Int).toNat * 6 + 3, none⟩ = false := ap 3
         have eF : wr.frozen? ⟨S, (b : Int).toNat * 6 + 4, none⟩ = false := ap 4
         have eG : wr.frozen? ⟨S, (b : Int).toNat * 6 + 5, none⟩ = false := ap 5
         clear b8 an ap bG
         replace p37 := eq_true p37
         replace q37 := eq_true q37
         have bu := Z (show Kd.R k35 35 wr w.heap.size (fun _ => True) (.slice (some ⟨S, 0, none⟩) a.length aP) a from (by (with_reducible repeat apply pR); exact HO_962002.out))
         obtain ⟨fH, a9, bH, aT, bb⟩ := Kd.R_elem bu.out z35 (b : Int) (od_) (by have h_ : (b : Int) < ((a.length : Int) : Int) := od_; first | exact h_ | (have e_ := (Kd.R_reads' HO_962002.out).1; omega) | simpa using h_)
         obtain rfl := k35_openM bH
         have aX := Kd.R_seg bu.out (b : Int) (od_) (by have h_ : (b : Int) < ((a.length : Int) : Int) := od_; first | exact h_ | (have e_ := (Kd.R_reads' HO_962002.out).1; omega) | simpa using h_) (seg := [.bool false]) (j := 4) a9 aT (show 5 ≤ 6 from by decide) (x' := (⟨(rd_T35 a b).f0, (⟨(rd_T35 a b).f1.f0, (rd_T35 a b).f1.f1, (rd_T35 a b).f1.f2, false⟩ : S33), (rd_T35 a b).f2⟩ : S35)) (k35_mkM _ _ _ (⟨(rd_T35 a b).f0, (⟨(rd_T35 a b).f1.f0, (rd_T35 a b).f1.f1, (rd_T35 a b).f1.f2, false⟩ : S33), (rd_T35 a b).f2⟩ : S35) ) (fun _ hk => hk)
         have bX := aT 4 _ rfl
         (try simp only [show (k35).sz = 6 from rfl, Nat.mul_one, Nat.add_zero] at bX)
         have bP := bb 4
         (try simp only [show (k35).sz = 6 from rfl, Nat.mul_one, Nat.add_zero] at bP)
         clear a9 aT bb bH
         go_wp2_with (first | ((with_reducible refine gate_store (t := 4) (p := 40) rfl ?_); refine sx_ 4 40 (wr.setCell ⟨S, (b : Int).toNat * 6 + 4, none⟩ (.bool false)) ?_; intro b2 hw; have hg : wr.grownBy b2 (some S) := (by rw [hw]; exact aX.2); have hp_ : Kd.R k35 35 b2 w.heap.size (fun _ => True) (.slice (some ⟨S, 0, none⟩) a.length aP) a0 := (by rw [hw, b5.out]; exact aX.1); clear aX; replace d := Z (blk_grown (g := aF) (o := .cells #[.int .i64 s, .int .i64 u, .slice (some al) c.length au, .int .i64 x, .bool y, .bool z] 24 (0, 0)) (vK d.out) hg (Kd.R_ne HO_962002.out d.out (by decide))); replace q := Z (blk_grown (g := V) (o := .cells #[.int .i64 0, .int .i64 0, .slice none 0 0, .int .i64 0, .bool false, .bool false] 24 (0, 0)) (vK q.out) hg (Kd.R_ne HO_962002.out q.out (by decide))); replace D := Z (blk_grown (g := ad) (o := .cells #[.int .i64 E, .int .i64 F, .slice (some ⟨S, 0, none⟩) a.length aP, .int .i64 G, .bool I, .bool J] 24 (0, 0)) (vK D.out) hg (Kd.R_ne HO_962002.out D.out (by decide))); replace HO_962002 := Z (hp_); replace HB := Z ((by rw [hw]; exact below_set (HB.out) ci.out : Below w.heap.size w b2)); clear hg hw hp_))
         go_roundg k1
         case measure => have := aI.out; omega
         case rel => exact ⟨(wrap64 (b + 1)), (a0), (.slice (some ⟨S, 0, none⟩) a.length aP), (dn_), H', ⟨by have := aI.out; omega⟩, ⟨by (with_reducible repeat apply pR); exact HO_962002.out⟩, ⟨vK d.out⟩, ⟨vK q.out⟩, ⟨vK D.out⟩, ⟨bl_⟩⟩
      ·replace a4 := Bool.eq_false_iff.mpr a4
       subst a4
       have H1 : (shutterref13_Reset.l0 k1 a1 (wrap64 (b + 1)) s u c x y z E F a G I J) = some (r1, r2, r3, r4, r5, r6) := by rw [if_neg (show ¬ (false = true) by decide)] at H; exact H
       clear H
       have H := H1
       clear H1
       have H' := Z H
       clear H
       have fc := ab.out
       have ft := T.out
       have fd := ac.out
       have fu := U.out
       obtain ⟨c8, c9, da, db, dc, dd, d7, d8, d9, ea, eb, ec⟩ := cells6 D.out
       obtain ⟨cg, ck, cp⟩ := Kd.R_slice HO_962002.out
       subst cp
       have fe := Y.out
       have fv := aa.out
       obtain ⟨de, df, dg, dh, di, dj, ed, ee, ef, eg, eh, ei⟩ := cells6 d.out
       have W : 0 ≤ (b : Int) := od_
       have X : b < (c.length : Int) := od_
       obtain ⟨al, av, i, l, m, A, n, B⟩ := at_T35 ak.out b W X
       (try rw [← r.out] at i)
       (try rw [← r.out] at l)
       (try rw [← r.out] at m)
       (try rw [← r.out] at n)
       cases av
       replace i := (HB.out.cell (bk_ w _ i)).trans i
       replace l := (HB.out.cell (bk_ w _ l)).trans l
       replace m := (HB.out.cell (bk_ w _ m)).trans m
       replace A := (HB.out.cell (bk_ w _ A)).trans A
       replace n := (HB.out.cell (bk_ w _ n)).trans n
       replace B := (HB.out.cell (bk_ w _ B)).trans B
       replace W := eq_true W
       replace X := eq_true X
       go_wp2
       go_roundg k1
       case measure => have := aI.out; omega
       case rel => exact ⟨(wrap64 (b + 1)), (a), (.slice cg a.length ck), (dn_), H', ⟨by have := aI.out; omega⟩, ⟨by (with_reducible repeat apply pR); exact HO_962002.out⟩, ⟨vK d.out⟩, ⟨vK q.out⟩, ⟨vK D.out⟩, ⟨bl_⟩⟩
     ·rw [if_neg a3] at H
      exact absurd H (by simp)
    ·rw [if_neg a2] at H
     exact absurd H (by simp)
   ·rw [if_neg aM] at H
    have b6 : decide (b < (a.length : Int)) = false := decide_eq_false aM
    clear aM
    simp only [Option.some.injEq, Prod.mk.injEq] at H
    obtain ⟨rfl, rfl, rfl, rfl, rfl, rfl⟩ := H
    have ff := ab.out
    have fw := T.out
    have fg := ac.out
    have fx := U.out
    obtain ⟨dk, dl, dm, dn, dp, dq, ej, ek, el, em, en, eo⟩ := cells6 D.out
    obtain ⟨bq, bz, cq⟩ := Kd.R_slice HO_962002.out
    subst cq
    have fh := aa.out
    have fy := Y.out
    obtain ⟨dr, ds, dt, du, dv, dw, ep, eq, er, es, et, eu⟩ := cells6 q.out
    go_wp2
    refine bodyPost_ret (results_cell_row rfl _ _ V 24 #[.int .i64 E, .int .i64 F, .slice bq a.length bz, .int .i64 G, .bool I, .bool J] (0, 0) _ rfl (put6 q.out) Tryd.underlying24 rfl (by kernel_rfl)) rfl ?_
    exact ⟨_, er_, by (with_reducible repeat apply pR); exact Kd.R_mono (f6R V (Kd.R_types HO_962002.out q.out (by decide)) (fun _ hk => hk.2)) (fun _ hk => trivial), bl_⟩

/-! ### shutterref10_Span: function 100 -/
def shutterref10_Span.l0 : Nat → Int → Int → List Int → Int → Int → Int → List (S35) → Int → Bool → Bool → Option (List Int)
 | 0, _, _, _, _, _, _, _, _, _, _ => none
 | k + 1, l, m, h, i, a, b, c, d, e, g => if i = m then (some h) else (if i = l then (some h) else (if h.length < 17592186044416 then ((shutterref10_Next.f a b c d e g i).bind fun j => (shutterref10_Span.l0 k l m (h ++ [i]) j a b c d e g)) else (none)))
def shutterref10_Span.f (k : Nat) (a : Int) (b : Int) (g : List (S35)) (c : Int) (d : Bool) (e : Bool) (a1 : Int) (i : Int) : Option (List Int) := (shutterref10_Next.f a b g c d e a1).bind fun h => (shutterref10_Span.l0 k a1 i (([a1] : List Int)) h a b g c d e)
theorem shutterref10_Span.mono_l : ∀ k, (∀ b c d e f g i j l m, LeO (shutterref10_Span.l0 k b c d e f g i j l m) (shutterref10_Span.l0 (k + 1) b c d e f g i j l m))
 | 0 => fun _ _ _ _ _ _ _ _ _ _ r h => by simp [shutterref10_Span.l0] at h
 | k + 1 => by
  have a := shutterref10_Span.mono_l k
  ·intro b c d e f g i j l m
   unfold shutterref10_Span.l0
   repeat' first
   | (with_reducible exact a _ _ _ _ _ _ _ _ _ _)
   | (with_reducible exact LeO.refl _)
   | (with_reducible exact LeO.none _)
   | (with_reducible refine LeO.ite ?_ ?_)
   | (with_reducible refine LeO.bind ?_ (fun _ => ?_))
   | exact a _ _ _ _ _ _ _ _ _ _
   | exact LeO.none _
   | refine LeO.ite ?_ ?_
   | refine LeO.bind ?_ (fun _ => ?_)
theorem shutterref10_Span.mono : ∀ a0 a1 b c a4 d e g k, LeO (shutterref10_Span.f k a0 a1 b c a4 d e g) (shutterref10_Span.f (k + 1) a0 a1 b c a4 d e g) := by
 intro a0 a1 b c a4 d e g k
 have a := shutterref10_Span.mono_l k
 unfold shutterref10_Span.f
 repeat' first
   | (with_reducible exact a _ _ _ _ _ _ _ _ _ _)
   | (with_reducible exact LeO.refl _)
   | (with_reducible exact LeO.none _)
   | (with_reducible refine LeO.ite ?_ ?_)
   | (with_reducible refine LeO.bind ?_ (fun _ => ?_))
   | exact a _ _ _ _ _ _ _ _ _ _
   | exact LeO.none _
   | refine LeO.ite ?_ ?_
   | refine LeO.bind ?_ (fun _ => ?_)
set_option maxHeartbeats 8000000 in
set_option maxRecDepth 100000 in
theorem shutterref10_Span.calls (k : Nat) (i : Int) (j : Int) (u : Option Addr) (v : Nat) (c : List (S35)) (l : Int) (m : Bool) (n : Bool) (a1 : Int) (A : Int) (r : List Int) (w : World) (V : Kd.C k35 w u c.length c) (U : c.length ≤ v) (h : shutterref10_Span.f k i j c l m n a1 A = some r) :
  Calls Tryd.prog 100 #[.agg #[.int .i64 i, .int .i64 j, .slice u c.length v, .int .i64 l, .bool m, .bool n], .int .i64 a1, .int .i64 A] w fun e w' => ∃ av : Value, e = .returned (av) ∧ Kd.R (Kd.int .i64) 3 w' w.heap.size (fun _ => True) av r ∧ Below w.heap.size w w' := by
 have aT := Tryd.underlying24
 have Q := Z V
 have P := Z U
 clear V U
 have HB := Z (Below.refl w.heap.size w)
 have H : ((shutterref10_Next.f i j c l m n a1).bind fun x => (shutterref10_Span.l0 k a1 A (([a1] : List Int)) x i j c l m n)) = some r := h
 clear h
 obtain ⟨L, y⟩ : ∃ y_ : List Int, y_ = (([a1] : List Int)) := ⟨_, rfl⟩
 replace H : ((shutterref10_Next.f i j c l m n a1).bind fun x => (shutterref10_Span.l0 k a1 A L x i j c l m n)) = some r := by first | (rw [y]; with_reducible exact H) | (have G := (Option.bind_some _ _).symm.trans H; rw [y]; with_reducible exact G) | (have G := (Option.bind_some _ _).symm.trans H; with_reducible exact G) | with_reducible exact H | (rw [y]; exact H) | exact H
 have S := Z y
 clear y
 replace H := Option.bind_eq_some_iff.mp H
 obtain ⟨x, aq, H⟩ := H
 replace H : (shutterref10_Span.l0 k a1 A L x i j c l m n) = some r := H
 have A4 := Z aq
 clear aq
 have H' := Z H
 clear H
 go_enter Tryd.func100, Tryd.ntmps100
 go_wp2_with (first | ((with_reducible refine gate_dst (N := 3) rfl ?_); refine bx_ 3 24 #[.int .i64 i, .int .i64 j, .slice u c.length v, .int .i64 l, .bool m, .bool n] ?_; intro F hg w5 hbox hb; have a := Z (hbox); have aQ := Z (ln_ hg : w.heap.size ≤ F); have aN := Z (ln_ hg : w.heap.size ≤ F); replace HB := Z (below_step bl_ hb); clear hb hbox hg) | ((with_reducible refine gate_dst (N := 10) rfl ?_); refine Kd.R_lit (Kd.int .i64) _ 3 ?hg (N := 10) ?hd (xs := ([a1] : List Int)) (inner := [.int .i64 a1]) (ok := fun _ => True) (okp := fun _ => True) ?hr ?hp (fun _ hk => hk) trivial (Below.refl _ _) (Nat.le_refl _) (by simp) ?_; (case hd => rfl); (case hg => rfl); (case hr => first | (go_simp; done) | (go_simp; rfl)); (case hp => exact (Reps.one (show Kd.M (Kd.int .i64) _ _ _ a1 [.int .i64 a1] from rfl) (Reps.none _ _))); intro aW w6 K hb hg_ hnew_; clear hg_ hnew_; (first | rw [← S.out] at K | (simp only [Int.reduceToNat] at K; rw [← S.out] at K)); have D := Z (Kd.R_lower K (below_size bl_)); replace a := Z (kb a.out hb); replace HB := Z (below_step bl_ hb); clear hb K; obtain ⟨X, Y, aa, ab, ac, ad, ae, af, ag, ah, ai, aj⟩ := cells6 a.out) | ((with_reducible refine gate_callee (f := 59) rfl ?_); refine goesL_ (some 13) rfl rfl Tryd.func59 (by kernel_rfl) rfl #[.agg #[.int .i64 i, .int .i64 j, .slice u c.length v, .int .i64 l, .bool m, .bool n], .int .i64 a1] rfl ag_ ?_; (with_reducible refine (shutterref10_Next.calls i j _ _ c l m n a1 x _ ?side1 ?side2 A4.out).mono ?_); (case side1 => repeat (first | exact (Kd.C_below Q.out HB.out) | (with_reducible apply pC))); (case side2 => exact P.out); rintro e w9 ⟨rfl, hb⟩; refine ⟨_, rfl, ?_⟩; replace D := Z (rb D.out hb); replace a := Z (kb a.out hb); replace HB := Z (below_step bl_ hb); (try clear hb); (try clear aM); (try clear hk); (try clear hi)))
 go_loopg [7, 8] k (fun kq v7 v8 w' => ∃ (B : List Int) (d : Int), v8 = .int .i64 d ∧ Aside0 (shutterref10_Span.l0 kq a1 A B d i j c l m n = some r) ∧ Aside0 (kq ≤ k) ∧ Aside0 (Kd.R (Kd.int .i64) 3 w' w.heap.size (fun _ => True) v7 B) ∧ Aside0 (w'.heap[F]? = some (.cells #[.int .i64 i, .int .i64 j, (.slice u c.length v), .int .i64 l, .bool m, .bool n] 24 (0, 0))) ∧ Aside0 (Below w.heap.size w w'))
 case atStart => exact ⟨(L), (x), (dn_), H', ⟨Nat.le_refl _⟩, ⟨by (with_reducible repeat apply pR); exact D.out⟩, ⟨vK a.out⟩, ⟨bl_⟩⟩
 case round =>
  clear H'
  try clear c1
  try clear p2
  try clear c5
  try clear X
  try clear Y
  try clear aa
  try clear ab
  try clear ac
  try clear ad
  try clear ae
  try clear af
  try clear ag
  try clear ah
  try clear ai
  try clear aj
  obtain ⟨B, d, rfl, HA, ar, HO_7, a, HB⟩ := hrel
  cases gk with
  | zero => exact absurd HA.out (by simp [shutterref10_Span.l0])
  | succ k1 =>
   have H := HA.out
   clear HA
   simp only [shutterref10_Span.l0] at H
   by_cases c10 : d = A
   ·rw [if_pos c10] at H
    have am : (d == A) = true := beq_iff_eq.mpr c10
    have an : (d != A) = false := bne_eq_false_iff_eq.mpr c10
    clear c10
    obtain rfl := Option.some.inj H
    go_wp2
    go_ret
    exact ⟨_, er_, by (with_reducible repeat apply pR); exact HO_7.out, bl_⟩
   ·rw [if_neg c10] at H
    have am : (d == A) = false := beq_eq_false_iff_ne.mpr c10
    have an : (d != A) = true := bne_iff_ne.mpr c10
    by_cases I : d = a1
    ·rw [if_pos I] at H
     have ao : (d == a1) = true := beq_iff_eq.mpr I
     have ap : (d != a1) = false := bne_eq_false_iff_eq.mpr I
     clear I
     obtain rfl := Option.some.inj H
     go_wp2
     go_ret
     exact ⟨_, er_, by (with_reducible repeat apply pR); exact HO_7.out, bl_⟩
    ·rw [if_neg I] at H
     have ao : (d == a1) = false := beq_eq_false_iff_ne.mpr I
     have ap : (d != a1) = true := bne_iff_ne.mpr I
     by_cases T : B.length < 17592186044416
     ·rw [if_pos T] at H
      have ak := Z T
      clear T
      obtain ⟨O, z⟩ : ∃ y_ : List Int, y_ = (B ++ [d]) := ⟨_, rfl⟩
      replace H : ((shutterref10_Next.f i j c l m n d).bind fun J => (shutterref10_Span.l0 k1 a1 A O J i j c l m n)) = some r := by first | (rw [z]; with_reducible exact H) | (have G := (Option.bind_some _ _).symm.trans H; rw [z]; with_reducible exact G) | (have G := (Option.bind_some _ _).symm.trans H; with_reducible exact G) | with_reducible exact H | (rw [z]; exact H) | exact H
      have al := Z z
      clear z
      replace H := Option.bind_eq_some_iff.mp H
      obtain ⟨J, W, H⟩ := H
      replace H : (shutterref10_Span.l0 k1 a1 A O J i j c l m n) = some r := H
      have aK := Z W
      clear W
      have H' := Z H
      clear H
      go_wp2_with (first | ((with_reducible refine gate_builtin (b := .append) (xs := #[.tmp 22, .tmp 24]) rfl ?_); at_builtin; refine Kd.R_append (Kd.int .i64) (w0 := w) w.heap.size rfl (.tmp 22) (.tmp 24) 41 3 (.int .i64 0) 8 rfl Tryd.underlying41 info3 rfl (by decide) (by omega) u7 B d [.int .i64 d] (fun _ => True) (fun _ => False) rfl rfl ?aP (fun _ hk => hk.elim) ?aF ?aO ?aB ?aS ?aL ?_; (case aP => exact rfl); (case aB => exact bl_); (case aF => exact (fun _ _ => trivial)); (case aO => exact (by (with_reducible repeat apply pR); exact HO_7.out)); (case aS => exact (below_size bl_)); (case aL => have := ak.out; omega); intro aX aY ho hb hg hat; rw [← al.out] at ho; replace a := Z (blk_grown (g := F) (o := .cells #[.int .i64 i, .int .i64 j, .slice u c.length v, .int .i64 l, .bool m, .bool n] 24 (0, 0)) (vK a.out) hg (Kd.R_ne HO_7.out a.out (by decide))); replace HB := Z (hb); have E := Z (ho); clear HO_7; clear ho hb hg hat; obtain ⟨aw, ax, ay, az, aA, aC, aD, aE, aG, aH, aI, aJ⟩ := cells6 a.out) | ((with_reducible refine gate_callee (f := 59) rfl ?_); refine goesL_ (some 28) rfl rfl Tryd.func59 (by kernel_rfl) rfl #[.agg #[.int .i64 i, .int .i64 j, .slice u c.length v, .int .i64 l, .bool m, .bool n], .int .i64 d] rfl ag_ ?_; (with_reducible refine (shutterref10_Next.calls i j _ _ c l m n d J _ ?side1 ?side2 aK.out).mono ?_); (case side1 => repeat (first | exact (Kd.C_below Q.out HB.out) | (with_reducible apply pC))); (case side2 => exact P.out); rintro e aZ ⟨rfl, hb⟩; refine ⟨_, rfl, ?_⟩; replace E := Z (rb E.out hb); replace a := Z (kb a.out hb); replace HB := Z (below_step bl_ hb); (try clear hb); (try clear aM); (try clear hk); (try clear hi)))
      go_roundg k1
      case measure => have := ar.out; omega
      case rel => exact ⟨(O), (J), (dn_), H', ⟨by have := ar.out; omega⟩, ⟨by (with_reducible repeat apply pR); exact E.out⟩, ⟨vK a.out⟩, ⟨bl_⟩⟩
     ·rw [if_neg T] at H
      exact absurd H (by simp)

-- NOT PRINTED: function 95 (shutterref12_One)

-- NOT PRINTED: function 77 (shutterref12_All)

end Go.Proofs.YtggecanpjkpkiaaDoor.P
