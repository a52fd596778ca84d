/- pp.py and press2.py (wip/tools) wrote this text. -/
import Derived.Test.YtphboakgkmjpbaaGreatDoorJHostDoes1
import Derived.Test.YtphboakgkmjpbaaGreatDoorPx25
namespace Go.Proofs.YtphboakgkmjpbaaGreatDoor.P
open Go.RowKit Go.Proofs.YtphboakgkmjpbaaGreatDoorW.PrintWords Go.Proofs.YtphboakgkmjpbaaGreatDoorW.PrintLast Go.Proofs.YtphboakgkmjpbaaGreatDoorW.PrintMore
attribute [local go_sem] max2_int min2_int max_two min_two max_three min_three max_four min_four
attribute [local go_sem] Instr.field asAgg
set_option linter.unusedVariables false
set_option linter.unusedSimpArgs false
set_option maxHeartbeats 8000000
set_option maxRecDepth 100000

/-! ### shutterref12_All: function 31 -/
def shutterref12_All.l0 : Nat → Int → List (S49) → Int → Int → Int → List (S47) → Int → Bool → Bool → Option (Int × Int × (List (S47)) × Int × Bool × Bool × Int)
 | 0, _, _, _, _, _, _, _, _, _ => none
 | k + 1, l, c, b, d, e, g, h, i, j => if b < (c.length : Int) then (if 0 ≤ b then ((shutterref12_One.f k d e g h i j l ((rd_T49 c b).f0) ((rd_T49 c b).f1) ((rd_T49 c b).f2.f0) ((rd_T49 c b).f2.f1) ((rd_T49 c b).f2.f2) ((rd_T49 c b).f2.f3) ((rd_T49 c b).f3) ((rd_T49 c b).f4)).bind fun a => (shutterref12_All.l0 k a.2.2.2.2.2.2 c (wrap64 (b + 1)) a.1 a.2.1 a.2.2.1 a.2.2.2.1 a.2.2.2.2.1 a.2.2.2.2.2.1)) else (none)) else (some (d, e, g, h, i, j, l))
def shutterref12_All.f (k : Nat) (a b : Int) (g : List (S47)) (c : Int) (d e : Bool) (a1 : Int) (l2 : List (S49)) : Option (Int × Int × (List (S47)) × Int × Bool × Bool × Int) := shutterref12_All.l0 k a1 l2 0 a b g c d e
theorem shutterref12_All.mono_l : ∀ k, (∀ b c d e f g i j l, LeO (shutterref12_All.l0 k b c d e f g i j l) (shutterref12_All.l0 (k + 1) b c d e f g i j l))
 | 0 => fun _ _ _ _ _ _ _ _ _ r h => by simp [shutterref12_All.l0] at h
 | k + 1 => by
  have a := shutterref12_All.mono_l k
  ·intro b c d e f g i j l
   unfold shutterref12_All.l0
   repeat' first
   | (with_reducible exact a _ _ _ _ _ _ _ _ _)
   | (with_reducible exact shutterref12_One.mono _ _ _ _ _ _ _ _ _ _ _ _ _ _ _ _)
   | (with_reducible exact LeO.refl _)
   | (with_reducible exact LeO.none _)
   | (with_reducible refine LeO.ite ?_ ?_)
   | (with_reducible refine LeO.bind ?_ (fun _ => ?_))
   | exact a _ _ _ _ _ _ _ _ _
   | exact shutterref12_One.mono _ _ _ _ _ _ _ _ _ _ _ _ _ _ _ _
   | exact LeO.none _
   | refine LeO.ite ?_ ?_
   | refine LeO.bind ?_ (fun _ => ?_)
theorem shutterref12_All.mono : ∀ a0 a1 b c a4 d e g k, LeO (shutterref12_All.f k a0 a1 b c a4 d e g) (shutterref12_All.f (k + 1) a0 a1 b c a4 d e g) := by
 intro a0 a1 b c a4 d e g k
 have a := shutterref12_All.mono_l k
 unfold shutterref12_All.f
 repeat' first
   | (with_reducible exact a _ _ _ _ _ _ _ _ _)
   | (with_reducible exact shutterref12_One.mono _ _ _ _ _ _ _ _ _ _ _ _ _ _ _ _)
   | (with_reducible exact LeO.refl _)
   | (with_reducible exact LeO.none _)
   | (with_reducible refine LeO.ite ?_ ?_)
   | (with_reducible refine LeO.bind ?_ (fun _ => ?_))
   | exact a _ _ _ _ _ _ _ _ _
   | exact shutterref12_One.mono _ _ _ _ _ _ _ _ _ _ _ _ _ _ _ _
   | exact LeO.none _
   | refine LeO.ite ?_ ?_
   | refine LeO.bind ?_ (fun _ => ?_)
def shutterref12_All.T4 : Bool × List (List Nat × List Nat) := (true, [([], []), ([], []), ([], []), ([], []), ([2, 3], [2, 3]), ([4], [4]), ([0, 1, 5], [0, 1, 5]), ([6], [6]), ([7], [7]), ([7], [7]), ([], []), ([10, 8, 6, 0, 1, 2, 3, 4, 5, 6, 7, 8, 10], [8, 10]), ([9, 11, 0, 1, 2, 3, 4, 5, 6, 7, 8, 9, 10, 11], [9])])
def shutterref12_All.B4 : List Nat := [0, 0, 0, 0, 12, 28, 63, 127, 255, 255, 0, 1535, 4095]
theorem shutterref12_All.tab4 : rtab .any (opsOf Tryz.f31 4) = shutterref12_All.T4 := by kernel_rfl
theorem shutterref12_All.bits4 : waitsOk shutterref12_All.T4.2 shutterref12_All.B4 = true := by kernel_rfl
theorem shutterref12_All.calls (k : Nat) (aP aQ : Int) (aD : Nat → Prop) (aO : Option Addr) (aU : Nat) (ai : List (S47)) (aR : Int) (aS aT : Bool) (a1 : Int) (A2 : Option Addr) (c2 : Nat) (l2 : List (S49)) (r1 r2 : Int) (r3 : List (S47)) (r4 : Int) (r5 r6 : Bool) (r7 : Int) (w : World) (bf : Kd.V k47 47 w w.heap.size (fun k_ => aD k_) (.slice aO ai.length aU) ai) (bw : Kd.C k49 w A2 l2.length l2) (bu : l2.length ≤ c2) (h : shutterref12_All.f k aP aQ ai aR aS aT a1 l2 = some (r1, r2, r3, r4, r5, r6, r7)) :
  Calls Tryz.prog 31 #[.agg #[.int .i64 aP, .int .i64 aQ, .slice aO ai.length aU, .int .i64 aR, .bool aS, .bool aT], .int .i64 a1, .slice A2 l2.length c2] w fun e w' => ∃ bx : Value, e = .returned (.tuple #[.agg #[.int .i64 r1, .int .i64 r2, bx, .int .i64 r4, .bool r5, .bool r6], .int .i64 r7]) ∧ Kd.V k47 47 w' w.heap.size (fun k_ => (aD k_ ∨ w.heap.size ≤ k_)) bx r3 ∧ Below w.heap.size w w' := by
 have dw := Tryz.underlying24
 have dx := Tryz.underlying49
 have au := Z (show Kd.V k47 47 w w.heap.size (fun k_ => (aD k_ ∨ w.heap.size ≤ k_)) (.slice aO ai.length aU) ai from Kd.V_mono bf (fun k_ hk => .inl hk))
 have cP := Z bw
 have dK := Z bu
 clear bw bu
 have HB := Z (Below.refl w.heap.size w)
 unfold shutterref12_All.f at h
 have H := h
 clear h
 have H' := Z H
 clear H
 go_enter Tryz.func31, Tryz.ntmps31
 go_wp2_with (first | ((with_reducible refine gD_ 3 rfl ?_); refine bx_ 3 24 #[.int .i64 aP, .int .i64 aQ, .slice aO ai.length aU, .int .i64 aR, .bool aS, .bool aT] ?_; intro B hg w4 hbox hb; replace au := ve' au hg hb; have g := Z hbox; have c5 := ln' w hg; replace HB := bs_ hb; clear hb hbox hg) | ((with_reducible refine gD_ 6 rfl ?_); refine bx_ 6 24 zS_ ?_; intro Q hg w5 hbox hb; replace au := ve' au hg hb; have G := Z hbox; have c8 := ln' w hg; replace HB := bs_ hb; have aK := nl' g hg; replace g := kb' g hb; clear hb hbox hg))
 go_loopg [1, 8] k (fun kq v1 v8 w' => ∃ (aF : Int) (d : Int) (J : Int) (I : Int) (z : List (S47)) (E : Int) (D : Bool) (A : Bool) (GB : Value), v1 = .int .i64 aF ∧ v8 = .int .i64 d ∧ Aside0 (shutterref12_All.l0 kq aF l2 d J I z E D A = some (r1, r2, r3, r4, r5, r6, r7)) ∧ Aside0 (kq ≤ k) ∧ Aside0 (Kd.V k47 47 w' w.heap.size (fun k_ => (aD k_ ∨ w.heap.size ≤ k_) ∧ k_ ≠ B ∧ k_ ≠ Q) GB z) ∧ Aside0 (w'.heap[B]? = some (.cells #[.int .i64 J, .int .i64 I, GB, .int .i64 E, .bool D, .bool A] 24 (0, 0))) ∧ Aside0 (w'.heap[Q]? = some (.cells zS_ 24 (0, 0))) ∧ Aside0 (Below w.heap.size w w'))
 case atStart => exact ⟨(a1), (0), (aP), (aQ), (ai), (aR), (aS), (aT), (.slice aO ai.length aU), (dn_), (dn_), H', ⟨Nat.le_refl _⟩, ⟨by (with_reducible repeat apply pV); exact Kd.V_mono au.out im_⟩, ⟨vK g.out⟩, ⟨vK G.out⟩, ⟨bl_⟩⟩
 case round =>
  clear H'
  obtain ⟨aF, d, J, I, z, E, D, A, GB, rfl, rfl, HA, bh, GA, g, G, HB⟩ := hrel
  cases gk with
  | zero => exact absurd HA.out (by simp [shutterref12_All.l0])
  | succ k1 =>
   have H := HA.out
   clear HA
   simp only [shutterref12_All.l0] at H
   by_cases c6 : d < (l2.length : Int)
   rotate_left
   ·rw [if_neg c6] at H
    have bz := decide_eq_false c6
    clear c6
    obtain ⟨rfl, rfl, rfl, rfl, rfl, rfl, rfl⟩ := ij7_ H
    have di := ns_ aK
    have bO := cells6 g.out
    have bU := cells6 G.out
    obtain ⟨a3, a4, bB⟩ := Kd.V_slice GA.out
    subst bB
    go_wp2
    refine rc2_ (put6 G.out) Tryz.underlying24 ?_
    exact ⟨_, er_, by (with_reducible repeat apply pV); exact Kd.V_mono (f6V Q (Kd.V_mono GA.out (fun k_ hk => (⟨hk, hk.2.2⟩ : _ ∧ k_ ≠ Q))) im_) im_, bl_⟩
   rw [if_pos c6] at H
   have bz := decide_eq_true c6
   clear c6
   obtain ⟨c7, H⟩ := gt_ H
   have dn := decide_eq_true c7
   clear c7
   replace H := bn_ H
   obtain ⟨⟨ac, ad, ae, ag, aj, av, aE⟩, A8, H⟩ := H
   try dsimp only at H
   have H' := Z H
   clear H
   obtain ⟨aw, ax, cQ⟩ := Kd.V_slice GA.out
   subst cQ
   try go_wp2
   replace GA := Z (Kd.V_drew GA.out)
   replace g := Z (blk_drew g.out)
   replace G := Z (blk_drew G.out)
   replace HB := Z (below_drew1 HB.out)
   have a0 : 0 ≤ (d : Int) := od_
   have a2 : d < (l2.length : Int) := od_
   obtain ⟨y, ay, az, bA, ak, al, am, an, ao, ap, aq, ar, aZ, aY⟩ := at_T49 cP.out d a0 a2
   have x := ar
   have u := aq
   have s := ap
   have r := ao
   have q := an
   have o := am
   have m := al
   have l := ak
   cases bA
   replace ak := hc_ HB ak
   replace al := hc_ HB al
   replace am := hc_ HB am
   replace an := hc_ HB an
   replace ao := hc_ HB ao
   replace ap := hc_ HB ap
   replace aq := hc_ HB aq
   replace ar := hc_ HB ar
   have aH := Z aY
   have aX := Z aZ
   clear aY aZ
   replace a0 := eq_true a0
   replace a2 := eq_true a2
   refine start_ (n := 13) (S := fun w' => w'.cell? ⟨B, 0, none⟩ = some (.int .i64 J) ∧ w'.cell? ⟨B, 1, none⟩ = some (.int .i64 I) ∧ w'.cell? ⟨B, 2, none⟩ = some (.slice aw z.length ax) ∧ w'.cell? ⟨B, 3, none⟩ = some (.int .i64 E) ∧ w'.cell? ⟨B, 4, none⟩ = some (.bool D) ∧ w'.cell? ⟨B, 5, none⟩ = some (.bool A) ∧ w'.cell? (y.add ((d).toNat * 8)) = some (.int .i64 ((rd_T49 l2 d).f0)) ∧ w'.cell? ⟨(y.add ((d).toNat * 8)).block, (y.add ((d).toNat * 8)).off + 1, none⟩ = some (.slice ay ((rd_T49 l2 d).f1).length az) ∧ w'.cell? ⟨(y.add ((d).toNat * 8)).block, (y.add ((d).toNat * 8)).off + 2, none⟩ = some (.bool ((rd_T49 l2 d).f2.f0)) ∧ w'.cell? ⟨(y.add ((d).toNat * 8)).block, (y.add ((d).toNat * 8)).off + 3, none⟩ = some (.bool ((rd_T49 l2 d).f2.f1)) ∧ w'.cell? ⟨(y.add ((d).toNat * 8)).block, (y.add ((d).toNat * 8)).off + 4, none⟩ = some (.int .i64 ((rd_T49 l2 d).f2.f2)) ∧ w'.cell? ⟨(y.add ((d).toNat * 8)).block, (y.add ((d).toNat * 8)).off + 5, none⟩ = some (.bool ((rd_T49 l2 d).f2.f3)) ∧ w'.cell? ⟨(y.add ((d).toNat * 8)).block, (y.add ((d).toNat * 8)).off + 6, none⟩ = some (.int .i64 ((rd_T49 l2 d).f3)) ∧ w'.cell? ⟨(y.add ((d).toNat * 8)).block, (y.add ((d).toNat * 8)).off + 7, none⟩ = some (.int .u8 ((rd_T49 l2 d).f4))) (ds := []) (bv 13 0) (by kernel_rfl) rfl rfl ⟨(blk_cell g.out 0).trans rfl, (blk_cell g.out 1).trans rfl, (blk_cell g.out 2).trans rfl, (blk_cell g.out 3).trans rfl, (blk_cell g.out 4).trans rfl, (blk_cell g.out 5).trans rfl, ((HB.out.cell (bk_ w _ l)).trans l), ((HB.out.cell (bk_ w _ m)).trans m), ((HB.out.cell (bk_ w _ o)).trans o), ((HB.out.cell (bk_ w _ q)).trans q), ((HB.out.cell (bk_ w _ r)).trans r), ((HB.out.cell (bk_ w _ s)).trans s), ((HB.out.cell (bk_ w _ u)).trans u), ((HB.out.cell (bk_ w _ x)).trans x)⟩ (fun hHeld => ?_); refine with_tabW shutterref12_All.tab4 shutterref12_All.bits4 (fun HT_ HW_ => ?_)
   generalize wr.drew = dL at GA g G HB aH ak al am an ao ap aq ar hHeld ⊢
   refine pT_ HT_ 1 13 2 (some 19) ?_
   refine pT_ HT_ 2 13 6 (some 20) ?_
   refine pT_ HT_ 3 13 14 (some 21) ?_
   refine pT_ HT_ 4 13 30 (some 22) ?_
   refine tT_ HT_ HW_ hHeld 0 13 31 (some 18) ?_
   refine tT_ HT_ HW_ hHeld 5 13 63 (some 23) ?_
   refine join_ (σ := Value × Nat) 2 (bv 13 2047) (fun s_ => [(24, .tuple #[.agg #[.int .i64 ac, .int .i64 ad, s_.1, .int .i64 ag, .bool aj, .bool av], .int .i64 aE]), (9, .pointer (some ⟨s_.2, 0, none⟩)), (17, .tuple #[.agg #[.int .i64 ac, .int .i64 ad, s_.1, .int .i64 ag, .bool aj, .bool av], .int .i64 aE]), (25, .agg #[.int .i64 ac, .int .i64 ad, s_.1, .int .i64 ag, .bool aj, .bool av]), (26, .int .i64 aE)]) (fun s_ w' => (w'.cell? ⟨B, 0, none⟩ = some (.int .i64 J) ∧ w'.cell? ⟨B, 1, none⟩ = some (.int .i64 I) ∧ w'.cell? ⟨B, 2, none⟩ = some (.slice aw z.length ax) ∧ w'.cell? ⟨B, 3, none⟩ = some (.int .i64 E) ∧ w'.cell? ⟨B, 4, none⟩ = some (.bool D) ∧ w'.cell? ⟨B, 5, none⟩ = some (.bool A) ∧ w'.cell? (y.add ((d).toNat * 8)) = some (.int .i64 ((rd_T49 l2 d).f0)) ∧ w'.cell? ⟨(y.add ((d).toNat * 8)).block, (y.add ((d).toNat * 8)).off + 1, none⟩ = some (.slice ay ((rd_T49 l2 d).f1).length az) ∧ w'.cell? ⟨(y.add ((d).toNat * 8)).block, (y.add ((d).toNat * 8)).off + 2, none⟩ = some (.bool ((rd_T49 l2 d).f2.f0)) ∧ w'.cell? ⟨(y.add ((d).toNat * 8)).block, (y.add ((d).toNat * 8)).off + 3, none⟩ = some (.bool ((rd_T49 l2 d).f2.f1)) ∧ w'.cell? ⟨(y.add ((d).toNat * 8)).block, (y.add ((d).toNat * 8)).off + 4, none⟩ = some (.int .i64 ((rd_T49 l2 d).f2.f2)) ∧ w'.cell? ⟨(y.add ((d).toNat * 8)).block, (y.add ((d).toNat * 8)).off + 5, none⟩ = some (.bool ((rd_T49 l2 d).f2.f3)) ∧ w'.cell? ⟨(y.add ((d).toNat * 8)).block, (y.add ((d).toNat * 8)).off + 6, none⟩ = some (.int .i64 ((rd_T49 l2 d).f3)) ∧ w'.cell? ⟨(y.add ((d).toNat * 8)).block, (y.add ((d).toNat * 8)).off + 7, none⟩ = some (.int .u8 ((rd_T49 l2 d).f4))) ∧ (Kd.R k47 47 w' w.heap.size (fun k_ => (w.heap.size ≤ k_)) s_.1 ae) ∧ (Kd.V k47 47 w' w.heap.size (fun k_ => (aD k_ ∨ w.heap.size ≤ k_) ∧ some k_ ≠ (s_.1 : Value).ownBlock ∧ k_ ≠ B ∧ k_ ≠ Q ∧ k_ ≠ s_.2) (.slice aw z.length ax) z) ∧ (w'.heap[B]? = some (.cells #[.int .i64 J, .int .i64 I, .slice aw z.length ax, .int .i64 E, .bool D, .bool A] 24 (0, 0))) ∧ (w'.heap[Q]? = some (.cells zS_ 24 (0, 0))) ∧ (w'.heap[s_.2]? = some (.cells zS_ 24 (0, 0))) ∧ (w.heap.size ≤ s_.2) ∧ (w.heap.size ≤ s_.2) ∧ (B ≠ s_.2) ∧ (s_.2 ≠ B) ∧ (Q ≠ s_.2) ∧ (s_.2 ≠ Q) ∧ (Below w.heap.size w w')) ?_ ?_
   rotate_left
   ·intro hCont
    refine two_ (i := 6) (j := 10) (Ni := some 24) (Nj := some 9) (bv 13 127) (bv 13 1087) rfl rfl rfl rfl (two_of HT_.out (by kernel_rfl)) (by decide) (by decide) (fun K hK => ?_) (fun K hK => ?_)
    ·skip
     refine goes_ Tryz.func55 (by kernel_rfl) rfl #[.agg #[.int .i64 J, .int .i64 I, .slice aw z.length ax, .int .i64 E, .bool D, .bool A], .int .i64 aF, .agg #[.int .i64 ((rd_T49 l2 d).f0), .slice ay ((rd_T49 l2 d).f1).length az, .bool ((rd_T49 l2 d).f2.f0), .bool ((rd_T49 l2 d).f2.f1), .int .i64 ((rd_T49 l2 d).f2.f2), .bool ((rd_T49 l2 d).f2.f3), .int .i64 ((rd_T49 l2 d).f3), .int .u8 ((rd_T49 l2 d).f4)]] (by rfl) rfl rfl ag_ ?_
     with_reducible refine (shutterref12_One.calls k1 J I _ _ z E D A aF ((rd_T49 l2 d).f0) _ _ ((rd_T49 l2 d).f1) ((rd_T49 l2 d).f2.f0) ((rd_T49 l2 d).f2.f1) ((rd_T49 l2 d).f2.f2) ((rd_T49 l2 d).f2.f3) ((rd_T49 l2 d).f3) ((rd_T49 l2 d).f4) ac ad ae ag aj av aE _ ?side1 ?side2 ?side3 ?side4 A8.out).mono ?_
     (case side1 => repeat (first | exact (Kd.V_reads' GA.out).2.2 | (with_reducible apply pC)))
     (case side2 => exact (Kd.V_reads' GA.out).2.1)
     (case side3 => repeat (first | exact (Kd.C_below aH.out HB.out) | (with_reducible apply pC)))
     (case side4 => exact aX.out)
     rintro e cZ ⟨aJ, rfl, aV, hb⟩
     refine ⟨_, rfl, ?_⟩
     have W := Z (Kd.V_elder' (vV GA.out) (Kd.R_base aV) hb)
     have X := rn_ w aV
     have Y := kb' g hb
     have aa := kb' G hb
     have ab := bs_ hb
     clear GA
     clear g
     clear G
     clear HB
     have GA := W
     have af := X
     have g := Y
     have G := aa
     have HB := ab
     clear W X Y aa ab
     (try clear hb)
     (try clear cU)
     (try clear hk)
     (try clear hi)
     (try clear aV)
     refine hK.out _ _ ⟨(blk_cell g.out 0).trans rfl, (blk_cell g.out 1).trans rfl, (blk_cell g.out 2).trans rfl, (blk_cell g.out 3).trans rfl, (blk_cell g.out 4).trans rfl, (blk_cell g.out 5).trans rfl, ((HB.out.cell (bk_ w _ l)).trans l), ((HB.out.cell (bk_ w _ m)).trans m), ((HB.out.cell (bk_ w _ o)).trans o), ((HB.out.cell (bk_ w _ q)).trans q), ((HB.out.cell (bk_ w _ r)).trans r), ((HB.out.cell (bk_ w _ s)).trans s), ((HB.out.cell (bk_ w _ u)).trans u), ((HB.out.cell (bk_ w _ x)).trans x)⟩ (fun hHeld => ?_)
     clear hK K
     refine nA_ (some 24) ?_
     refine pT_ HT_ 7 13 255 (some 17) ?_
     refine pT_ HT_ 8 13 511 (some 25) ?_
     refine pT_ HT_ 9 13 1023 (some 26) ?_
     refine oT_ HT_ 10 13 2047 (some 9) (fun K hK => ?_)
     refine box_step ?hg (N := 9) ?hd (cs := zS_) (t := 24) ?hr ?_; (case hd => rfl); (case hg => rfl); (case hr => first | (go_simp; done) | (go_simp; rfl))
     intro b hg c0 hbox hb
     have W := ve' GA hg hb
     have X := rb' af hb
     have Y := kb' g hb
     have aa := kb' G hb
     have ab := bs_ hb
     have ah := Z hbox
     have aB := ln' w hg
     have aC := ln' w hg
     have aL := nl' g hg
     have aM := ng' g hg
     have aA := nl' G hg
     have aW := ng' G hg
     clear GA
     clear af
     clear g
     clear G
     clear HB
     have GA := W
     have af := X
     have g := Y
     have G := aa
     have HB := ab
     have L := ah
     have a := aB
     have aN := aC
     have c := aL
     have O := aM
     have F := aA
     have P := aW
     clear W X Y aa ab ah aB aC aL aM aA aW
     clear hb hbox hg
     refine hK.out _ _ ⟨(blk_cell g.out 0).trans rfl, (blk_cell g.out 1).trans rfl, (blk_cell g.out 2).trans rfl, (blk_cell g.out 3).trans rfl, (blk_cell g.out 4).trans rfl, (blk_cell g.out 5).trans rfl, ((HB.out.cell (bk_ w _ l)).trans l), ((HB.out.cell (bk_ w _ m)).trans m), ((HB.out.cell (bk_ w _ o)).trans o), ((HB.out.cell (bk_ w _ q)).trans q), ((HB.out.cell (bk_ w _ r)).trans r), ((HB.out.cell (bk_ w _ s)).trans s), ((HB.out.cell (bk_ w _ u)).trans u), ((HB.out.cell (bk_ w _ x)).trans x)⟩ (fun hHeld => ?_)
     clear hK K
     refine nA_ (some 9) ?_
     exact norm_ (by simp only [putAll, Act.put, sA, sB, sC, errW_none, errW_some]) (hCont (aJ, b) _ ⟨hHeld, (by (with_reducible repeat apply pR); exact Kd.R_mono af.out (fun _ hk => hk.1)), (by (with_reducible repeat apply pV); exact Kd.V_mono GA.out (fun _ hk => ⟨hk.1.1.1, ⟨hk.1.2, ⟨hk.1.1.2.1, ⟨hk.1.1.2.2, hk.2⟩⟩⟩⟩)), (vK g.out), (vK G.out), (vK L.out), a.out, aN.out, c.out, O.out, F.out, P.out, bl_⟩)
    skip
    refine box_step ?hg (N := 9) ?hd (cs := zS_) (t := 24) ?hr ?_; (case hd => rfl); (case hg => rfl); (case hr => first | (go_simp; done) | (go_simp; rfl))
    intro b hg cZ hbox hb
    have W := ve' GA hg hb
    have X := kb' g hb
    have Y := kb' G hb
    have aa := bs_ hb
    have ab := Z hbox
    have ah := ln' w hg
    have aB := ln' w hg
    have aC := nl' g hg
    have aL := ng' g hg
    have aM := nl' G hg
    have aA := ng' G hg
    clear GA
    clear g
    clear G
    clear HB
    have GA := W
    have g := X
    have G := Y
    have HB := aa
    have L := ab
    have a := ah
    have aN := aB
    have c := aC
    have O := aL
    have F := aM
    have P := aA
    clear W X Y aa ab ah aB aC aL aM aA
    clear hb hbox hg
    refine hK.out _ _ ⟨(blk_cell g.out 0).trans rfl, (blk_cell g.out 1).trans rfl, (blk_cell g.out 2).trans rfl, (blk_cell g.out 3).trans rfl, (blk_cell g.out 4).trans rfl, (blk_cell g.out 5).trans rfl, ((HB.out.cell (bk_ w _ l)).trans l), ((HB.out.cell (bk_ w _ m)).trans m), ((HB.out.cell (bk_ w _ o)).trans o), ((HB.out.cell (bk_ w _ q)).trans q), ((HB.out.cell (bk_ w _ r)).trans r), ((HB.out.cell (bk_ w _ s)).trans s), ((HB.out.cell (bk_ w _ u)).trans u), ((HB.out.cell (bk_ w _ x)).trans x)⟩ (fun hHeld => ?_)
    clear hK K
    refine nA_ (some 9) ?_
    refine oT_ HT_ 6 13 1151 (some 24) (fun K hK => ?_)
    refine goes_ Tryz.func55 (by kernel_rfl) rfl #[.agg #[.int .i64 J, .int .i64 I, .slice aw z.length ax, .int .i64 E, .bool D, .bool A], .int .i64 aF, .agg #[.int .i64 ((rd_T49 l2 d).f0), .slice ay ((rd_T49 l2 d).f1).length az, .bool ((rd_T49 l2 d).f2.f0), .bool ((rd_T49 l2 d).f2.f1), .int .i64 ((rd_T49 l2 d).f2.f2), .bool ((rd_T49 l2 d).f2.f3), .int .i64 ((rd_T49 l2 d).f3), .int .u8 ((rd_T49 l2 d).f4)]] (by rfl) rfl rfl ag_ ?_
    with_reducible refine (shutterref12_One.calls k1 J I _ _ z E D A aF ((rd_T49 l2 d).f0) _ _ ((rd_T49 l2 d).f1) ((rd_T49 l2 d).f2.f0) ((rd_T49 l2 d).f2.f1) ((rd_T49 l2 d).f2.f2) ((rd_T49 l2 d).f2.f3) ((rd_T49 l2 d).f3) ((rd_T49 l2 d).f4) ac ad ae ag aj av aE _ ?side1 ?side2 ?side3 ?side4 A8.out).mono ?_
    (case side1 => repeat (first | exact (Kd.V_reads' GA.out).2.2 | (with_reducible apply pC)))
    (case side2 => exact (Kd.V_reads' GA.out).2.1)
    (case side3 => repeat (first | exact (Kd.C_below aH.out HB.out) | (with_reducible apply pC)))
    (case side4 => exact aX.out)
    rintro e c0 ⟨aJ, rfl, aV, hb⟩
    refine ⟨_, rfl, ?_⟩
    have W := Z (Kd.V_elder' (vV GA.out) (Kd.R_base aV) hb)
    have X := rn_ w aV
    have Y := kb' g hb
    have aa := kb' G hb
    have ab := kb' L hb
    have ah := bs_ hb
    clear GA
    clear g
    clear G
    clear L
    clear HB
    have GA := W
    have af := X
    have g := Y
    have G := aa
    have L := ab
    have HB := ah
    clear W X Y aa ab ah
    (try clear hb)
    (try clear cU)
    (try clear hk)
    (try clear hi)
    (try clear aV)
    refine hK.out _ _ ⟨(blk_cell g.out 0).trans rfl, (blk_cell g.out 1).trans rfl, (blk_cell g.out 2).trans rfl, (blk_cell g.out 3).trans rfl, (blk_cell g.out 4).trans rfl, (blk_cell g.out 5).trans rfl, ((HB.out.cell (bk_ w _ l)).trans l), ((HB.out.cell (bk_ w _ m)).trans m), ((HB.out.cell (bk_ w _ o)).trans o), ((HB.out.cell (bk_ w _ q)).trans q), ((HB.out.cell (bk_ w _ r)).trans r), ((HB.out.cell (bk_ w _ s)).trans s), ((HB.out.cell (bk_ w _ u)).trans u), ((HB.out.cell (bk_ w _ x)).trans x)⟩ (fun hHeld => ?_)
    clear hK K
    refine nA_ (some 24) ?_
    refine pT_ HT_ 7 13 1279 (some 17) ?_
    refine pT_ HT_ 8 13 1535 (some 25) ?_
    refine pT_ HT_ 9 13 2047 (some 26) ?_
    exact norm_ (by simp only [putAll, Act.put, sA, sB, sC, errW_none, errW_some]) (hCont (aJ, b) _ ⟨hHeld, (by (with_reducible repeat apply pR); exact Kd.R_mono af.out (fun _ hk => hk.1)), (by (with_reducible repeat apply pV); exact Kd.V_mono GA.out (fun _ hk => ⟨hk.1.1.1, ⟨hk.2, ⟨hk.1.1.2.1, ⟨hk.1.1.2.2, hk.1.2⟩⟩⟩⟩)), (vK g.out), (vK G.out), (vK L.out), a.out, aN.out, c.out, O.out, F.out, P.out, bl_⟩)
   rintro ⟨aJ, b⟩ U ⟨hS_, bk, bl, bm, bn, bo, bp, bq, br, bs, bt, a6, a7⟩
   have W : Aside0 (Kd.R k47 47 U w.heap.size (fun k_ => (w.heap.size ≤ k_)) aJ ae) := ⟨bk⟩
   have X : Aside0 (Kd.V k47 47 U w.heap.size (fun k_ => (aD k_ ∨ w.heap.size ≤ k_) ∧ some k_ ≠ (aJ : Value).ownBlock ∧ k_ ≠ B ∧ k_ ≠ Q ∧ k_ ≠ b) (.slice aw z.length ax) z) := ⟨bl⟩
   have Y : Aside0 (U.heap[B]? = some (.cells #[.int .i64 J, .int .i64 I, .slice aw z.length ax, .int .i64 E, .bool D, .bool A] 24 (0, 0))) := ⟨bm⟩
   have aa : Aside0 (U.heap[Q]? = some (.cells zS_ 24 (0, 0))) := ⟨bn⟩
   have ab : Aside0 (U.heap[b]? = some (.cells zS_ 24 (0, 0))) := ⟨bo⟩
   have ah : Aside0 (w.heap.size ≤ b) := ⟨bp⟩
   have aB : Aside0 (w.heap.size ≤ b) := ⟨bq⟩
   have aC : Aside0 (B ≠ b) := ⟨br⟩
   have aL : Aside0 (b ≠ B) := ⟨bs⟩
   have aM : Aside0 (Q ≠ b) := ⟨bt⟩
   have aA : Aside0 (b ≠ Q) := ⟨a6⟩
   have aW : Aside0 (Below w.heap.size w U) := ⟨a7⟩
   clear GA
   clear g
   clear G
   clear HB
   clear bk bl bm bn bo bp bq br bs bt a6 a7
   have af := W
   have GA := X
   have g := Y
   have G := aa
   have L := ab
   have a := ah
   have aN := aB
   have c := aC
   have O := aL
   have F := aM
   have P := aA
   have HB := aW
   clear W X Y aa ab ah aB aC aL aM aA aW
   have hHeld : U.cell? ⟨B, 0, none⟩ = some (.int .i64 J) ∧ U.cell? ⟨B, 1, none⟩ = some (.int .i64 I) ∧ U.cell? ⟨B, 2, none⟩ = some (.slice aw z.length ax) ∧ U.cell? ⟨B, 3, none⟩ = some (.int .i64 E) ∧ U.cell? ⟨B, 4, none⟩ = some (.bool D) ∧ U.cell? ⟨B, 5, none⟩ = some (.bool A) ∧ U.cell? (y.add ((d).toNat * 8)) = some (.int .i64 ((rd_T49 l2 d).f0)) ∧ U.cell? ⟨(y.add ((d).toNat * 8)).block, (y.add ((d).toNat * 8)).off + 1, none⟩ = some (.slice ay ((rd_T49 l2 d).f1).length az) ∧ U.cell? ⟨(y.add ((d).toNat * 8)).block, (y.add ((d).toNat * 8)).off + 2, none⟩ = some (.bool ((rd_T49 l2 d).f2.f0)) ∧ U.cell? ⟨(y.add ((d).toNat * 8)).block, (y.add ((d).toNat * 8)).off + 3, none⟩ = some (.bool ((rd_T49 l2 d).f2.f1)) ∧ U.cell? ⟨(y.add ((d).toNat * 8)).block, (y.add ((d).toNat * 8)).off + 4, none⟩ = some (.int .i64 ((rd_T49 l2 d).f2.f2)) ∧ U.cell? ⟨(y.add ((d).toNat * 8)).block, (y.add ((d).toNat * 8)).off + 5, none⟩ = some (.bool ((rd_T49 l2 d).f2.f3)) ∧ U.cell? ⟨(y.add ((d).toNat * 8)).block, (y.add ((d).toNat * 8)).off + 6, none⟩ = some (.int .i64 ((rd_T49 l2 d).f3)) ∧ U.cell? ⟨(y.add ((d).toNat * 8)).block, (y.add ((d).toNat * 8)).off + 7, none⟩ = some (.int .u8 ((rd_T49 l2 d).f4)) := hS_
   obtain ⟨aG, aI, a5⟩ := Kd.R_slice af.out
   (first | subst a5 | (injection a5 with bi cR bj; have cS := bi.symm; have cT := bj.symm; clear bi cR bj; subst cS; subst cT))
   refine norm_ (a' := ?_) ?_ ?_
   rotate_left
   ·simp only [putAll, Act.put, sA, sB, sC]
    rfl
   refine oT_ HT_ 11 13 4095 none (fun K hK => ?_)
   have dp : U.cell? ⟨b, 0, none⟩ = some (.int .i64 0) := (blk_cell L.out 0).trans rfl
   have c9 := blk_frozen L.out 0
   have cB := c.out
   have cC := F.out
   have co := O.out
   have cp := P.out
   have dq : U.cell? ⟨b, 1, none⟩ = some (.int .i64 0) := (blk_cell L.out 1).trans rfl
   have da := blk_frozen L.out 1
   have cD := c.out
   have cE := F.out
   have cq := O.out
   have cr := P.out
   have dr : U.cell? ⟨b, 2, none⟩ = some (.slice none 0 0) := (blk_cell L.out 2).trans rfl
   have db := blk_frozen L.out 2
   have cF := c.out
   have cG := F.out
   have ct := O.out
   have cu := P.out
   have dt : U.cell? ⟨b, 3, none⟩ = some (.int .i64 0) := (blk_cell L.out 3).trans rfl
   have dc := blk_frozen L.out 3
   have cH := c.out
   have cI := F.out
   have cv := O.out
   have cw := P.out
   have du : U.cell? ⟨b, 4, none⟩ = some (.bool false) := (blk_cell L.out 4).trans rfl
   have dd := blk_frozen L.out 4
   have cJ := c.out
   have cK := F.out
   have cx := O.out
   have cy := P.out
   have dv : U.cell? ⟨b, 5, none⟩ = some (.bool false) := (blk_cell L.out 5).trans rfl
   have de := blk_frozen L.out 5
   have cL := c.out
   have cM := F.out
   have cz := O.out
   have cA := P.out
   refine skip_ (w1 := ?_) (by rfl) rfl ?_ ?_
   rotate_left
   ·go_simp
    rfl
   refine hK.out _ _ ⟨(fC6 b c.out (hHeld.1)), (fC6 b c.out (hHeld.2.1)), (fC6 b c.out (hHeld.2.2.1)), (fC6 b c.out (hHeld.2.2.2.1)), (fC6 b c.out (hHeld.2.2.2.2.1)), (fC6 b c.out (hHeld.2.2.2.2.2.1)), (fC6 b (nb_ l a.out) (hHeld.2.2.2.2.2.2.1)), (fC6 b (nb_ m a.out) (hHeld.2.2.2.2.2.2.2.1)), (fC6 b (nb_ o a.out) (hHeld.2.2.2.2.2.2.2.2.1)), (fC6 b (nb_ q a.out) (hHeld.2.2.2.2.2.2.2.2.2.1)), (fC6 b (nb_ r a.out) (hHeld.2.2.2.2.2.2.2.2.2.2.1)), (fC6 b (nb_ s a.out) (hHeld.2.2.2.2.2.2.2.2.2.2.2.1)), (fC6 b (nb_ u a.out) (hHeld.2.2.2.2.2.2.2.2.2.2.2.2.1)), (fC6 b (nb_ x a.out) (hHeld.2.2.2.2.2.2.2.2.2.2.2.2.2))⟩ (fun hHeld => ?_)
   clear hK K
   refine pT_ HT_ 12 13 8191 (some 10) ?_
   refine done_ (done_of HT_.out (by kernel_rfl)) ?_
   have df := O.out
   have dj := c.out
   have dg := P.out
   have dk := F.out
   have bC := cells6 L.out
   have dh := ns_ aK
   have bI := cells6 g.out
   try go_wp2
   go_roundg k1
   case measure => have := bh.out; omega
   case rel => exact ⟨(aE), (wrap64 (d + 1)), (ac), (ad), (ae), (ag), (aj), (av), (.slice aG ae.length aI), (dn_), (dn_), H', ⟨by have := bh.out; omega⟩, ⟨Kd.V_mono (Kd.R_V (by (with_reducible repeat apply pR); exact Kd.R_mono (f6R B (f6R b (Kd.R_types (Kd.R_types (Kd.R_types (Kd.R_types af.out g.out (by decide)) G.out (by decide)) L.out (by decide)) g.out (by decide)) im_) im_) (fun _ hk => (And.intro hk.1.1.1.1 (And.intro hk.1.1.1.2 hk.1.1.2))))) (fun k_ hk => by first | exact ⟨(.inr (hk.1)), hk.2⟩ | exact (.inr (hk)))⟩, ⟨put6 (by (with_reducible repeat apply pK); refine blk_far ?_ c.out _; (with_reducible repeat apply pK); refine blk_far ?_ c.out _; (with_reducible repeat apply pK); refine blk_far ?_ c.out _; (with_reducible repeat apply pK); refine blk_far ?_ c.out _; (with_reducible repeat apply pK); refine blk_far ?_ c.out _; (with_reducible repeat apply pK); refine blk_far ?_ c.out _; (with_reducible repeat apply pK); exact g.out)⟩, ⟨by (with_reducible repeat apply pK); refine blk_far ?_ aK.out.symm _; (with_reducible repeat apply pK); refine blk_far ?_ aK.out.symm _; (with_reducible repeat apply pK); refine blk_far ?_ aK.out.symm _; (with_reducible repeat apply pK); refine blk_far ?_ aK.out.symm _; (with_reducible repeat apply pK); refine blk_far ?_ aK.out.symm _; (with_reducible repeat apply pK); refine blk_far ?_ aK.out.symm _; (with_reducible repeat apply pK); refine blk_far ?_ F.out _; (with_reducible repeat apply pK); refine blk_far ?_ F.out _; (with_reducible repeat apply pK); refine blk_far ?_ F.out _; (with_reducible repeat apply pK); refine blk_far ?_ F.out _; (with_reducible repeat apply pK); refine blk_far ?_ F.out _; (with_reducible repeat apply pK); refine blk_far ?_ F.out _; (with_reducible repeat apply pK); exact G.out⟩, ⟨bl_⟩⟩

end Go.Proofs.YtphboakgkmjpbaaGreatDoor.P
