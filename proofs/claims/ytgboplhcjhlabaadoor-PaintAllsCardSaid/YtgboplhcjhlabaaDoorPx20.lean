/- pp.py and press2.py (wip/tools) wrote this text. -/
import Derived.Test.YtgboplhcjhlabaaDoorPx0
import Derived.Test.YtgboplhcjhlabaaDoorPxS
import Derived.Test.YtgboplhcjhlabaaDoorPx0L
import Derived.Test.YtgboplhcjhlabaaDoorPx3
import Derived.Test.YtgboplhcjhlabaaDoorPx14
namespace Go.Proofs.YtgboplhcjhlabaaDoor.P
open Go.RowKit Go.Proofs.YtgboplhcjhlabaaDoorW.PrintWords Go.Proofs.YtgboplhcjhlabaaDoorW.PrintLast Go.Proofs.YtgboplhcjhlabaaDoorW.PrintMore
attribute [local go_sem] max2_int min2_int max_two min_two max_three min_three max_four min_four
attribute [local go_sem] Instr.field asAgg
set_option linter.unusedVariables false
set_option linter.unusedSimpArgs false

/-! ### api_Where: function 26 -/
section
/-- api.Where: a spot's place, or -1. -/
def api_Where.f (a : Option Er) (b : List S184) : Option Int :=
 match a with
 | none => some (-1)
 | some (.num _) => some (-1)
 | some .spot => match b with | [s] => some s.f0 | _ => none
set_option maxRecDepth 100000 in
set_option maxHeartbeats 4000000 in
theorem api_Where.calls (c : Option Er) (g : Option Addr) (d : Nat) (a : List S184) (r : Int) (w : World) (b : Kd.C k184 w g a.length a) (i : a.length ≤ d) (hG : LaidG w) (h : api_Where.f c a = some r) :
  Calls Tryd.prog 26 #[errW (.slice g a.length d) c] w fun e w' => e = .returned (.int .i64 r) ∧ Below w.heap.size w w' := by
 rcases c with _ | q
 ·obtain rfl := Option.some.inj h
  rw [errW_none]
  clear b h
  go_enter Tryd.func26, Tryd.ntmps26
  go_wp2
  go_ret
  exact ⟨rfl, below_alloc (Below.refl _ _) _⟩
 ·cases q with
  | num n =>
   obtain rfl := Option.some.inj h
   rw [errW_some, show (Er.num n).ty = 75 from rfl, show (Er.num n).pay _ = .int .i64 n from rfl]
   clear b h
   have HA := Z (EW.miss n ⟨w.heap.size, 0, none⟩ (.pointer none) (w.alloc (.cells #[.pointer none] 83)) (laidG_alloc hG _) (by simp) (by rw [frozen?_alloc_cells]; simp [World.frozen?]))
   go_enter Tryd.func26, Tryd.ntmps26
   go_wp2_with (go_at_call 42; refine HA.out.mono ?_; rintro e w' ⟨rfl, rfl⟩)
   go_ret
   exact ⟨rfl, below_alloc (below_alloc (below_alloc (below_alloc (Below.refl _ _) _) _) _) _⟩
  | spot =>
   match a, b, i, h with
   | [s], hr, hc, h =>
    obtain rfl := Option.some.inj h
    obtain ⟨ad, rfl, j, k⟩ := spot_at hr
    rw [errW_some, show Er.spot.ty = 83 from rfl, show Er.spot.pay (.slice (some ad) ([s] : List S184).length d) = .pointer (some ad) from rfl]
    have hlt := bk_ w ad j
    have HA := Z ((EW.hit ad ⟨w.heap.size, 0, none⟩ (.pointer none) (w.alloc (.cells #[.pointer none] 83)) (laidG_alloc hG _) (by simp) (by rw [frozen?_alloc_cells]; simp [World.frozen?])).mono (R' := fun ev w' => ev = .returned (.bool true) ∧ (w'.cell? ⟨w.heap.size, 0, none⟩ = some (.pointer (some ad)) ∧ w'.cell? ad = some (.int .i64 s.f0) ∧ Aside0 (Below w.heap.size w w'))) (fun ev w' h_ => ⟨h_.1, by
     rw [h_.2]
     refine ⟨(blk_cell (blk_put (cs' := #[.pointer (some ad)]) (pK (pK (pK (pK (blk_new w _))))) 0 _ rfl) 0).trans rfl, ?_, ⟨below_set (below_alloc (below_alloc (below_alloc (below_alloc (below_alloc (Below.refl _ _) _) _) _) _) _) (Nat.le_refl _)⟩⟩
     refine (cell_far (p := ⟨w.heap.size, 0, none⟩) (Nat.ne_of_lt hlt) _).trans ?_
     rw [World.cell?_alloc_lt _ _ ad (by simp; omega), World.cell?_alloc_lt _ _ ad (by simp; omega), World.cell?_alloc_lt _ _ ad (by simp; omega), World.cell?_alloc_lt _ _ ad (by simp; omega), World.cell?_alloc_lt _ _ ad hlt]; exact j⟩))
    have hu := Tryd.underlying85
    have l := Tryd.underlying83
    clear j k hr hlt h
    go_enter Tryd.func26, Tryd.ntmps26
    go_wp2_with (go_at_call 42; refine HA.out.mono ?_; rintro e w' ⟨rfl, hP, hA, HB⟩)
    go_ret
    exact ⟨rfl, HB.out⟩
end

/-! ### shutterref12_All: function 27 -/
def shutterref12_All.l0 : Nat → Int → List (S30) → Int → Int → Int → List (S44) → Int → Bool → Bool → Option (Int × Int × (List (S44)) × Int × Bool × Bool × Int)
 | 0, _, _, _, _, _, _, _, _, _ => none
 | k + 1, l, c, b, d, e, g, h, i, j => if b < (c.length : Int) then (if 0 ≤ b then ((shutterref12_One.f k d e g h i j l ((rd_T30 c b).f0) ((rd_T30 c b).f1) ((rd_T30 c b).f2.f0) ((rd_T30 c b).f2.f1) ((rd_T30 c b).f2.f2) ((rd_T30 c b).f2.f3) ((rd_T30 c b).f3) ((rd_T30 c b).f4)).bind fun a => (shutterref12_All.l0 k a.2.2.2.2.2.2 c (wrap64 (b + 1)) a.1 a.2.1 a.2.2.1 a.2.2.2.1 a.2.2.2.2.1 a.2.2.2.2.2.1)) else (none)) else (some (d, e, g, h, i, j, l))
def shutterref12_All.f (k : Nat) (a : Int) (b : Int) (g : List (S44)) (c : Int) (d : Bool) (e : Bool) (a1 : Int) (l2 : List (S30)) : Option (Int × Int × (List (S44)) × Int × Bool × Bool × Int) := shutterref12_All.l0 k a1 l2 0 a b g c d e
theorem shutterref12_All.mono_l : ∀ k, (∀ b c d e f g i j l, LeO (shutterref12_All.l0 k b c d e f g i j l) (shutterref12_All.l0 (k + 1) b c d e f g i j l))
 | 0 => fun _ _ _ _ _ _ _ _ _ r h => by simp [shutterref12_All.l0] at h
 | k + 1 => by
  have a := shutterref12_All.mono_l k
  ·intro b c d e f g i j l
   unfold shutterref12_All.l0
   repeat' first
   | (with_reducible exact a _ _ _ _ _ _ _ _ _)
   | (with_reducible exact shutterref12_One.mono _ _ _ _ _ _ _ _ _ _ _ _ _ _ _ _)
   | (with_reducible exact LeO.refl _)
   | (with_reducible exact LeO.none _)
   | (with_reducible refine LeO.ite ?_ ?_)
   | (with_reducible refine LeO.bind ?_ (fun _ => ?_))
   | exact a _ _ _ _ _ _ _ _ _
   | exact shutterref12_One.mono _ _ _ _ _ _ _ _ _ _ _ _ _ _ _ _
   | exact LeO.none _
   | refine LeO.ite ?_ ?_
   | refine LeO.bind ?_ (fun _ => ?_)
theorem shutterref12_All.mono : ∀ a0 a1 b c a4 d e g k, LeO (shutterref12_All.f k a0 a1 b c a4 d e g) (shutterref12_All.f (k + 1) a0 a1 b c a4 d e g) := by
 intro a0 a1 b c a4 d e g k
 have a := shutterref12_All.mono_l k
 unfold shutterref12_All.f
 repeat' first
   | (with_reducible exact a _ _ _ _ _ _ _ _ _)
   | (with_reducible exact shutterref12_One.mono _ _ _ _ _ _ _ _ _ _ _ _ _ _ _ _)
   | (with_reducible exact LeO.refl _)
   | (with_reducible exact LeO.none _)
   | (with_reducible refine LeO.ite ?_ ?_)
   | (with_reducible refine LeO.bind ?_ (fun _ => ?_))
   | exact a _ _ _ _ _ _ _ _ _
   | exact shutterref12_One.mono _ _ _ _ _ _ _ _ _ _ _ _ _ _ _ _
   | exact LeO.none _
   | refine LeO.ite ?_ ?_
   | refine LeO.bind ?_ (fun _ => ?_)
def shutterref12_All.T4 : Bool × List (List Nat × List Nat) := (true, [([], []), ([], []), ([], []), ([], []), ([2, 3], [2, 3]), ([4], [4]), ([0, 1, 5], [0, 1, 5]), ([6], [6]), ([7], [7]), ([7], [7]), ([], []), ([10, 8, 6, 0, 1, 2, 3, 4, 5, 6, 7, 8, 10], [8, 10]), ([9, 11, 0, 1, 2, 3, 4, 5, 6, 7, 8, 9, 10, 11], [9])])
def shutterref12_All.B4 : List Nat := [0, 0, 0, 0, 12, 28, 63, 127, 255, 255, 0, 1535, 4095]
theorem shutterref12_All.tab4 : rtab .any (opsOf Tryd.f27 4) = shutterref12_All.T4 := by kernel_rfl
theorem shutterref12_All.bits4 : waitsOk shutterref12_All.T4.2 shutterref12_All.B4 = true := by kernel_rfl
set_option maxHeartbeats 8000000 in
set_option maxRecDepth 100000 in
theorem shutterref12_All.calls (k : Nat) (aP : Int) (aQ : Int) (aD : Nat → Prop) (aO : Option Addr) (aU : Nat) (ai : List (S44)) (aR : Int) (aS : Bool) (aT : Bool) (a1 : Int) (A2 : Option Addr) (c2 : Nat) (l2 : List (S30)) (r1 : Int) (r2 : Int) (r3 : List (S44)) (r4 : Int) (r5 : Bool) (r6 : Bool) (r7 : Int) (w : World) (bf : Kd.V k44 44 w w.heap.size (fun k_ => aD k_) (.slice aO ai.length aU) ai) (bw : Kd.C k30 w A2 l2.length l2) (bu : l2.length ≤ c2) (h : shutterref12_All.f k aP aQ ai aR aS aT a1 l2 = some (r1, r2, r3, r4, r5, r6, r7)) :
  Calls Tryd.prog 27 #[.agg #[.int .i64 aP, .int .i64 aQ, .slice aO ai.length aU, .int .i64 aR, .bool aS, .bool aT], .int .i64 a1, .slice A2 l2.length c2] w fun e w' => ∃ bx : Value, e = .returned (.tuple #[.agg #[.int .i64 r1, .int .i64 r2, bx, .int .i64 r4, .bool r5, .bool r6], .int .i64 r7]) ∧ Kd.V k44 44 w' w.heap.size (fun k_ => (aD k_ ∨ w.heap.size ≤ k_)) bx r3 ∧ Below w.heap.size w w' := by
 have dv := Tryd.underlying24
 have dw := Tryd.underlying30
 have au := Z (show Kd.V k44 44 w w.heap.size (fun k_ => (aD k_ ∨ w.heap.size ≤ k_)) (.slice aO ai.length aU) ai from Kd.V_mono bf (fun k_ hk => .inl hk))
 have cP := Z bw
 have dJ := Z bu
 clear bw bu
 have HB := Z (Below.refl w.heap.size w)
 have H : (shutterref12_All.l0 k a1 l2 0 aP aQ ai aR aS aT) = some (r1, r2, r3, r4, r5, r6, r7) := h
 clear h
 have H' := Z H
 clear H
 go_enter Tryd.func27, Tryd.ntmps27
 go_wp2_with (first | ((with_reducible refine gate_dst (N := 3) rfl ?_); refine bx_ 3 24 #[.int .i64 aP, .int .i64 aQ, .slice aO ai.length aU, .int .i64 aR, .bool aS, .bool aT] ?_; intro B hg w4 hbox hb; replace au := Z (ve au.out hg hb); have g := Z (hbox); have c4 := Z (ln_ hg : w.heap.size ≤ B); have c1 := Z (ln_ hg : w.heap.size ≤ B); replace HB := Z (below_step bl_ hb); clear hb hbox hg) | ((with_reducible refine gate_dst (N := 6) rfl ?_); refine bx_ 6 24 #[.int .i64 0, .int .i64 0, .slice none 0 0, .int .i64 0, .bool false, .bool false] ?_; intro Q hg w5 hbox hb; replace au := Z (ve au.out hg hb); have G := Z (hbox); have c5 := Z (ln_ hg : w.heap.size ≤ Q); have c3 := Z (ln_ hg : w.heap.size ≤ Q); replace HB := Z (below_step bl_ hb); have aK := Z (nl g.out hg); have T := Z (ng g.out hg); replace g := Z (kb g.out hb); clear hb hbox hg))
 go_loopg [1, 8] k (fun kq v1 v8 w' => ∃ (aF : Int) (d : Int) (J : Int) (I : Int) (z : List (S44)) (E : Int) (D : Bool) (A : Bool) (u438002 : Value), v1 = .int .i64 aF ∧ v8 = .int .i64 d ∧ Aside0 (shutterref12_All.l0 kq aF l2 d J I z E D A = some (r1, r2, r3, r4, r5, r6, r7)) ∧ Aside0 (kq ≤ k) ∧ Aside0 (Kd.V k44 44 w' w.heap.size (fun k_ => (aD k_ ∨ w.heap.size ≤ k_) ∧ k_ ≠ B ∧ k_ ≠ Q) u438002 z) ∧ Aside0 (w'.heap[B]? = some (.cells #[.int .i64 J, .int .i64 I, u438002, .int .i64 E, .bool D, .bool A] 24 (0, 0))) ∧ Aside0 (w'.heap[Q]? = some (.cells #[.int .i64 0, .int .i64 0, (.slice none 0 0), .int .i64 0, .bool false, .bool false] 24 (0, 0))) ∧ Aside0 (Below w.heap.size w w'))
 case atStart => exact ⟨(a1), (0), (aP), (aQ), (ai), (aR), (aS), (aT), (.slice aO ai.length aU), (dn_), (dn_), H', ⟨Nat.le_refl _⟩, ⟨by (with_reducible repeat apply pV); exact Kd.V_mono au.out (fun _ hk => ⟨hk.1.1, ⟨hk.1.2, hk.2⟩⟩)⟩, ⟨vK g.out⟩, ⟨vK G.out⟩, ⟨bl_⟩⟩
 case round =>
  clear H'
  try clear c2
  try clear p2
  obtain ⟨aF, d, J, I, z, E, D, A, u438002, rfl, rfl, HA, bh, HO_438002, g, G, HB⟩ := hrel
  cases gk with
  | zero => exact absurd HA.out (by simp [shutterref12_All.l0])
  | succ k1 =>
   have H := HA.out
   clear HA
   simp only [shutterref12_All.l0] at H
   by_cases c6 : d < (l2.length : Int)
   ·rw [if_pos c6] at H
    have bz : decide (d < (l2.length : Int)) = true := decide_eq_true c6
    clear c6
    by_cases c7 : 0 ≤ d
    ·rw [if_pos c7] at H
     have dm : decide (0 ≤ d) = true := decide_eq_true c7
     clear c7
     replace H := Option.bind_eq_some_iff.mp H
     obtain ⟨⟨ac, ad, ae, ag, aj, av, aE⟩, bg, H⟩ := H
     replace H : (shutterref12_All.l0 k1 aE l2 (wrap64 (d + 1)) ac ad ae ag aj av) = some (r1, r2, r3, r4, r5, r6, r7) := H
     have A8 := Z bg
     clear bg
     have H' := Z H
     clear H
     obtain ⟨aw, ax, cQ⟩ := Kd.V_slice HO_438002.out
     subst cQ
     try go_wp2
     have W := Z (Kd.V_drew HO_438002.out)
     have X := Z (blk_drew g.out)
     have Y := Z (blk_drew G.out)
     have aa := Z (below_drew1 HB.out)
     clear HO_438002
     clear g
     clear G
     clear HB
     have HO_438002 := W
     have g := X
     have G := Y
     have HB := aa
     clear W X Y aa
     have a0 : 0 ≤ (d : Int) := od_
     have a2 : d < (l2.length : Int) := od_
     obtain ⟨y, ay, az, bA, ak, al, am, an, ao, ap, aq, ar, aZ, aY⟩ := at_T30 cP.out d a0 a2
     have x := ar
     have u := aq
     have s := ap
     have r := ao
     have q := an
     have o := am
     have m := al
     have l := ak
     cases bA
     replace ak := (HB.out.cell (bk_ w _ ak)).trans ak
     replace al := (HB.out.cell (bk_ w _ al)).trans al
     replace am := (HB.out.cell (bk_ w _ am)).trans am
     replace an := (HB.out.cell (bk_ w _ an)).trans an
     replace ao := (HB.out.cell (bk_ w _ ao)).trans ao
     replace ap := (HB.out.cell (bk_ w _ ap)).trans ap
     replace aq := (HB.out.cell (bk_ w _ aq)).trans aq
     replace ar := (HB.out.cell (bk_ w _ ar)).trans ar
     have aH := Z aY
     have aX := Z aZ
     clear aY aZ
     replace a0 := eq_true a0
     replace a2 := eq_true a2
     refine start_ (n := 13) (S := fun w' => w'.cell? ⟨B, 0, none⟩ = some (.int .i64 J) ∧ w'.cell? ⟨B, 1, none⟩ = some (.int .i64 I) ∧ w'.cell? ⟨B, 2, none⟩ = some (.slice aw z.length ax) ∧ w'.cell? ⟨B, 3, none⟩ = some (.int .i64 E) ∧ w'.cell? ⟨B, 4, none⟩ = some (.bool D) ∧ w'.cell? ⟨B, 5, none⟩ = some (.bool A) ∧ w'.cell? (y.add ((d).toNat * 8)) = some (.int .i64 ((rd_T30 l2 d).f0)) ∧ w'.cell? ⟨(y.add ((d).toNat * 8)).block, (y.add ((d).toNat * 8)).off + 1, none⟩ = some (.slice ay ((rd_T30 l2 d).f1).length az) ∧ w'.cell? ⟨(y.add ((d).toNat * 8)).block, (y.add ((d).toNat * 8)).off + 2, none⟩ = some (.bool ((rd_T30 l2 d).f2.f0)) ∧ w'.cell? ⟨(y.add ((d).toNat * 8)).block, (y.add ((d).toNat * 8)).off + 3, none⟩ = some (.bool ((rd_T30 l2 d).f2.f1)) ∧ w'.cell? ⟨(y.add ((d).toNat * 8)).block, (y.add ((d).toNat * 8)).off + 4, none⟩ = some (.int .i64 ((rd_T30 l2 d).f2.f2)) ∧ w'.cell? ⟨(y.add ((d).toNat * 8)).block, (y.add ((d).toNat * 8)).off + 5, none⟩ = some (.bool ((rd_T30 l2 d).f2.f3)) ∧ w'.cell? ⟨(y.add ((d).toNat * 8)).block, (y.add ((d).toNat * 8)).off + 6, none⟩ = some (.int .i64 ((rd_T30 l2 d).f3)) ∧ w'.cell? ⟨(y.add ((d).toNat * 8)).block, (y.add ((d).toNat * 8)).off + 7, none⟩ = some (.int .u8 ((rd_T30 l2 d).f4))) (ds := []) (bv 13 0) (by kernel_rfl) rfl rfl ⟨(blk_cell g.out 0).trans rfl, (blk_cell g.out 1).trans rfl, (blk_cell g.out 2).trans rfl, (blk_cell g.out 3).trans rfl, (blk_cell g.out 4).trans rfl, (blk_cell g.out 5).trans rfl, ((HB.out.cell (bk_ w _ l)).trans l), ((HB.out.cell (bk_ w _ m)).trans m), ((HB.out.cell (bk_ w _ o)).trans o), ((HB.out.cell (bk_ w _ q)).trans q), ((HB.out.cell (bk_ w _ r)).trans r), ((HB.out.cell (bk_ w _ s)).trans s), ((HB.out.cell (bk_ w _ u)).trans u), ((HB.out.cell (bk_ w _ x)).trans x)⟩ (fun hHeld => ?_); refine with_tabW shutterref12_All.tab4 shutterref12_All.bits4 (fun HT_ HW_ => ?_)
     generalize wr.drew = dK at HO_438002 g G HB aH ak al am an ao ap aq ar hHeld ⊢
     refine pure_ (i := 1) (N := some 19) (v := ?_) (a' := ?_) (bv 13 2) rfl rfl (any_of HT_.out (by kernel_rfl)) (fun _ _ _ h => h) (Or.inl ⟨by rfl, ?_⟩) ?_ ?_
     rotate_left
     ·intro w'
      go_simp
      with_reducible rfl
     rotate_left
     ·simp only [Act.put, sA, sB, sC, i64_w, i32_w]
      rfl
     refine pure_ (i := 2) (N := some 20) (v := ?_) (a' := ?_) (bv 13 6) rfl rfl (any_of HT_.out (by kernel_rfl)) (fun _ _ _ h => h) (Or.inl ⟨by rfl, ?_⟩) ?_ ?_
     rotate_left
     ·intro w'
      go_simp
      with_reducible rfl
     rotate_left
     ·simp only [Act.put, sA, sB, sC, i64_w, i32_w]
      rfl
     refine pure_ (i := 3) (N := some 21) (v := ?_) (a' := ?_) (bv 13 14) rfl rfl (any_of HT_.out (by kernel_rfl)) (fun _ _ _ h => h) (Or.inl ⟨by rfl, ?_⟩) ?_ ?_
     rotate_left
     ·intro w'
      go_simp
      with_reducible rfl
     rotate_left
     ·simp only [Act.put, sA, sB, sC, i64_w, i32_w]
      rfl
     refine pure_ (i := 4) (N := some 22) (v := ?_) (a' := ?_) (bv 13 30) rfl rfl (any_of HT_.out (by kernel_rfl)) (fun _ _ _ h => h) (Or.inl ⟨by rfl, ?_⟩) ?_ ?_
     rotate_left
     ·intro w'
      go_simp
      with_reducible rfl
     rotate_left
     ·simp only [Act.put, sA, sB, sC, i64_w, i32_w]
      rfl
     refine take_ (i := 0) (N := some 18) (v := ?_) (a' := ?_) (bv 13 31) rfl rfl (take_ofW HT_.out HW_.out (by kernel_rfl)) (fun _ _ _ h => h) (Or.inl ⟨by rfl, ?_⟩) hHeld ?_ ?_
     rotate_left
     ·rintro w' ⟨s0, s1, s2, s3, s4, s5, s6, s7, s8, s9, cV, cW, cX, cY⟩
      go_simp
      with_reducible rfl
     rotate_left
     ·simp only [Act.put, sA, sB, sC, i64_w, i32_w]
      rfl
     refine take_ (i := 5) (N := some 23) (v := ?_) (a' := ?_) (bv 13 63) rfl rfl (take_ofW HT_.out HW_.out (by kernel_rfl)) (fun _ _ _ h => h) (Or.inl ⟨by rfl, ?_⟩) hHeld ?_ ?_
     rotate_left
     ·rintro w' ⟨s0, s1, s2, s3, s4, s5, s6, s7, s8, s9, cV, cW, cX, cY⟩
      go_simp
      with_reducible rfl
     rotate_left
     ·simp only [Act.put, sA, sB, sC, i64_w, i32_w]
      rfl
     refine join_ (σ := Value × Nat) 2 (bv 13 2047) (fun s_ => [(24, .tuple #[.agg #[.int .i64 ac, .int .i64 ad, s_.1, .int .i64 ag, .bool aj, .bool av], .int .i64 aE]), (9, .pointer (some ⟨s_.2, 0, none⟩)), (17, .tuple #[.agg #[.int .i64 ac, .int .i64 ad, s_.1, .int .i64 ag, .bool aj, .bool av], .int .i64 aE]), (25, .agg #[.int .i64 ac, .int .i64 ad, s_.1, .int .i64 ag, .bool aj, .bool av]), (26, .int .i64 aE)]) (fun s_ w' => (w'.cell? ⟨B, 0, none⟩ = some (.int .i64 J) ∧ w'.cell? ⟨B, 1, none⟩ = some (.int .i64 I) ∧ w'.cell? ⟨B, 2, none⟩ = some (.slice aw z.length ax) ∧ w'.cell? ⟨B, 3, none⟩ = some (.int .i64 E) ∧ w'.cell? ⟨B, 4, none⟩ = some (.bool D) ∧ w'.cell? ⟨B, 5, none⟩ = some (.bool A) ∧ w'.cell? (y.add ((d).toNat * 8)) = some (.int .i64 ((rd_T30 l2 d).f0)) ∧ w'.cell? ⟨(y.add ((d).toNat * 8)).block, (y.add ((d).toNat * 8)).off + 1, none⟩ = some (.slice ay ((rd_T30 l2 d).f1).length az) ∧ w'.cell? ⟨(y.add ((d).toNat * 8)).block, (y.add ((d).toNat * 8)).off + 2, none⟩ = some (.bool ((rd_T30 l2 d).f2.f0)) ∧ w'.cell? ⟨(y.add ((d).toNat * 8)).block, (y.add ((d).toNat * 8)).off + 3, none⟩ = some (.bool ((rd_T30 l2 d).f2.f1)) ∧ w'.cell? ⟨(y.add ((d).toNat * 8)).block, (y.add ((d).toNat * 8)).off + 4, none⟩ = some (.int .i64 ((rd_T30 l2 d).f2.f2)) ∧ w'.cell? ⟨(y.add ((d).toNat * 8)).block, (y.add ((d).toNat * 8)).off + 5, none⟩ = some (.bool ((rd_T30 l2 d).f2.f3)) ∧ w'.cell? ⟨(y.add ((d).toNat * 8)).block, (y.add ((d).toNat * 8)).off + 6, none⟩ = some (.int .i64 ((rd_T30 l2 d).f3)) ∧ w'.cell? ⟨(y.add ((d).toNat * 8)).block, (y.add ((d).toNat * 8)).off + 7, none⟩ = some (.int .u8 ((rd_T30 l2 d).f4))) ∧ (Kd.R k44 44 w' w.heap.size (fun k_ => (w.heap.size ≤ k_)) s_.1 ae) ∧ (Kd.V k44 44 w' w.heap.size (fun k_ => (aD k_ ∨ w.heap.size ≤ k_) ∧ some k_ ≠ (s_.1 : Value).ownBlock ∧ k_ ≠ B ∧ k_ ≠ Q ∧ k_ ≠ s_.2) (.slice aw z.length ax) z) ∧ (w'.heap[B]? = some (.cells #[.int .i64 J, .int .i64 I, .slice aw z.length ax, .int .i64 E, .bool D, .bool A] 24 (0, 0))) ∧ (w'.heap[Q]? = some (.cells #[.int .i64 0, .int .i64 0, .slice none 0 0, .int .i64 0, .bool false, .bool false] 24 (0, 0))) ∧ (w'.heap[s_.2]? = some (.cells #[.int .i64 0, .int .i64 0, .slice none 0 0, .int .i64 0, .bool false, .bool false] 24 (0, 0))) ∧ (w.heap.size ≤ s_.2) ∧ (w.heap.size ≤ s_.2) ∧ (B ≠ s_.2) ∧ (s_.2 ≠ B) ∧ (Q ≠ s_.2) ∧ (s_.2 ≠ Q) ∧ (Below w.heap.size w w')) ?_ ?_
     rotate_left
     ·intro hCont
      refine two_ (i := 6) (j := 10) (Ni := some 24) (Nj := some 9) (bv 13 127) (bv 13 1087) rfl rfl rfl rfl (two_of HT_.out (by kernel_rfl)) (by decide) (by decide) (fun K hK => ?_) (fun K hK => ?_)
      ·skip
       refine goes_ Tryd.func20 (by kernel_rfl) rfl #[.agg #[.int .i64 J, .int .i64 I, .slice aw z.length ax, .int .i64 E, .bool D, .bool A], .int .i64 aF, .agg #[.int .i64 ((rd_T30 l2 d).f0), .slice ay ((rd_T30 l2 d).f1).length az, .bool ((rd_T30 l2 d).f2.f0), .bool ((rd_T30 l2 d).f2.f1), .int .i64 ((rd_T30 l2 d).f2.f2), .bool ((rd_T30 l2 d).f2.f3), .int .i64 ((rd_T30 l2 d).f3), .int .u8 ((rd_T30 l2 d).f4)]] (by rfl) rfl rfl ag_ ?_
       with_reducible refine (shutterref12_One.calls k1 J I _ _ z E D A aF ((rd_T30 l2 d).f0) _ _ ((rd_T30 l2 d).f1) ((rd_T30 l2 d).f2.f0) ((rd_T30 l2 d).f2.f1) ((rd_T30 l2 d).f2.f2) ((rd_T30 l2 d).f2.f3) ((rd_T30 l2 d).f3) ((rd_T30 l2 d).f4) ac ad ae ag aj av aE _ ?side1 ?side2 ?side3 ?side4 A8.out).mono ?_
       (case side1 => repeat (first | exact (Kd.V_reads' HO_438002.out).2.2 | (with_reducible apply pC)))
       (case side2 => exact (Kd.V_reads' HO_438002.out).2.1)
       (case side3 => repeat (first | exact (Kd.C_below aH.out HB.out) | (with_reducible apply pC)))
       (case side4 => exact aX.out)
       rintro e cZ ⟨aJ, rfl, aV, hb⟩
       refine ⟨_, rfl, ?_⟩
       have W := Z (Kd.V_elder' (vV HO_438002.out) (Kd.R_base aV) hb)
       have X := Z (Kd.R_lower (Kd.R_newM (M := fun k_ => (w.heap.size ≤ k_)) aV (below_size bl_) (fun k_ h_ => h_)) (below_size bl_))
       have Y := Z (kb g.out hb)
       have aa := Z (kb G.out hb)
       have ab := Z (below_step bl_ hb)
       clear HO_438002
       clear g
       clear G
       clear HB
       have HO_438002 := W
       have af := X
       have g := Y
       have G := aa
       have HB := ab
       clear W X Y aa ab
       (try clear hb)
       (try clear cU)
       (try clear hk)
       (try clear hi)
       (try clear aV)
       refine hK.out _ _ ⟨(blk_cell g.out 0).trans rfl, (blk_cell g.out 1).trans rfl, (blk_cell g.out 2).trans rfl, (blk_cell g.out 3).trans rfl, (blk_cell g.out 4).trans rfl, (blk_cell g.out 5).trans rfl, ((HB.out.cell (bk_ w _ l)).trans l), ((HB.out.cell (bk_ w _ m)).trans m), ((HB.out.cell (bk_ w _ o)).trans o), ((HB.out.cell (bk_ w _ q)).trans q), ((HB.out.cell (bk_ w _ r)).trans r), ((HB.out.cell (bk_ w _ s)).trans s), ((HB.out.cell (bk_ w _ u)).trans u), ((HB.out.cell (bk_ w _ x)).trans x)⟩ (fun hHeld => ?_)
       clear hK K
       refine norm_ (a' := ?_) ?_ ?_
       rotate_left
       ·show Act.put _ (some 24) _ = _
        simp only [Act.put, sA, sB, sC, i64_w, i32_w]
        rfl
       refine pure_ (i := 7) (N := some 17) (v := ?_) (a' := ?_) (bv 13 255) rfl rfl (any_of HT_.out (by kernel_rfl)) (fun _ _ _ h => h) (Or.inl ⟨by rfl, ?_⟩) ?_ ?_
       rotate_left
       ·intro w'
        go_simp
        with_reducible rfl
       rotate_left
       ·simp only [Act.put, sA, sB, sC, i64_w, i32_w]
        rfl
       refine pure_ (i := 8) (N := some 25) (v := ?_) (a' := ?_) (bv 13 511) rfl rfl (any_of HT_.out (by kernel_rfl)) (fun _ _ _ h => h) (Or.inl ⟨by rfl, ?_⟩) ?_ ?_
       rotate_left
       ·intro w'
        go_simp
        with_reducible rfl
       rotate_left
       ·simp only [Act.put, sA, sB, sC, i64_w, i32_w]
        rfl
       refine pure_ (i := 9) (N := some 26) (v := ?_) (a' := ?_) (bv 13 1023) rfl rfl (any_of HT_.out (by kernel_rfl)) (fun _ _ _ h => h) (Or.inl ⟨by rfl, ?_⟩) ?_ ?_
       rotate_left
       ·intro w'
        go_simp
        with_reducible rfl
       rotate_left
       ·simp only [Act.put, sA, sB, sC, i64_w, i32_w]
        rfl
       refine one_ (i := 10) (N := some 9) (bv 13 2047) rfl rfl (one_of HT_.out (by kernel_rfl)) (by decide) (fun K hK => ?_)
       refine box_step ?hg (N := 9) ?hd (cs := #[.int .i64 0, .int .i64 0, .slice none 0 0, .int .i64 0, .bool false, .bool false]) (t := 24) ?hr ?_; (case hd => rfl); (case hg => rfl); (case hr => first | (go_simp; done) | (go_simp; rfl))
       intro b hg c0 hbox hb
       have W := Z (ve HO_438002.out hg hb)
       have X := Z (rb af.out hb)
       have Y := Z (kb g.out hb)
       have aa := Z (kb G.out hb)
       have ab := Z (below_step bl_ hb)
       have ah := Z (hbox)
       have aB := Z (ln_ hg : w.heap.size ≤ b)
       have aC := Z (ln_ hg : w.heap.size ≤ b)
       have aL := Z (nl g.out hg)
       have aM := Z (ng g.out hg)
       have aA := Z (nl G.out hg)
       have aW := Z (ng G.out hg)
       clear HO_438002
       clear af
       clear g
       clear G
       clear HB
       have HO_438002 := W
       have af := X
       have g := Y
       have G := aa
       have HB := ab
       have L := ah
       have a := aB
       have aN := aC
       have c := aL
       have O := aM
       have F := aA
       have P := aW
       clear W X Y aa ab ah aB aC aL aM aA aW
       clear hb hbox hg
       refine hK.out _ _ ⟨(blk_cell g.out 0).trans rfl, (blk_cell g.out 1).trans rfl, (blk_cell g.out 2).trans rfl, (blk_cell g.out 3).trans rfl, (blk_cell g.out 4).trans rfl, (blk_cell g.out 5).trans rfl, ((HB.out.cell (bk_ w _ l)).trans l), ((HB.out.cell (bk_ w _ m)).trans m), ((HB.out.cell (bk_ w _ o)).trans o), ((HB.out.cell (bk_ w _ q)).trans q), ((HB.out.cell (bk_ w _ r)).trans r), ((HB.out.cell (bk_ w _ s)).trans s), ((HB.out.cell (bk_ w _ u)).trans u), ((HB.out.cell (bk_ w _ x)).trans x)⟩ (fun hHeld => ?_)
       clear hK K
       refine norm_ (a' := ?_) ?_ ?_
       rotate_left
       ·show Act.put _ (some 9) _ = _
        simp only [Act.put, sA, sB, sC, i64_w, i32_w]
        rfl
       exact norm_ (by simp only [putAll, Act.put, sA, sB, sC, errW_none, errW_some]) (hCont (aJ, b) _ ⟨hHeld, (by (with_reducible repeat apply pR); exact Kd.R_mono af.out (fun _ hk => hk.1)), (by (with_reducible repeat apply pV); exact Kd.V_mono HO_438002.out (fun _ hk => ⟨hk.1.1.1, ⟨hk.1.2, ⟨hk.1.1.2.1, ⟨hk.1.1.2.2, hk.2⟩⟩⟩⟩)), (vK g.out), (vK G.out), (vK L.out), a.out, aN.out, c.out, O.out, F.out, P.out, bl_⟩)
      ·skip
       refine box_step ?hg (N := 9) ?hd (cs := #[.int .i64 0, .int .i64 0, .slice none 0 0, .int .i64 0, .bool false, .bool false]) (t := 24) ?hr ?_; (case hd => rfl); (case hg => rfl); (case hr => first | (go_simp; done) | (go_simp; rfl))
       intro b hg cZ hbox hb
       have W := Z (ve HO_438002.out hg hb)
       have X := Z (kb g.out hb)
       have Y := Z (kb G.out hb)
       have aa := Z (below_step bl_ hb)
       have ab := Z (hbox)
       have ah := Z (ln_ hg : w.heap.size ≤ b)
       have aB := Z (ln_ hg : w.heap.size ≤ b)
       have aC := Z (nl g.out hg)
       have aL := Z (ng g.out hg)
       have aM := Z (nl G.out hg)
       have aA := Z (ng G.out hg)
       clear HO_438002
       clear g
       clear G
       clear HB
       have HO_438002 := W
       have g := X
       have G := Y
       have HB := aa
       have L := ab
       have a := ah
       have aN := aB
       have c := aC
       have O := aL
       have F := aM
       have P := aA
       clear W X Y aa ab ah aB aC aL aM aA
       clear hb hbox hg
       refine hK.out _ _ ⟨(blk_cell g.out 0).trans rfl, (blk_cell g.out 1).trans rfl, (blk_cell g.out 2).trans rfl, (blk_cell g.out 3).trans rfl, (blk_cell g.out 4).trans rfl, (blk_cell g.out 5).trans rfl, ((HB.out.cell (bk_ w _ l)).trans l), ((HB.out.cell (bk_ w _ m)).trans m), ((HB.out.cell (bk_ w _ o)).trans o), ((HB.out.cell (bk_ w _ q)).trans q), ((HB.out.cell (bk_ w _ r)).trans r), ((HB.out.cell (bk_ w _ s)).trans s), ((HB.out.cell (bk_ w _ u)).trans u), ((HB.out.cell (bk_ w _ x)).trans x)⟩ (fun hHeld => ?_)
       clear hK K
       refine norm_ (a' := ?_) ?_ ?_
       rotate_left
       ·show Act.put _ (some 9) _ = _
        simp only [Act.put, sA, sB, sC, i64_w, i32_w]
        rfl
       refine one_ (i := 6) (N := some 24) (bv 13 1151) rfl rfl (one_of HT_.out (by kernel_rfl)) (by decide) (fun K hK => ?_)
       refine goes_ Tryd.func20 (by kernel_rfl) rfl #[.agg #[.int .i64 J, .int .i64 I, .slice aw z.length ax, .int .i64 E, .bool D, .bool A], .int .i64 aF, .agg #[.int .i64 ((rd_T30 l2 d).f0), .slice ay ((rd_T30 l2 d).f1).length az, .bool ((rd_T30 l2 d).f2.f0), .bool ((rd_T30 l2 d).f2.f1), .int .i64 ((rd_T30 l2 d).f2.f2), .bool ((rd_T30 l2 d).f2.f3), .int .i64 ((rd_T30 l2 d).f3), .int .u8 ((rd_T30 l2 d).f4)]] (by rfl) rfl rfl ag_ ?_
       with_reducible refine (shutterref12_One.calls k1 J I _ _ z E D A aF ((rd_T30 l2 d).f0) _ _ ((rd_T30 l2 d).f1) ((rd_T30 l2 d).f2.f0) ((rd_T30 l2 d).f2.f1) ((rd_T30 l2 d).f2.f2) ((rd_T30 l2 d).f2.f3) ((rd_T30 l2 d).f3) ((rd_T30 l2 d).f4) ac ad ae ag aj av aE _ ?side1 ?side2 ?side3 ?side4 A8.out).mono ?_
       (case side1 => repeat (first | exact (Kd.V_reads' HO_438002.out).2.2 | (with_reducible apply pC)))
       (case side2 => exact (Kd.V_reads' HO_438002.out).2.1)
       (case side3 => repeat (first | exact (Kd.C_below aH.out HB.out) | (with_reducible apply pC)))
       (case side4 => exact aX.out)
       rintro e c0 ⟨aJ, rfl, aV, hb⟩
       refine ⟨_, rfl, ?_⟩
       have W := Z (Kd.V_elder' (vV HO_438002.out) (Kd.R_base aV) hb)
       have X := Z (Kd.R_lower (Kd.R_newM (M := fun k_ => (w.heap.size ≤ k_)) aV (below_size bl_) (fun k_ h_ => h_)) (below_size bl_))
       have Y := Z (kb g.out hb)
       have aa := Z (kb G.out hb)
       have ab := Z (kb L.out hb)
       have ah := Z (below_step bl_ hb)
       clear HO_438002
       clear g
       clear G
       clear L
       clear HB
       have HO_438002 := W
       have af := X
       have g := Y
       have G := aa
       have L := ab
       have HB := ah
       clear W X Y aa ab ah
       (try clear hb)
       (try clear cU)
       (try clear hk)
       (try clear hi)
       (try clear aV)
       refine hK.out _ _ ⟨(blk_cell g.out 0).trans rfl, (blk_cell g.out 1).trans rfl, (blk_cell g.out 2).trans rfl, (blk_cell g.out 3).trans rfl, (blk_cell g.out 4).trans rfl, (blk_cell g.out 5).trans rfl, ((HB.out.cell (bk_ w _ l)).trans l), ((HB.out.cell (bk_ w _ m)).trans m), ((HB.out.cell (bk_ w _ o)).trans o), ((HB.out.cell (bk_ w _ q)).trans q), ((HB.out.cell (bk_ w _ r)).trans r), ((HB.out.cell (bk_ w _ s)).trans s), ((HB.out.cell (bk_ w _ u)).trans u), ((HB.out.cell (bk_ w _ x)).trans x)⟩ (fun hHeld => ?_)
       clear hK K
       refine norm_ (a' := ?_) ?_ ?_
       rotate_left
       ·show Act.put _ (some 24) _ = _
        simp only [Act.put, sA, sB, sC, i64_w, i32_w]
        rfl
       refine pure_ (i := 7) (N := some 17) (v := ?_) (a' := ?_) (bv 13 1279) rfl rfl (any_of HT_.out (by kernel_rfl)) (fun _ _ _ h => h) (Or.inl ⟨by rfl, ?_⟩) ?_ ?_
       rotate_left
       ·intro w'
        go_simp
        with_reducible rfl
       rotate_left
       ·simp only [Act.put, sA, sB, sC, i64_w, i32_w]
        rfl
       refine pure_ (i := 8) (N := some 25) (v := ?_) (a' := ?_) (bv 13 1535) rfl rfl (any_of HT_.out (by kernel_rfl)) (fun _ _ _ h => h) (Or.inl ⟨by rfl, ?_⟩) ?_ ?_
       rotate_left
       ·intro w'
        go_simp
        with_reducible rfl
       rotate_left
       ·simp only [Act.put, sA, sB, sC, i64_w, i32_w]
        rfl
       refine pure_ (i := 9) (N := some 26) (v := ?_) (a' := ?_) (bv 13 2047) rfl rfl (any_of HT_.out (by kernel_rfl)) (fun _ _ _ h => h) (Or.inl ⟨by rfl, ?_⟩) ?_ ?_
       rotate_left
       ·intro w'
        go_simp
        with_reducible rfl
       rotate_left
       ·simp only [Act.put, sA, sB, sC, i64_w, i32_w]
        rfl
       exact norm_ (by simp only [putAll, Act.put, sA, sB, sC, errW_none, errW_some]) (hCont (aJ, b) _ ⟨hHeld, (by (with_reducible repeat apply pR); exact Kd.R_mono af.out (fun _ hk => hk.1)), (by (with_reducible repeat apply pV); exact Kd.V_mono HO_438002.out (fun _ hk => ⟨hk.1.1.1, ⟨hk.2, ⟨hk.1.1.2.1, ⟨hk.1.1.2.2, hk.1.2⟩⟩⟩⟩)), (vK g.out), (vK G.out), (vK L.out), a.out, aN.out, c.out, O.out, F.out, P.out, bl_⟩)
     rintro ⟨aJ, b⟩ U ⟨hS_, bk, bl, bm, bn, bo, bp, bq, br, bs, bt, a6, a7⟩
     have W : Aside0 (Kd.R k44 44 U w.heap.size (fun k_ => (w.heap.size ≤ k_)) aJ ae) := ⟨bk⟩
     have X : Aside0 (Kd.V k44 44 U w.heap.size (fun k_ => (aD k_ ∨ w.heap.size ≤ k_) ∧ some k_ ≠ (aJ : Value).ownBlock ∧ k_ ≠ B ∧ k_ ≠ Q ∧ k_ ≠ b) (.slice aw z.length ax) z) := ⟨bl⟩
     have Y : Aside0 (U.heap[B]? = some (.cells #[.int .i64 J, .int .i64 I, .slice aw z.length ax, .int .i64 E, .bool D, .bool A] 24 (0, 0))) := ⟨bm⟩
     have aa : Aside0 (U.heap[Q]? = some (.cells #[.int .i64 0, .int .i64 0, .slice none 0 0, .int .i64 0, .bool false, .bool false] 24 (0, 0))) := ⟨bn⟩
     have ab : Aside0 (U.heap[b]? = some (.cells #[.int .i64 0, .int .i64 0, .slice none 0 0, .int .i64 0, .bool false, .bool false] 24 (0, 0))) := ⟨bo⟩
     have ah : Aside0 (w.heap.size ≤ b) := ⟨bp⟩
     have aB : Aside0 (w.heap.size ≤ b) := ⟨bq⟩
     have aC : Aside0 (B ≠ b) := ⟨br⟩
     have aL : Aside0 (b ≠ B) := ⟨bs⟩
     have aM : Aside0 (Q ≠ b) := ⟨bt⟩
     have aA : Aside0 (b ≠ Q) := ⟨a6⟩
     have aW : Aside0 (Below w.heap.size w U) := ⟨a7⟩
     clear HO_438002
     clear g
     clear G
     clear HB
     clear bk bl bm bn bo bp bq br bs bt a6 a7
     have af := W
     have HO_438002 := X
     have g := Y
     have G := aa
     have L := ab
     have a := ah
     have aN := aB
     have c := aC
     have O := aL
     have F := aM
     have P := aA
     have HB := aW
     clear W X Y aa ab ah aB aC aL aM aA aW
     have hHeld : U.cell? ⟨B, 0, none⟩ = some (.int .i64 J) ∧ U.cell? ⟨B, 1, none⟩ = some (.int .i64 I) ∧ U.cell? ⟨B, 2, none⟩ = some (.slice aw z.length ax) ∧ U.cell? ⟨B, 3, none⟩ = some (.int .i64 E) ∧ U.cell? ⟨B, 4, none⟩ = some (.bool D) ∧ U.cell? ⟨B, 5, none⟩ = some (.bool A) ∧ U.cell? (y.add ((d).toNat * 8)) = some (.int .i64 ((rd_T30 l2 d).f0)) ∧ U.cell? ⟨(y.add ((d).toNat * 8)).block, (y.add ((d).toNat * 8)).off + 1, none⟩ = some (.slice ay ((rd_T30 l2 d).f1).length az) ∧ U.cell? ⟨(y.add ((d).toNat * 8)).block, (y.add ((d).toNat * 8)).off + 2, none⟩ = some (.bool ((rd_T30 l2 d).f2.f0)) ∧ U.cell? ⟨(y.add ((d).toNat * 8)).block, (y.add ((d).toNat * 8)).off + 3, none⟩ = some (.bool ((rd_T30 l2 d).f2.f1)) ∧ U.cell? ⟨(y.add ((d).toNat * 8)).block, (y.add ((d).toNat * 8)).off + 4, none⟩ = some (.int .i64 ((rd_T30 l2 d).f2.f2)) ∧ U.cell? ⟨(y.add ((d).toNat * 8)).block, (y.add ((d).toNat * 8)).off + 5, none⟩ = some (.bool ((rd_T30 l2 d).f2.f3)) ∧ U.cell? ⟨(y.add ((d).toNat * 8)).block, (y.add ((d).toNat * 8)).off + 6, none⟩ = some (.int .i64 ((rd_T30 l2 d).f3)) ∧ U.cell? ⟨(y.add ((d).toNat * 8)).block, (y.add ((d).toNat * 8)).off + 7, none⟩ = some (.int .u8 ((rd_T30 l2 d).f4)) := hS_
     obtain ⟨aG, aI, a5⟩ := Kd.R_slice af.out
     (first | subst a5 | (injection a5 with bi cR bj; have cS := bi.symm; have cT := bj.symm; clear bi cR bj; subst cS; subst cT))
     refine norm_ (a' := ?_) ?_ ?_
     rotate_left
     ·simp only [putAll, Act.put, sA, sB, sC]
      rfl
     refine one_ (i := 11) (N := none) (bv 13 4095) rfl rfl (one_of HT_.out (by kernel_rfl)) (by decide) (fun K hK => ?_)
     have dn : U.cell? ⟨b, 0, none⟩ = some (.int .i64 0) := (blk_cell L.out 0).trans rfl
     have c8 := blk_frozen L.out 0
     have cB := c.out
     have cC := F.out
     have co := O.out
     have cp := P.out
     have dp : U.cell? ⟨b, 1, none⟩ = some (.int .i64 0) := (blk_cell L.out 1).trans rfl
     have c9 := blk_frozen L.out 1
     have cD := c.out
     have cE := F.out
     have cq := O.out
     have cr := P.out
     have dq : U.cell? ⟨b, 2, none⟩ = some (.slice none 0 0) := (blk_cell L.out 2).trans rfl
     have da := blk_frozen L.out 2
     have cF := c.out
     have cG := F.out
     have ct := O.out
     have cu := P.out
     have dr : U.cell? ⟨b, 3, none⟩ = some (.int .i64 0) := (blk_cell L.out 3).trans rfl
     have db := blk_frozen L.out 3
     have cH := c.out
     have cI := F.out
     have cv := O.out
     have cw := P.out
     have dt : U.cell? ⟨b, 4, none⟩ = some (.bool false) := (blk_cell L.out 4).trans rfl
     have dc := blk_frozen L.out 4
     have cJ := c.out
     have cK := F.out
     have cx := O.out
     have cy := P.out
     have du : U.cell? ⟨b, 5, none⟩ = some (.bool false) := (blk_cell L.out 5).trans rfl
     have dd := blk_frozen L.out 5
     have cL := c.out
     have cM := F.out
     have cz := O.out
     have cA := P.out
     refine skip_ (w1 := ?_) (by rfl) rfl ?_ ?_
     rotate_left
     ·go_simp
      rfl
     refine hK.out _ _ ⟨((cell_far (p := ⟨b, _, none⟩) c.out _).trans (((cell_far (p := ⟨b, _, none⟩) c.out _).trans (((cell_far (p := ⟨b, _, none⟩) c.out _).trans (((cell_far (p := ⟨b, _, none⟩) c.out _).trans (((cell_far (p := ⟨b, _, none⟩) c.out _).trans (((cell_far (p := ⟨b, _, none⟩) c.out _).trans (hHeld.1)))))))))))), ((cell_far (p := ⟨b, _, none⟩) c.out _).trans (((cell_far (p := ⟨b, _, none⟩) c.out _).trans (((cell_far (p := ⟨b, _, none⟩) c.out _).trans (((cell_far (p := ⟨b, _, none⟩) c.out _).trans (((cell_far (p := ⟨b, _, none⟩) c.out _).trans (((cell_far (p := ⟨b, _, none⟩) c.out _).trans (hHeld.2.1)))))))))))), ((cell_far (p := ⟨b, _, none⟩) c.out _).trans (((cell_far (p := ⟨b, _, none⟩) c.out _).trans (((cell_far (p := ⟨b, _, none⟩) c.out _).trans (((cell_far (p := ⟨b, _, none⟩) c.out _).trans (((cell_far (p := ⟨b, _, none⟩) c.out _).trans (((cell_far (p := ⟨b, _, none⟩) c.out _).trans (hHeld.2.2.1)))))))))))), ((cell_far (p := ⟨b, _, none⟩) c.out _).trans (((cell_far (p := ⟨b, _, none⟩) c.out _).trans (((cell_far (p := ⟨b, _, none⟩) c.out _).trans (((cell_far (p := ⟨b, _, none⟩) c.out _).trans (((cell_far (p := ⟨b, _, none⟩) c.out _).trans (((cell_far (p := ⟨b, _, none⟩) c.out _).trans (hHeld.2.2.2.1)))))))))))), ((cell_far (p := ⟨b, _, none⟩) c.out _).trans (((cell_far (p := ⟨b, _, none⟩) c.out _).trans (((cell_far (p := ⟨b, _, none⟩) c.out _).trans (((cell_far (p := ⟨b, _, none⟩) c.out _).trans (((cell_far (p := ⟨b, _, none⟩) c.out _).trans (((cell_far (p := ⟨b, _, none⟩) c.out _).trans (hHeld.2.2.2.2.1)))))))))))), ((cell_far (p := ⟨b, _, none⟩) c.out _).trans (((cell_far (p := ⟨b, _, none⟩) c.out _).trans (((cell_far (p := ⟨b, _, none⟩) c.out _).trans (((cell_far (p := ⟨b, _, none⟩) c.out _).trans (((cell_far (p := ⟨b, _, none⟩) c.out _).trans (((cell_far (p := ⟨b, _, none⟩) c.out _).trans (hHeld.2.2.2.2.2.1)))))))))))), ((cell_far (p := ⟨b, _, none⟩) (by first | exact Nat.ne_of_lt (Nat.lt_of_lt_of_le (by have := bk_ _ _ l; first | rwa [add_block] at this | exact this) a.out) | (rw [add_block]; exact Nat.ne_of_lt (Nat.lt_of_lt_of_le (by have := bk_ _ _ l; first | rwa [add_block] at this | exact this) a.out)) | (show (Addr.add _ _).block ≠ _; rw [add_block]; exact Nat.ne_of_lt (Nat.lt_of_lt_of_le (by have := bk_ _ _ l; first | rwa [add_block] at this | exact this) a.out)) | (dsimp only; exact Nat.ne_of_lt (Nat.lt_of_lt_of_le (by have := bk_ _ _ l; first | rwa [add_block] at this | exact this) a.out))) _).trans (((cell_far (p := ⟨b, _, none⟩) (by first | exact Nat.ne_of_lt (Nat.lt_of_lt_of_le (by have := bk_ _ _ l; first | rwa [add_block] at this | exact this) a.out) | (rw [add_block]; exact Nat.ne_of_lt (Nat.lt_of_lt_of_le (by have := bk_ _ _ l; first | rwa [add_block] at this | exact this) a.out)) | (show (Addr.add _ _).block ≠ _; rw [add_block]; exact Nat.ne_of_lt (Nat.lt_of_lt_of_le (by have := bk_ _ _ l; first | rwa [add_block] at this | exact this) a.out)) | (dsimp only; exact Nat.ne_of_lt (Nat.lt_of_lt_of_le (by have := bk_ _ _ l; first | rwa [add_block] at this | exact this) a.out))) _).trans (((cell_far (p := ⟨b, _, none⟩) (by first | exact Nat.ne_of_lt (Nat.lt_of_lt_of_le (by have := bk_ _ _ l; first | rwa [add_block] at this | exact this) a.out) | (rw [add_block]; exact Nat.ne_of_lt (Nat.lt_of_lt_of_le (by have := bk_ _ _ l; first | rwa [add_block] at this | exact this) a.out)) | (show (Addr.add _ _).block ≠ _; rw [add_block]; exact Nat.ne_of_lt (Nat.lt_of_lt_of_le (by have := bk_ _ _ l; first | rwa [add_block] at this | exact this) a.out)) | (dsimp only; exact Nat.ne_of_lt (Nat.lt_of_lt_of_le (by have := bk_ _ _ l; first | rwa [add_block] at this | exact this) a.out))) _).trans (((cell_far (p := ⟨b, _, none⟩) (by first | exact Nat.ne_of_lt (Nat.lt_of_lt_of_le (by have := bk_ _ _ l; first | rwa [add_block] at this | exact this) a.out) | (rw [add_block]; exact Nat.ne_of_lt (Nat.lt_of_lt_of_le (by have := bk_ _ _ l; first | rwa [add_block] at this | exact this) a.out)) | (show (Addr.add _ _).block ≠ _; rw [add_block]; exact Nat.ne_of_lt (Nat.lt_of_lt_of_le (by have := bk_ _ _ l; first | rwa [add_block] at this | exact this) a.out)) | (dsimp only; exact Nat.ne_of_lt (Nat.lt_of_lt_of_le (by have := bk_ _ _ l; first | rwa [add_block] at this | exact this) a.out))) _).trans (((cell_far (p := ⟨b, _, none⟩) (by first | exact Nat.ne_of_lt (Nat.lt_of_lt_of_le (by have := bk_ _ _ l; first | rwa [add_block] at this | exact this) a.out) | (rw [add_block]; exact Nat.ne_of_lt (Nat.lt_of_lt_of_le (by have := bk_ _ _ l; first | rwa [add_block] at this | exact this) a.out)) | (show (Addr.add _ _).block ≠ _; rw [add_block]; exact Nat.ne_of_lt (Nat.lt_of_lt_of_le (by have := bk_ _ _ l; first | rwa [add_block] at this | exact this) a.out)) | (dsimp only; exact Nat.ne_of_lt (Nat.lt_of_lt_of_le (by have := bk_ _ _ l; first | rwa [add_block] at this | exact this) a.out))) _).trans (((cell_far (p := ⟨b, _, none⟩) (by first | exact Nat.ne_of_lt (Nat.lt_of_lt_of_le (by have := bk_ _ _ l; first | rwa [add_block] at this | exact this) a.out) | (rw [add_block]; exact Nat.ne_of_lt (Nat.lt_of_lt_of_le (by have := bk_ _ _ l; first | rwa [add_block] at this | exact this) a.out)) | (show (Addr.add _ _).block ≠ _; rw [add_block]; exact Nat.ne_of_lt (Nat.lt_of_lt_of_le (by have := bk_ _ _ l; first | rwa [add_block] at this | exact this) a.out)) | (dsimp only; exact Nat.ne_of_lt (Nat.lt_of_lt_of_le (by have := bk_ _ _ l; first | rwa [add_block] at this | exact this) a.out))) _).trans (hHeld.2.2.2.2.2.2.1)))))))))))), ((cell_far (p := ⟨b, _, none⟩) (by first | exact Nat.ne_of_lt (Nat.lt_of_lt_of_le (by have := bk_ _ _ m; first | rwa [add_block] at this | exact this) a.out) | (rw [add_block]; exact Nat.ne_of_lt (Nat.lt_of_lt_of_le (by have := bk_ _ _ m; first | rwa [add_block] at this | exact this) a.out)) | (show (Addr.add _ _).block ≠ _; rw [add_block]; exact Nat.ne_of_lt (Nat.lt_of_lt_of_le (by have := bk_ _ _ m; first | rwa [add_block] at this | exact this) a.out)) | (dsimp only; exact Nat.ne_of_lt (Nat.lt_of_lt_of_le (by have := bk_ _ _ m; first | rwa [add_block] at this | exact this) a.out))) _).trans (((cell_far (p := ⟨b, _, none⟩) (by first | exact Nat.ne_of_lt (Nat.lt_of_lt_of_le (by have := bk_ _ _ m; first | rwa [add_block] at this | exact this) a.out) | (rw [add_block]; exact Nat.ne_of_lt (Nat.lt_of_lt_of_le (by have := bk_ _ _ m; first | rwa [add_block] at this | exact this) a.out)) | (show (Addr.add _ _).block ≠ _; rw [add_block]; exact Nat.ne_of_lt (Nat.lt_of_lt_of_le (by have := bk_ _ _ m; first | rwa [add_block] at this | exact this) a.out)) | (dsimp only; exact Nat.ne_of_lt (Nat.lt_of_lt_of_le (by have := bk_ _ _ m; first | rwa [add_block] at this | exact this) a.out))) _).trans (((cell_far (p := ⟨b, _, none⟩) (by first | exact Nat.ne_of_lt (Nat.lt_of_lt_of_le (by have := bk_ _ _ m; first | rwa [add_block] at this | exact this) a.out) | (rw [add_block]; exact Nat.ne_of_lt (Nat.lt_of_lt_of_le (by have := bk_ _ _ m; first | rwa [add_block] at this | exact this) a.out)) | (show (Addr.add _ _).block ≠ _; rw [add_block]; exact Nat.ne_of_lt (Nat.lt_of_lt_of_le (by have := bk_ _ _ m; first | rwa [add_block] at this | exact this) a.out)) | (dsimp only; exact Nat.ne_of_lt (Nat.lt_of_lt_of_le (by have := bk_ _ _ m; first | rwa [add_block] at this | exact this) a.out))) _).trans (((cell_far (p := ⟨b, _, none⟩) (by first | exact Nat.ne_of_lt (Nat.lt_of_lt_of_le (by have := bk_ _ _ m; first | rwa [add_block] at this | exact this) a.out) | (rw [add_block]; exact Nat.ne_of_lt (Nat.lt_of_lt_of_le (by have := bk_ _ _ m; first | rwa [add_block] at this | exact this) a.out)) | (show (Addr.add _ _).block ≠ _; rw [add_block]; exact Nat.ne_of_lt (Nat.lt_of_lt_of_le (by have := bk_ _ _ m; first | rwa [add_block] at this | exact this) a.out)) | (dsimp only; exact Nat.ne_of_lt (Nat.lt_of_lt_of_le (by have := bk_ _ _ m; first | rwa [add_block] at this | exact this) a.out))) _).trans (((cell_far (p := ⟨b, _, none⟩) (by first | exact Nat.ne_of_lt (Nat.lt_of_lt_of_le (by have := bk_ _ _ m; first | rwa [add_block] at this | exact this) a.out) | (rw [add_block]; exact Nat.ne_of_lt (Nat.lt_of_lt_of_le (by have := bk_ _ _ m; first | rwa [add_block] at this | exact this) a.out)) | (show (Addr.add _ _).block ≠ _; rw [add_block]; exact Nat.ne_of_lt (Nat.lt_of_lt_of_le (by have := bk_ _ _ m; first | rwa [add_block] at this | exact this) a.out)) | (dsimp only; exact Nat.ne_of_lt (Nat.lt_of_lt_of_le (by have := bk_ _ _ m; first | rwa [add_block] at this | exact this) a.out))) _).trans (((cell_far (p := ⟨b, _, none⟩) (by first | exact Nat.ne_of_lt (Nat.lt_of_lt_of_le (by have := bk_ _ _ m; first | rwa [add_block] at this | exact this) a.out) | (rw [add_block]; exact Nat.ne_of_lt (Nat.lt_of_lt_of_le (by have := bk_ _ _ m; first | rwa [add_block] at this | exact this) a.out)) | (show (Addr.add _ _).block ≠ _; rw [add_block]; exact Nat.ne_of_lt (Nat.lt_of_lt_of_le (by have := bk_ _ _ m; first | rwa [add_block] at this | exact this) a.out)) | (dsimp only; exact Nat.ne_of_lt (Nat.lt_of_lt_of_le (by have := bk_ _ _ m; first | rwa [add_block] at this | exact this) a.out))) _).trans (hHeld.2.2.2.2.2.2.2.1)))))))))))), ((cell_far (p := ⟨b, _, none⟩) (by first | exact Nat.ne_of_lt (Nat.lt_of_lt_of_le (by have := bk_ _ _ o; first | rwa [add_block] at this | exact this) a.out) | (rw [add_block]; exact Nat.ne_of_lt (Nat.lt_of_lt_of_le (by have := bk_ _ _ o; first | rwa [add_block] at this | exact this) a.out)) | (show (Addr.add _ _).block ≠ _; rw [add_block]; exact Nat.ne_of_lt (Nat.lt_of_lt_of_le (by have := bk_ _ _ o; first | rwa [add_block] at this | exact this) a.out)) | (dsimp only; exact Nat.ne_of_lt (Nat.lt_of_lt_of_le (by have := bk_ _ _ o; first | rwa [add_block] at this | exact this) a.out))) _).trans (((cell_far (p := ⟨b, _, none⟩) (by first | exact Nat.ne_of_lt (Nat.lt_of_lt_of_le (by have := bk_ _ _ o; first | rwa [add_block] at this | exact this) a.out) | (rw [add_block]; exact Nat.ne_of_lt (Nat.lt_of_lt_of_le (by have := bk_ _ _ o; first | rwa [add_block] at this | exact this) a.out)) | (show (Addr.add _ _).block ≠ _; rw [add_block]; exact Nat.ne_of_lt (Nat.lt_of_lt_of_le (by have := bk_ _ _ o; first | rwa [add_block] at this | exact this) a.out)) | (dsimp only; exact Nat.ne_of_lt (Nat.lt_of_lt_of_le (by have := bk_ _ _ o; first | rwa [add_block] at this | exact this) a.out))) _).trans (((cell_far (p := ⟨b, _, none⟩) (by first | exact Nat.ne_of_lt (Nat.lt_of_lt_of_le (by have := bk_ _ _ o; first | rwa [add_block] at this | exact this) a.out) | (rw [add_block]; exact Nat.ne_of_lt (Nat.lt_of_lt_of_le (by have := bk_ _ _ o; first | rwa [add_block] at this | exact this) a.out)) | (show (Addr.add _ _).block ≠ _; rw [add_block]; exact Nat.ne_of_lt (Nat.lt_of_lt_of_le (by have := bk_ _ _ o; first | rwa [add_block] at this | exact this) a.out)) | (dsimp only; exact Nat.ne_of_lt (Nat.lt_of_lt_of_le (by have := bk_ _ _ o; first | rwa [add_block] at this | exact this) a.out))) _).trans (((cell_far (p := ⟨b, _, none⟩) (by first | exact Nat.ne_of_lt (Nat.lt_of_lt_of_le (by have := bk_ _ _ o; first | rwa [add_block] at this | exact this) a.out) | (rw [add_block]; exact Nat.ne_of_lt (Nat.lt_of_lt_of_le (by have := bk_ _ _ o; first | rwa [add_block] at this | exact this) a.out)) | (show (Addr.add _ _).block ≠ _; rw [add_block]; exact Nat.ne_of_lt (Nat.lt_of_lt_of_le (by have := bk_ _ _ o; first | rwa [add_block] at this | exact this) a.out)) | (dsimp only; exact Nat.ne_of_lt (Nat.lt_of_lt_of_le (by have := bk_ _ _ o; first | rwa [add_block] at this | exact this) a.out))) _).trans (((cell_far (p := ⟨b, _, none⟩) (by first | exact Nat.ne_of_lt (Nat.lt_of_lt_of_le (by have := bk_ _ _ o; first | rwa [add_block] at this | exact this) a.out) | (rw [add_block]; exact Nat.ne_of_lt (Nat.lt_of_lt_of_le (by have := bk_ _ _ o; first | rwa [add_block] at this | exact this) a.out)) | (show (Addr.add _ _).block ≠ _; rw [add_block]; exact Nat.ne_of_lt (Nat.lt_of_lt_of_le (by have := bk_ _ _ o; first | rwa [add_block] at this | exact this) a.out)) | (dsimp only; exact Nat.ne_of_lt (Nat.lt_of_lt_of_le (by have := bk_ _ _ o; first | rwa [add_block] at this | exact this) a.out))) _).trans (((cell_far (p := ⟨b, _, none⟩) (by first | exact Nat.ne_of_lt (Nat.lt_of_lt_of_le (by have := bk_ _ _ o; first | rwa [add_block] at this | exact this) a.out) | (rw [add_block]; exact Nat.ne_of_lt (Nat.lt_of_lt_of_le (by have := bk_ _ _ o; first | rwa [add_block] at this | exact this) a.out)) | (show (Addr.add _ _).block ≠ _; rw [add_block]; exact Nat.ne_of_lt (Nat.lt_of_lt_of_le (by have := bk_ _ _ o; first | rwa [add_block] at this | exact this) a.out)) | (dsimp only; exact Nat.ne_of_lt (Nat.lt_of_lt_of_le (by have := bk_ _ _ o; first | rwa [add_block] at this | exact this) a.out))) _).trans (hHeld.2.2.2.2.2.2.2.2.1)))))))))))), ((cell_far (p := ⟨b, _, none⟩) (by first | exact Nat.ne_of_lt (Nat.lt_of_lt_of_le (by have := bk_ _ _ q; first | rwa [add_block] at this | exact this) a.out) | (rw [add_block]; exact Nat.ne_of_lt (Nat.lt_of_lt_of_le (by have := bk_ _ _ q; first | rwa [add_block] at this | exact this) a.out)) | (show (Addr.add _ _).block ≠ _; rw [add_block]; exact Nat.ne_of_lt (Nat.lt_of_lt_of_le (by have := bk_ _ _ q; first | rwa [add_block] at this | exact this) a.out)) | (dsimp only; exact Nat.ne_of_lt (Nat.lt_of_lt_of_le (by have := bk_ _ _ q; first | rwa [add_block] at this | exact this) a.out))) _).trans (((cell_far (p := ⟨b, _, none⟩) (by first | exact Nat.ne_of_lt (Nat.lt_of_lt_of_le (by have := bk_ _ _ q; first | rwa [add_block] at this | exact this) a.out) | (rw [add_block]; exact Nat.ne_of_lt (Nat.lt_of_lt_of_le (by have := bk_ _ _ q; first | rwa [add_block] at this | exact this) a.out)) | (show (Addr.add _ _).block ≠ _; rw [add_block]; exact Nat.ne_of_lt (Nat.lt_of_lt_of_le (by have := bk_ _ _ q; first | rwa [add_block] at this | exact this) a.out)) | (dsimp only; exact Nat.ne_of_lt (Nat.lt_of_lt_of_le (by have := bk_ _ _ q; first | rwa [add_block] at this | exact this) a.out))) _).trans (((cell_far (p := ⟨b, _, none⟩) (by first | exact Nat.ne_of_lt (Nat.lt_of_lt_of_le (by have := bk_ _ _ q; first | rwa [add_block] at this | exact this) a.out) | (rw [add_block]; exact Nat.ne_of_lt (Nat.lt_of_lt_of_le (by have := bk_ _ _ q; first | rwa [add_block] at this | exact this) a.out)) | (show (Addr.add _ _).block ≠ _; rw [add_block]; exact Nat.ne_of_lt (Nat.lt_of_lt_of_le (by have := bk_ _ _ q; first | rwa [add_block] at this | exact this) a.out)) | (dsimp only; exact Nat.ne_of_lt (Nat.lt_of_lt_of_le (by have := bk_ _ _ q; first | rwa [add_block] at this | exact this) a.out))) _).trans (((cell_far (p := ⟨b, _, none⟩) (by first | exact Nat.ne_of_lt (Nat.lt_of_lt_of_le (by have := bk_ _ _ q; first | rwa [add_block] at this | exact this) a.out) | (rw [add_block]; exact Nat.ne_of_lt (Nat.lt_of_lt_of_le (by have := bk_ _ _ q; first | rwa [add_block] at this | exact this) a.out)) | (show (Addr.add _ _).block ≠ _; rw [add_block]; exact Nat.ne_of_lt (Nat.lt_of_lt_of_le (by have := bk_ _ _ q; first | rwa [add_block] at this | exact this) a.out)) | (dsimp only; exact Nat.ne_of_lt (Nat.lt_of_lt_of_le (by have := bk_ _ _ q; first | rwa [add_block] at this | exact this) a.out))) _).trans (((cell_far (p := ⟨b, _, none⟩) (by first | exact Nat.ne_of_lt (Nat.lt_of_lt_of_le (by have := bk_ _ _ q; first | rwa [add_block] at this | exact this) a.out) | (rw [add_block]; exact Nat.ne_of_lt (Nat.lt_of_lt_of_le (by have := bk_ _ _ q; first | rwa [add_block] at this | exact this) a.out)) | (show (Addr.add _ _).block ≠ _; rw [add_block]; exact Nat.ne_of_lt (Nat.lt_of_lt_of_le (by have := bk_ _ _ q; first | rwa [add_block] at this | exact this) a.out)) | (dsimp only; exact Nat.ne_of_lt (Nat.lt_of_lt_of_le (by have := bk_ _ _ q; first | rwa [add_block] at this | exact this) a.out))) _).trans (((cell_far (p := ⟨b, _, none⟩) (by first | exact Nat.ne_of_lt (Nat.lt_of_lt_of_le (by have := bk_ _ _ q; first | rwa [add_block] at this | exact this) a.out) | (rw [add_block]; exact Nat.ne_of_lt (Nat.lt_of_lt_of_le (by have := bk_ _ _ q; first | rwa [add_block] at this | exact this) a.out)) | (show (Addr.add _ _).block ≠ _; rw [add_block]; exact Nat.ne_of_lt (Nat.lt_of_lt_of_le (by have := bk_ _ _ q; first | rwa [add_block] at this | exact this) a.out)) | (dsimp only; exact Nat.ne_of_lt (Nat.lt_of_lt_of_le (by have := bk_ _ _ q; first | rwa [add_block] at this | exact this) a.out))) _).trans (hHeld.2.2.2.2.2.2.2.2.2.1)))))))))))), ((cell_far (p := ⟨b, _, none⟩) (by first | exact Nat.ne_of_lt (Nat.lt_of_lt_of_le (by have := bk_ _ _ r; first | rwa [add_block] at this | exact this) a.out) | (rw [add_block]; exact Nat.ne_of_lt (Nat.lt_of_lt_of_le (by have := bk_ _ _ r; first | rwa [add_block] at this | exact this) a.out)) | (show (Addr.add _ _).block ≠ _; rw [add_block]; exact Nat.ne_of_lt (Nat.lt_of_lt_of_le (by have := bk_ _ _ r; first | rwa [add_block] at this | exact this) a.out)) | (dsimp only; exact Nat.ne_of_lt (Nat.lt_of_lt_of_le (by have := bk_ _ _ r; first | rwa [add_block] at this | exact this) a.out))) _).trans (((cell_far (p := ⟨b, _, none⟩) (by first | exact Nat.ne_of_lt (Nat.lt_of_lt_of_le (by have := bk_ _ _ r; first | rwa [add_block] at this | exact this) a.out) | (rw [add_block]; exact Nat.ne_of_lt (Nat.lt_of_lt_of_le (by have := bk_ _ _ r; first | rwa [add_block] at this | exact this) a.out)) | (show (Addr.add _ _).block ≠ _; rw [add_block]; exact Nat.ne_of_lt (Nat.lt_of_lt_of_le (by have := bk_ _ _ r; first | rwa [add_block] at this | exact this) a.out)) | (dsimp only; exact Nat.ne_of_lt (Nat.lt_of_lt_of_le (by have := bk_ _ _ r; first | rwa [add_block] at this | exact this) a.out))) _).trans (((cell_far (p := ⟨b, _, none⟩) (by first | exact Nat.ne_of_lt (Nat.lt_of_lt_of_le (by have := bk_ _ _ r; first | rwa [add_block] at this | exact this) a.out) | (rw [add_block]; exact Nat.ne_of_lt (Nat.lt_of_lt_of_le (by have := bk_ _ _ r; first | rwa [add_block] at this | exact this) a.out)) | (show (Addr.add _ _).block ≠ _; rw [add_block]; exact Nat.ne_of_lt (Nat.lt_of_lt_of_le (by have := bk_ _ _ r; first | rwa [add_block] at this | exact this) a.out)) | (dsimp only; exact Nat.ne_of_lt (Nat.lt_of_lt_of_le (by have := bk_ _ _ r; first | rwa [add_block] at this | exact this) a.out))) _).trans (((cell_far (p := ⟨b, _, none⟩) (by first | exact Nat.ne_of_lt (Nat.lt_of_lt_of_le (by have := bk_ _ _ r; first | rwa [add_block] at this | exact this) a.out) | (rw [add_block]; exact Nat.ne_of_lt (Nat.lt_of_lt_of_le (by have := bk_ _ _ r; first | rwa [add_block] at this | exact this) a.out)) | (show (Addr.add _ _).block ≠ _; rw [add_block]; exact Nat.ne_of_lt (Nat.lt_of_lt_of_le (by have := bk_ _ _ r; first | rwa [add_block] at this | exact this) a.out)) | (dsimp only; exact Nat.ne_of_lt (Nat.lt_of_lt_of_le (by have := bk_ _ _ r; first | rwa [add_block] at this | exact this) a.out))) _).trans (((cell_far (p := ⟨b, _, none⟩) (by first | exact Nat.ne_of_lt (Nat.lt_of_lt_of_le (by have := bk_ _ _ r; first | rwa [add_block] at this | exact this) a.out) | (rw [add_block]; exact Nat.ne_of_lt (Nat.lt_of_lt_of_le (by have := bk_ _ _ r; first | rwa [add_block] at this | exact this) a.out)) | (show (Addr.add _ _).block ≠ _; rw [add_block]; exact Nat.ne_of_lt (Nat.lt_of_lt_of_le (by have := bk_ _ _ r; first | rwa [add_block] at this | exact this) a.out)) | (dsimp only; exact Nat.ne_of_lt (Nat.lt_of_lt_of_le (by have := bk_ _ _ r; first | rwa [add_block] at this | exact this) a.out))) _).trans (((cell_far (p := ⟨b, _, none⟩) (by first | exact Nat.ne_of_lt (Nat.lt_of_lt_of_le (by have := bk_ _ _ r; first | rwa [add_block] at this | exact this) a.out) | (rw [add_block]; exact Nat.ne_of_lt (Nat.lt_of_lt_of_le (by have := bk_ _ _ r; first | rwa [add_block] at this | exact this) a.out)) | (show (Addr.add _ _).block ≠ _; rw [add_block]; exact Nat.ne_of_lt (Nat.lt_of_lt_of_le (by have := bk_ _ _ r; first | rwa [add_block] at this | exact this) a.out)) | (dsimp only; exact Nat.ne_of_lt (Nat.lt_of_lt_of_le (by have := bk_ _ _ r; first | rwa [add_block] at this | exact this) a.out))) _).trans (hHeld.2.2.2.2.2.2.2.2.2.2.1)))))))))))), ((cell_far (p := ⟨b, _, none⟩) (by first | exact Nat.ne_of_lt (Nat.lt_of_lt_of_le (by have := bk_ _ _ s; first | rwa [add_block] at this | exact this) a.out) | (rw [add_block]; exact Nat.ne_of_lt (Nat.lt_of_lt_of_le (by have := bk_ _ _ s; first | rwa [add_block] at this | exact this) a.out)) | (show (Addr.add _ _).block ≠ _; rw [add_block]; exact Nat.ne_of_lt (Nat.lt_of_lt_of_le (by have := bk_ _ _ s; first | rwa [add_block] at this | exact this) a.out)) | (dsimp only; exact Nat.ne_of_lt (Nat.lt_of_lt_of_le (by have := bk_ _ _ s; first | rwa [add_block] at this | exact this) a.out))) _).trans (((cell_far (p := ⟨b, _, none⟩) (by first | exact Nat.ne_of_lt (Nat.lt_of_lt_of_le (by have := bk_ _ _ s; first | rwa [add_block] at this | exact this) a.out) | (rw [add_block]; exact Nat.ne_of_lt (Nat.lt_of_lt_of_le (by have := bk_ _ _ s; first | rwa [add_block] at this | exact this) a.out)) | (show (Addr.add _ _).block ≠ _; rw [add_block]; exact Nat.ne_of_lt (Nat.lt_of_lt_of_le (by have := bk_ _ _ s; first | rwa [add_block] at this | exact this) a.out)) | (dsimp only; exact Nat.ne_of_lt (Nat.lt_of_lt_of_le (by have := bk_ _ _ s; first | rwa [add_block] at this | exact this) a.out))) _).trans (((cell_far (p := ⟨b, _, none⟩) (by first | exact Nat.ne_of_lt (Nat.lt_of_lt_of_le (by have := bk_ _ _ s; first | rwa [add_block] at this | exact this) a.out) | (rw [add_block]; exact Nat.ne_of_lt (Nat.lt_of_lt_of_le (by have := bk_ _ _ s; first | rwa [add_block] at this | exact this) a.out)) | (show (Addr.add _ _).block ≠ _; rw [add_block]; exact Nat.ne_of_lt (Nat.lt_of_lt_of_le (by have := bk_ _ _ s; first | rwa [add_block] at this | exact this) a.out)) | (dsimp only; exact Nat.ne_of_lt (Nat.lt_of_lt_of_le (by have := bk_ _ _ s; first | rwa [add_block] at this | exact this) a.out))) _).trans (((cell_far (p := ⟨b, _, none⟩) (by first | exact Nat.ne_of_lt (Nat.lt_of_lt_of_le (by have := bk_ _ _ s; first | rwa [add_block] at this | exact this) a.out) | (rw [add_block]; exact Nat.ne_of_lt (Nat.lt_of_lt_of_le (by have := bk_ _ _ s; first | rwa [add_block] at this | exact this) a.out)) | (show (Addr.add _ _).block ≠ _; rw [add_block]; exact Nat.ne_of_lt (Nat.lt_of_lt_of_le (by have := bk_ _ _ s; first | rwa [add_block] at this | exact this) a.out)) | (dsimp only; exact Nat.ne_of_lt (Nat.lt_of_lt_of_le (by have := bk_ _ _ s; first | rwa [add_block] at this | exact this) a.out))) _).trans (((cell_far (p := ⟨b, _, none⟩) (by first | exact Nat.ne_of_lt (Nat.lt_of_lt_of_le (by have := bk_ _ _ s; first | rwa [add_block] at this | exact this) a.out) | (rw [add_block]; exact Nat.ne_of_lt (Nat.lt_of_lt_of_le (by have := bk_ _ _ s; first | rwa [add_block] at this | exact this) a.out)) | (show (Addr.add _ _).block ≠ _; rw [add_block]; exact Nat.ne_of_lt (Nat.lt_of_lt_of_le (by have := bk_ _ _ s; first | rwa [add_block] at this | exact this) a.out)) | (dsimp only; exact Nat.ne_of_lt (Nat.lt_of_lt_of_le (by have := bk_ _ _ s; first | rwa [add_block] at this | exact this) a.out))) _).trans (((cell_far (p := ⟨b, _, none⟩) (by first | exact Nat.ne_of_lt (Nat.lt_of_lt_of_le (by have := bk_ _ _ s; first | rwa [add_block] at this | exact this) a.out) | (rw [add_block]; exact Nat.ne_of_lt (Nat.lt_of_lt_of_le (by have := bk_ _ _ s; first | rwa [add_block] at this | exact this) a.out)) | (show (Addr.add _ _).block ≠ _; rw [add_block]; exact Nat.ne_of_lt (Nat.lt_of_lt_of_le (by have := bk_ _ _ s; first | rwa [add_block] at this | exact this) a.out)) | (dsimp only; exact Nat.ne_of_lt (Nat.lt_of_lt_of_le (by have := bk_ _ _ s; first | rwa [add_block] at this | exact this) a.out))) _).trans (hHeld.2.2.2.2.2.2.2.2.2.2.2.1)))))))))))), ((cell_far (p := ⟨b, _, none⟩) (by first | exact Nat.ne_of_lt (Nat.lt_of_lt_of_le (by have := bk_ _ _ u; first | rwa [add_block] at this | exact this) a.out) | (rw [add_block]; exact Nat.ne_of_lt (Nat.lt_of_lt_of_le (by have := bk_ _ _ u; first | rwa [add_block] at this | exact this) a.out)) | (show (Addr.add _ _).block ≠ _; rw [add_block]; exact Nat.ne_of_lt (Nat.lt_of_lt_of_le (by have := bk_ _ _ u; first | rwa [add_block] at this | exact this) a.out)) | (dsimp only; exact Nat.ne_of_lt (Nat.lt_of_lt_of_le (by have := bk_ _ _ u; first | rwa [add_block] at this | exact this) a.out))) _).trans (((cell_far (p := ⟨b, _, none⟩) (by first | exact Nat.ne_of_lt (Nat.lt_of_lt_of_le (by have := bk_ _ _ u; first | rwa [add_block] at this | exact this) a.out) | (rw [add_block]; exact Nat.ne_of_lt (Nat.lt_of_lt_of_le (by have := bk_ _ _ u; first | rwa [add_block] at this | exact this) a.out)) | (show (Addr.add _ _).block ≠ _; rw [add_block]; exact Nat.ne_of_lt (Nat.lt_of_lt_of_le (by have := bk_ _ _ u; first | rwa [add_block] at this | exact this) a.out)) | (dsimp only; exact Nat.ne_of_lt (Nat.lt_of_lt_of_le (by have := bk_ _ _ u; first | rwa [add_block] at this | exact this) a.out))) _).trans (((cell_far (p := ⟨b, _, none⟩) (by first | exact Nat.ne_of_lt (Nat.lt_of_lt_of_le (by have := bk_ _ _ u; first | rwa [add_block] at this | exact this) a.out) | (rw [add_block]; exact Nat.ne_of_lt (Nat.lt_of_lt_of_le (by have := bk_ _ _ u; first | rwa [add_block] at this | exact this) a.out)) | (show (Addr.add _ _).block ≠ _; rw [add_block]; exact Nat.ne_of_lt (Nat.lt_of_lt_of_le (by have := bk_ _ _ u; first | rwa [add_block] at this | exact this) a.out)) | (dsimp only; exact Nat.ne_of_lt (Nat.lt_of_lt_of_le (by have := bk_ _ _ u; first | rwa [add_block] at this | exact this) a.out))) _).trans (((cell_far (p := ⟨b, _, none⟩) (by first | exact Nat.ne_of_lt (Nat.lt_of_lt_of_le (by have := bk_ _ _ u; first | rwa [add_block] at this | exact this) a.out) | (rw [add_block]; exact Nat.ne_of_lt (Nat.lt_of_lt_of_le (by have := bk_ _ _ u; first | rwa [add_block] at this | exact this) a.out)) | (show (Addr.add _ _).block ≠ _; rw [add_block]; exact Nat.ne_of_lt (Nat.lt_of_lt_of_le (by have := bk_ _ _ u; first | rwa [add_block] at this | exact this) a.out)) | (dsimp only; exact Nat.ne_of_lt (Nat.lt_of_lt_of_le (by have := bk_ _ _ u; first | rwa [add_block] at this | exact this) a.out))) _).trans (((cell_far (p := ⟨b, _, none⟩) (by first | exact Nat.ne_of_lt (Nat.lt_of_lt_of_le (by have := bk_ _ _ u; first | rwa [add_block] at this | exact this) a.out) | (rw [add_block]; exact Nat.ne_of_lt (Nat.lt_of_lt_of_le (by have := bk_ _ _ u; first | rwa [add_block] at this | exact this) a.out)) | (show (Addr.add _ _).block ≠ _; rw [add_block]; exact Nat.ne_of_lt (Nat.lt_of_lt_of_le (by have := bk_ _ _ u; first | rwa [add_block] at this | exact this) a.out)) | (dsimp only; exact Nat.ne_of_lt (Nat.lt_of_lt_of_le (by have := bk_ _ _ u; first | rwa [add_block] at this | exact this) a.out))) _).trans (((cell_far (p := ⟨b, _, none⟩) (by first | exact Nat.ne_of_lt (Nat.lt_of_lt_of_le (by have := bk_ _ _ u; first | rwa [add_block] at this | exact this) a.out) | (rw [add_block]; exact Nat.ne_of_lt (Nat.lt_of_lt_of_le (by have := bk_ _ _ u; first | rwa [add_block] at this | exact this) a.out)) | (show (Addr.add _ _).block ≠ _; rw [add_block]; exact Nat.ne_of_lt (Nat.lt_of_lt_of_le (by have := bk_ _ _ u; first | rwa [add_block] at this | exact this) a.out)) | (dsimp only; exact Nat.ne_of_lt (Nat.lt_of_lt_of_le (by have := bk_ _ _ u; first | rwa [add_block] at this | exact this) a.out))) _).trans (hHeld.2.2.2.2.2.2.2.2.2.2.2.2.1)))))))))))), ((cell_far (p := ⟨b, _, none⟩) (by first | exact Nat.ne_of_lt (Nat.lt_of_lt_of_le (by have := bk_ _ _ x; first | rwa [add_block] at this | exact this) a.out) | (rw [add_block]; exact Nat.ne_of_lt (Nat.lt_of_lt_of_le (by have := bk_ _ _ x; first | rwa [add_block] at this | exact this) a.out)) | (show (Addr.add _ _).block ≠ _; rw [add_block]; exact Nat.ne_of_lt (Nat.lt_of_lt_of_le (by have := bk_ _ _ x; first | rwa [add_block] at this | exact this) a.out)) | (dsimp only; exact Nat.ne_of_lt (Nat.lt_of_lt_of_le (by have := bk_ _ _ x; first | rwa [add_block] at this | exact this) a.out))) _).trans (((cell_far (p := ⟨b, _, none⟩) (by first | exact Nat.ne_of_lt (Nat.lt_of_lt_of_le (by have := bk_ _ _ x; first | rwa [add_block] at this | exact this) a.out) | (rw [add_block]; exact Nat.ne_of_lt (Nat.lt_of_lt_of_le (by have := bk_ _ _ x; first | rwa [add_block] at this | exact this) a.out)) | (show (Addr.add _ _).block ≠ _; rw [add_block]; exact Nat.ne_of_lt (Nat.lt_of_lt_of_le (by have := bk_ _ _ x; first | rwa [add_block] at this | exact this) a.out)) | (dsimp only; exact Nat.ne_of_lt (Nat.lt_of_lt_of_le (by have := bk_ _ _ x; first | rwa [add_block] at this | exact this) a.out))) _).trans (((cell_far (p := ⟨b, _, none⟩) (by first | exact Nat.ne_of_lt (Nat.lt_of_lt_of_le (by have := bk_ _ _ x; first | rwa [add_block] at this | exact this) a.out) | (rw [add_block]; exact Nat.ne_of_lt (Nat.lt_of_lt_of_le (by have := bk_ _ _ x; first | rwa [add_block] at this | exact this) a.out)) | (show (Addr.add _ _).block ≠ _; rw [add_block]; exact Nat.ne_of_lt (Nat.lt_of_lt_of_le (by have := bk_ _ _ x; first | rwa [add_block] at this | exact this) a.out)) | (dsimp only; exact Nat.ne_of_lt (Nat.lt_of_lt_of_le (by have := bk_ _ _ x; first | rwa [add_block] at this | exact this) a.out))) _).trans (((cell_far (p := ⟨b, _, none⟩) (by first | exact Nat.ne_of_lt (Nat.lt_of_lt_of_le (by have := bk_ _ _ x; first | rwa [add_block] at this | exact this) a.out) | (rw [add_block]; exact Nat.ne_of_lt (Nat.lt_of_lt_of_le (by have := bk_ _ _ x; first | rwa [add_block] at this | exact this) a.out)) | (show (Addr.add _ _).block ≠ _; rw [add_block]; exact Nat.ne_of_lt (Nat.lt_of_lt_of_le (by have := bk_ _ _ x; first | rwa [add_block] at this | exact this) a.out)) | (dsimp only; exact Nat.ne_of_lt (Nat.lt_of_lt_of_le (by have := bk_ _ _ x; first | rwa [add_block] at this | exact this) a.out))) _).trans (((cell_far (p := ⟨b, _, none⟩) (by first | exact Nat.ne_of_lt (Nat.lt_of_lt_of_le (by have := bk_ _ _ x; first | rwa [add_block] at this | exact this) a.out) | (rw [add_block]; exact Nat.ne_of_lt (Nat.lt_of_lt_of_le (by have := bk_ _ _ x; first | rwa [add_block] at this | exact this) a.out)) | (show (Addr.add _ _).block ≠ _; rw [add_block]; exact Nat.ne_of_lt (Nat.lt_of_lt_of_le (by have := bk_ _ _ x; first | rwa [add_block] at this | exact this) a.out)) | (dsimp only; exact Nat.ne_of_lt (Nat.lt_of_lt_of_le (by have := bk_ _ _ x; first | rwa [add_block] at this | exact this) a.out))) _).trans (((cell_far (p := ⟨b, _, none⟩) (by first | exact Nat.ne_of_lt (Nat.lt_of_lt_of_le (by have := bk_ _ _ x; first | rwa [add_block] at this | exact this) a.out) | (rw [add_block]; exact Nat.ne_of_lt (Nat.lt_of_lt_of_le (by have := bk_ _ _ x; first | rwa [add_block] at this | exact this) a.out)) | (show (Addr.add _ _).block ≠ _; rw [add_block]; exact Nat.ne_of_lt (Nat.lt_of_lt_of_le (by have := bk_ _ _ x; first | rwa [add_block] at this | exact this) a.out)) | (dsimp only; exact Nat.ne_of_lt (Nat.lt_of_lt_of_le (by have := bk_ _ _ x; first | rwa [add_block] at this | exact this) a.out))) _).trans (hHeld.2.2.2.2.2.2.2.2.2.2.2.2.2))))))))))))⟩ (fun hHeld => ?_)
     clear hK K
     refine pure_ (i := 12) (N := some 10) (v := ?_) (a' := ?_) (bv 13 8191) rfl rfl (any_of HT_.out (by kernel_rfl)) (fun _ _ _ h => h) (Or.inl ⟨by rfl, ?_⟩) ?_ ?_
     rotate_left
     ·intro w'
      go_simp
      with_reducible rfl
     rotate_left
     ·simp only [Act.put, sA, sB, sC, i64_w, i32_w]
      rfl
     refine done_ (done_of HT_.out (by kernel_rfl)) ?_
     have de := O.out
     have di := c.out
     have df := P.out
     have dj := F.out
     obtain ⟨bC, bD, bE, bF, bG, bH, b0, b1, b2, b3, b4, b5⟩ := cells6 L.out
     have dg := aK.out
     have dk := T.out
     obtain ⟨bI, bJ, bK, bL, bM, bN, b6, b7, b8, b9, ca, cb⟩ := cells6 g.out
     try go_wp2
     go_roundg k1
     case measure => have := bh.out; omega
     case rel => exact ⟨(aE), (wrap64 (d + 1)), (ac), (ad), (ae), (ag), (aj), (av), (.slice aG ae.length aI), (dn_), (dn_), H', ⟨by have := bh.out; omega⟩, ⟨Kd.V_mono (Kd.R_V (by (with_reducible repeat apply pR); exact Kd.R_mono (f6R B (f6R b (Kd.R_types (Kd.R_types (Kd.R_types (Kd.R_types af.out g.out (by decide)) G.out (by decide)) L.out (by decide)) g.out (by decide)) (fun _ hk => hk.1.2)) (fun _ hk => hk.2)) (fun _ hk => (And.intro hk.1.1.1.1 (And.intro hk.1.1.1.2 hk.1.1.2))))) (fun k_ hk => by first | exact ⟨(.inr (hk.1)), hk.2⟩ | exact (.inr (hk)))⟩, ⟨by (with_reducible repeat apply pK); refine blk_put (cs := #[.int .i64 ac, .int .i64 ad, .slice aG ae.length aI, .int .i64 ag, .bool aj, .bool A]) ?_ 5 _ rfl; (with_reducible repeat apply pK); refine blk_put (cs := #[.int .i64 ac, .int .i64 ad, .slice aG ae.length aI, .int .i64 ag, .bool D, .bool A]) ?_ 4 _ rfl; (with_reducible repeat apply pK); refine blk_put (cs := #[.int .i64 ac, .int .i64 ad, .slice aG ae.length aI, .int .i64 E, .bool D, .bool A]) ?_ 3 _ rfl; (with_reducible repeat apply pK); refine blk_put (cs := #[.int .i64 ac, .int .i64 ad, .slice aw z.length ax, .int .i64 E, .bool D, .bool A]) ?_ 2 _ rfl; (with_reducible repeat apply pK); refine blk_put (cs := #[.int .i64 ac, .int .i64 I, .slice aw z.length ax, .int .i64 E, .bool D, .bool A]) ?_ 1 _ rfl; (with_reducible repeat apply pK); refine blk_put (cs := #[.int .i64 J, .int .i64 I, .slice aw z.length ax, .int .i64 E, .bool D, .bool A]) ?_ 0 _ rfl; (with_reducible repeat apply pK); refine blk_far ?_ c.out _; (with_reducible repeat apply pK); refine blk_far ?_ c.out _; (with_reducible repeat apply pK); refine blk_far ?_ c.out _; (with_reducible repeat apply pK); refine blk_far ?_ c.out _; (with_reducible repeat apply pK); refine blk_far ?_ c.out _; (with_reducible repeat apply pK); refine blk_far ?_ c.out _; (with_reducible repeat apply pK); exact g.out⟩, ⟨by (with_reducible repeat apply pK); refine blk_far ?_ T.out _; (with_reducible repeat apply pK); refine blk_far ?_ T.out _; (with_reducible repeat apply pK); refine blk_far ?_ T.out _; (with_reducible repeat apply pK); refine blk_far ?_ T.out _; (with_reducible repeat apply pK); refine blk_far ?_ T.out _; (with_reducible repeat apply pK); refine blk_far ?_ T.out _; (with_reducible repeat apply pK); refine blk_far ?_ F.out _; (with_reducible repeat apply pK); refine blk_far ?_ F.out _; (with_reducible repeat apply pK); refine blk_far ?_ F.out _; (with_reducible repeat apply pK); refine blk_far ?_ F.out _; (with_reducible repeat apply pK); refine blk_far ?_ F.out _; (with_reducible repeat apply pK); refine blk_far ?_ F.out _; (with_reducible repeat apply pK); exact G.out⟩, ⟨bl_⟩⟩
    ·rw [if_neg c7] at H
     exact absurd H (by simp)
   ·rw [if_neg c6] at H
    have bz : decide (d < (l2.length : Int)) = false := decide_eq_false c6
    clear c6
    simp only [Option.some.injEq, Prod.mk.injEq] at H
    obtain ⟨rfl, rfl, rfl, rfl, rfl, rfl, rfl⟩ := H
    have dh := aK.out
    have dl := T.out
    obtain ⟨bO, bP, bQ, bR, bS, bT, cc, cd, ce, cf, cg, ch⟩ := cells6 g.out
    obtain ⟨bU, bV, bW, bX, bY, bZ, ci, cj, ck, cl, cm, cn⟩ := cells6 G.out
    obtain ⟨a3, a4, bB⟩ := Kd.V_slice HO_438002.out
    subst bB
    go_wp2
    refine bodyPost_ret (results_ct rfl _ _ Q 24 #[.int .i64 J, .int .i64 I, .slice a3 z.length a4, .int .i64 E, .bool D, .bool A] (0, 0) _ rfl (put6 G.out) Tryd.underlying24 rfl (by kernel_rfl)) rfl ?_
    exact ⟨_, er_, by (with_reducible repeat apply pV); exact Kd.V_mono (f6V Q (Kd.V_mono HO_438002.out (fun k_ hk => (⟨hk, hk.2.2⟩ : _ ∧ k_ ≠ Q))) (fun _ hk => hk.2)) (fun _ hk => hk.1.1), bl_⟩

end Go.Proofs.YtgboplhcjhlabaaDoor.P
