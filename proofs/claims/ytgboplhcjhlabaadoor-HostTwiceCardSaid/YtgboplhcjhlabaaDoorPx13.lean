/- pp.py and press2.py (wip/tools) wrote this text. -/
import Derived.Test.YtgboplhcjhlabaaDoorPx0
import Derived.Test.YtgboplhcjhlabaaDoorPxS
import Derived.Test.YtgboplhcjhlabaaDoorPx0L
import Derived.Test.YtgboplhcjhlabaaDoorPx4
import Derived.Test.YtgboplhcjhlabaaDoorPx9
import Derived.Test.YtgboplhcjhlabaaDoorPx10
import Derived.Test.YtgboplhcjhlabaaDoorPx12
namespace Go.Proofs.YtgboplhcjhlabaaDoor.P
open Go.RowKit Go.Proofs.YtgboplhcjhlabaaDoorW.PrintWords Go.Proofs.YtgboplhcjhlabaaDoorW.PrintLast Go.Proofs.YtgboplhcjhlabaaDoorW.PrintMore
attribute [local go_sem] max2_int min2_int max_two min_two max_three min_three max_four min_four
attribute [local go_sem] Instr.field asAgg
set_option linter.unusedVariables false
set_option linter.unusedSimpArgs false

/-! ### paint_All: function 24 -/
section
def NewIf (e : Option Er) (P : Prop) : Prop := e = none → P
def badF (k : Nat) (size : Int) : List S30 → Int → Option (Option (Int × Int))
 | [], _ => some none
 | o :: t, i => (order_Right.f k o.f0 o.f1 o.f2.f0 o.f2.f1 o.f2.f2 o.f2.f3 o.f3 o.f4 size).bind fun e => match e.1 with
  | none => badF k size t (i + 1)
  | some (.num n) => some (some (i, n))
  | some .spot => none
def allF (k : Nat) (r c : Int) (lo ins : Bool) : List S30 → List S44 × Int × Int → Option (List S44 × Int × Int)
 | [], s => some s
 | o :: t, s => (doF k r c s.1 s.2.1 lo ins s.2.2 o.f0 o.f1 o.f2.f0 o.f2.f1 o.f2.f2 o.f2.f3 o.f3 o.f4).bind fun d => allF k r c lo ins t d
theorem badF_mono (k : Nat) (size : Int) : ∀ (ls : List S30) (i : Int), LeO (badF k size ls i) (badF (k + 1) size ls i)
 | [], _ => LeO.refl _
 | o :: t, i => by
  unfold badF
  refine LeO.bind (order_Right.mono _ _ _ _ _ _ _ _ _ _) (fun e => ?_)
  split
  ·exact badF_mono k size t (i + 1)
  ·exact LeO.refl _
  ·exact LeO.refl _
theorem allF_mono (k : Nat) (r c : Int) (lo ins : Bool) : ∀ (ls : List S30) (s : List S44 × Int × Int), LeO (allF k r c lo ins ls s) (allF (k + 1) r c lo ins ls s)
 | [], _ => LeO.refl _
 | o :: t, s => by
  unfold allF
  exact LeO.bind (doF_mono _ _ _ _ _ _ _ _ _ _ _ _ _ _ _ _) (fun d => allF_mono k r c lo ins t d)
theorem drop_ord (ls : List S30) (y : Int) (a : 0 ≤ y) (b : y < ls.length) : ls.drop y.toNat = rd_T30 ls y :: ls.drop (y + 1).toNat := by
 obtain ⟨n, rfl⟩ := Int.eq_ofNat_of_zero_le a
 have hn : n < ls.length := by omega
 rw [show ((n : Int) + 1).toNat = n + 1 by omega, show (n : Int).toNat = n by omega, List.drop_eq_getElem_cons hn]
 congr 1
 unfold rd_T30
 simp [hn]
/-- an element's text stays what it was while the world only grows -/
theorem order_text {w wr : World} {A : Option Addr} {ls : List S30} (h : Kd.C k30 w A ls.length ls) (hb : Below w.heap.size w wr) {y : Int} (d : 0 ≤ y) (e : y < ls.length) {ad : Addr} {b : Option Addr} {c1 : Nat} (hx : wr.cell? ⟨(ad.add (y.toNat * 8)).block, (ad.add (y.toNat * 8)).off + 1, none⟩ = some (.slice b (rd_T30 ls y).f1.length c1)) (ea : A = some ad) : ∀ W', Below w.heap.size w W' → Kd.C (Kd.int .u8) W' b (rd_T30 ls y).f1.length (rd_T30 ls y).f1 := fun W' hW' => by
 obtain ⟨a, i, c2, c, k0, k1, _, _, _, _, _, _, _, kt⟩ := at_T30 h y d e
 obtain rfl : a = ad := by rw [ea] at c; exact (Option.some.inj c).symm
 have hlt := bk_ w _ k1
 have : wr.cell? ⟨(a.add (y.toNat * 8)).block, (a.add (y.toNat * 8)).off + 1, none⟩ = w.cell? ⟨(a.add (y.toNat * 8)).block, (a.add (y.toNat * 8)).off + 1, none⟩ := by
  simp only [World.cell?, hb.block _ hlt]
 rw [this, k1] at hx
 injection hx with hx
 injection hx with hx1 f g
 subst hx1
 exact Kd.C_below kt hW'
/-- paint.All: which order is wrong, or all done on a copy. -/
def paint_All.f (k : Nat) (c : Int) (e : Int) (a : List (S44)) (j : Int) (g : Bool) (h : Bool) (a1 : Int) (l2 : List (S30)) : Option (Int × Int × (List (S44)) × Int × Bool × Bool × Int × Option Er × List S184) :=
 if l2.length ≤ 16383 then (badF k a.length l2 0).bind fun b => match b with
  | some (i, n) => some (c, e, a, j, g, h, a1, some Er.spot, [⟨i, n⟩])
  | none => if a.length ≤ 16383 ∧ 0 < a.length then (allF k c e g h l2 (a, j, a1)).bind fun d => some (c, e, d.1, d.2.1, g, h, d.2.2, none, []) else none
 else none
theorem paint_All.mono (a0 a1 : Int) (a : List (S44)) (c : Int) (a4 d : Bool) (e : Int) (g : List (S30)) (k : Nat) : LeO (paint_All.f k a0 a1 a c a4 d e g) (paint_All.f (k + 1) a0 a1 a c a4 d e g) := by
 unfold paint_All.f
 refine LeO.ite (LeO.bind (badF_mono _ _ _ _) (fun b => ?_)) (LeO.refl _)
 cases b with
 | none => exact LeO.ite (LeO.bind (allF_mono _ _ _ _ _ _ _) (fun _ => LeO.refl _)) (LeO.refl _)
 | some p => exact LeO.refl _
set_option maxHeartbeats 16000000 in
set_option maxRecDepth 100000 in
theorem paint_All.callsB (k : Nat) (o : Int) (q : Int) (P : Nat → Prop) (G : Option Addr) (H : Nat) (b : List (S44)) (A : Int) (r : Bool) (s : Bool) (a1 : Int) (A2 : Option Addr) (c2 : Nat) (l2 : List (S30)) (r1 : Int) (r2 : Int) (r3 : List (S44)) (r4 : Int) (r5 : Bool) (r6 : Bool) (r7 : Int) (r8 : Option Er) (r9 : List S184) (w : World) (aO : Kd.V k44 44 w w.heap.size (fun k_ => P k_) (.slice G b.length H) b) (a8 : Kd.C k30 w A2 l2.length l2) (a7 : l2.length ≤ c2) (h : paint_All.f k o q b A r s a1 l2 = some (r1, r2, r3, r4, r5, r6, r7, r8, r9)) :
  Calls Tryd.prog 24 #[.agg #[.int .i64 o, .int .i64 q, .slice G b.length H, .int .i64 A, .bool r, .bool s], .int .i64 a1, .slice A2 l2.length c2] w fun e w' => ∃ aS a9 : Value, e = .returned (.tuple #[.agg #[.int .i64 r1, .int .i64 r2, aS, .int .i64 r4, .bool r5, .bool r6], .int .i64 r7, errW a9 r8]) ∧ Aside0 (Kd.V k44 44 w' w.heap.size (fun k_ => (P k_ ∨ w.heap.size ≤ k_)) aS r3 ∧ NewIf r8 (Kd.R k44 44 w' w.heap.size (fun k_ => (w.heap.size ≤ k_)) aS r3)) ∧ Aside0 (Kd.V k184 184 w' w.heap.size (fun k_ => (P k_ ∨ w.heap.size ≤ k_)) a9 r9 ∧ NewIf r8 (r9 = [])) ∧ Below w.heap.size w w' := by
 unfold paint_All.f at h
 by_cases hL : l2.length ≤ 16383
 ·rw [if_pos hL] at h
  obtain ⟨bad, hBad, h⟩ := Option.bind_eq_some_iff.mp h
  have HL := Z hL
  have HBAD := Z hBad
  have HH := Z h
  have HS := Z (show Kd.V k44 44 w w.heap.size P (.slice G b.length H) b from aO)
  have HT := Z a8
  have HTc := Z a7
  have HB := Z (Below.refl w.heap.size w)
  have hu := Tryd.underlying24
  have bZ := Tryd.underlying30
  have b0 := Tryd.underlying71
  have b1 := Tryd.underlying34
  have b2 := Tryd.underlying28
  have b3 := Tryd.underlying85
  clear hL hBad h aO a8 a7
  go_enter Tryd.func24, Tryd.ntmps24
  go_wp2_with (first | ((with_reducible refine gate_dst (N := 3) rfl ?_); refine bx_ 3 24 #[.int .i64 o, .int .i64 q, .slice G b.length H, .int .i64 A, .bool r, .bool s] ?_; intro g1 hg b4 hbox hb; replace HS := Z (ve HS.out hg hb); have c := Z (hbox); have bU := Z (le_new hg (below_size bl_) : w.heap.size ≤ g1); replace HB := Z (below_step bl_ hb); clear hb hbox hg) | ((with_reducible refine gate_dst (N := 6) rfl ?_); refine bx_ 6 24 #[.int .i64 0, .int .i64 0, .slice none 0 0, .int .i64 0, .bool false, .bool false] ?_; intro g2 hg b5 hbox hb; replace HS := Z (ve HS.out hg hb); have a := Z (hbox); have bV := Z (le_new hg (below_size bl_) : w.heap.size ≤ g2); have bM := Z (nl c.out hg); replace c := Z (kb c.out hb); replace HB := Z (below_step bl_ hb); clear hb hbox hg))
  go_loopg [17] l2.length (fun m bC w' => ∃ y : Int, bC = .int .i64 y ∧ Aside0 (0 ≤ y) ∧ Aside0 (y + (m : Int) = l2.length) ∧ Aside0 (badF k b.length (l2.drop y.toNat) y = some bad) ∧ Aside0 (Kd.V k44 44 w' w.heap.size (fun k_ => (P k_ ∧ k_ ≠ g1) ∧ k_ ≠ g2) (.slice G b.length H) b) ∧ Aside0 (w'.heap[g1]? = some (.cells #[.int .i64 o, .int .i64 q, .slice G b.length H, .int .i64 A, .bool r, .bool s] 24 (0, 0))) ∧ Aside0 (w'.heap[g2]? = some (.cells #[.int .i64 0, .int .i64 0, .slice none 0 0, .int .i64 0, .bool false, .bool false] 24 (0, 0))) ∧ Aside0 (Below w.heap.size w w'))
  case atStart => exact ⟨0, by first | rfl | (simp; done), ⟨by omega⟩, ⟨by omega⟩, HBAD, HS, c, a, HB⟩
  case round =>
   clear HBAD HS c a HB
   obtain ⟨y, rfl, T, YM, HBAD, HS, c, a, HB⟩ := hrel
   by_cases cy : y < (l2.length : Int)
   ·cases gk with
    | zero => exact absurd cy (by have := YM.out; omega)
    | succ k1 =>
     have EN := Z (show y + 1 + ((k1 : Nat) : Int) = l2.length by have := YM.out; omega)
     have STEP := HBAD.out
     rw [drop_ord l2 y T.out cy, badF] at STEP
     clear YM HBAD
     obtain ⟨ad, F, c1, ea, af, hx1, ag, ah, ai, aj, ak, al, lt_, hx_⟩ := at_T30 (Kd.C_below HT.out HB.out) y T.out cy
     have hxf : ∀ W', Below w.heap.size w W' → Kd.C (Kd.int .u8) W' F (rd_T30 l2 y).f1.length (rd_T30 l2 y).f1 := order_text HT.out HB.out T.out cy hx1 ea
     obtain ⟨v, hv⟩ : ∃ v, v = rd_T30 l2 y := ⟨_, rfl⟩
     rw [← hv] at af hx1 ag ah ai aj ak al lt_ hxf STEP
     clear hv hx_
     obtain ⟨E, D, ⟨o2, o3, L, O⟩, Q, W⟩ := v
     subst ea
     have bo : wr.cell? (ad.add (y.toNat * 8)) = some (.int .i64 E) := af
     have bp : wr.cell? ⟨(ad.add (y.toNat * 8)).block, (ad.add (y.toNat * 8)).off + 1, none⟩ = some (.slice F D.length c1) := hx1
     have bq : wr.cell? ⟨(ad.add (y.toNat * 8)).block, (ad.add (y.toNat * 8)).off + 2, none⟩ = some (.bool o2) := ag
     have br : wr.cell? ⟨(ad.add (y.toNat * 8)).block, (ad.add (y.toNat * 8)).off + 3, none⟩ = some (.bool o3) := ah
     have bs : wr.cell? ⟨(ad.add (y.toNat * 8)).block, (ad.add (y.toNat * 8)).off + 4, none⟩ = some (.int .i64 L) := ai
     have bt : wr.cell? ⟨(ad.add (y.toNat * 8)).block, (ad.add (y.toNat * 8)).off + 5, none⟩ = some (.bool O) := aj
     have bu : wr.cell? ⟨(ad.add (y.toNat * 8)).block, (ad.add (y.toNat * 8)).off + 6, none⟩ = some (.int .i64 Q) := ak
     have bw : wr.cell? ⟨(ad.add (y.toNat * 8)).block, (ad.add (y.toNat * 8)).off + 7, none⟩ = some (.int .u8 W) := al
     clear af hx1 ag ah ai aj ak al
     have LT := Z (show D.length ≤ c1 from lt_)
     have HX : Aside0 (∀ W', Below w.heap.size w W' → True ∧ Kd.C (Kd.int .u8) W' F D.length D) := ⟨fun W' h_ => ⟨trivial, hxf W' h_⟩⟩
     clear lt_ hxf
     have q0 : (0 ≤ y) = True := eq_true T.out
     have q1 : (y < (l2.length : Int)) = True := eq_true cy
     have c0 : decide (y < (l2.length : Int)) = true := decide_eq_true cy
     have EW := Z (show wrap64 (y + 1) = y + 1 by have := HL.out; have := T.out; unfold wrap64; omega)
     obtain ⟨⟨e1, e2⟩, hR, STEP⟩ := Option.bind_eq_some_iff.mp STEP
     have HR := Z (show order_Right.f k E D o2 o3 L O Q W b.length = some (e1, e2) from hR)
     have STEPZ := Z STEP
     clear hR STEP cy
     go_wp2_with (first | ((with_reducible refine gate_dst (N := 10) rfl ?_); refine bx_ 10 30 #[.int .i64 0, .slice none 0 0, .bool false, .bool false, .int .i64 0, .bool false, .int .i64 0, .int .u8 0] ?_; intro J hg bE hbox hb; replace HS := Z (ve HS.out hg hb); have g := Z (hbox); have bW := Z (le_new hg (below_size bl_) : w.heap.size ≤ J); have ba := Z (nl c.out hg); replace c := Z (kb c.out hb); have bb := Z (nl a.out hg); replace a := Z (kb a.out hb); replace HB := Z (below_step bl_ hb); obtain ⟨av, aw, ax, ay, az, aA, aB, aC, aD, aE, aF, aG, aH, aI, aJ, aK⟩ := cells8 g.out; clear hb hbox hg) | ((with_reducible refine gate_store (t := 30) (p := 10) rfl ?_); refine sx_ 30 10 ((((((((bE.setCell ⟨J, 0, none⟩ (.int .i64 E)).setCell ⟨J, 1, none⟩ (.slice F D.length c1)).setCell ⟨J, 2, none⟩ (.bool o2)).setCell ⟨J, 3, none⟩ (.bool o3)).setCell ⟨J, 4, none⟩ (.int .i64 L)).setCell ⟨J, 5, none⟩ (.bool O)).setCell ⟨J, 6, none⟩ (.int .i64 Q)).setCell ⟨J, 7, none⟩ (.int .u8 W)) ?_; intro aL hw; have b_ : Aside0 (aL.heap[J]? = some (.cells #[.int .i64 E, .slice F D.length c1, .bool o2, .bool o3, .int .i64 L, .bool O, .int .i64 Q, .int .u8 W] 30 (0, 0))) := ⟨by rw [hw]; refine blk_put (cs := #[.int .i64 E, .slice F D.length c1, .bool o2, .bool o3, .int .i64 L, .bool O, .int .i64 Q, .int .u8 0]) ?_ 7 _ rfl; refine blk_put (cs := #[.int .i64 E, .slice F D.length c1, .bool o2, .bool o3, .int .i64 L, .bool O, .int .i64 0, .int .u8 0]) ?_ 6 _ rfl; refine blk_put (cs := #[.int .i64 E, .slice F D.length c1, .bool o2, .bool o3, .int .i64 L, .bool false, .int .i64 0, .int .u8 0]) ?_ 5 _ rfl; refine blk_put (cs := #[.int .i64 E, .slice F D.length c1, .bool o2, .bool o3, .int .i64 0, .bool false, .int .i64 0, .int .u8 0]) ?_ 4 _ rfl; refine blk_put (cs := #[.int .i64 E, .slice F D.length c1, .bool o2, .bool false, .int .i64 0, .bool false, .int .i64 0, .int .u8 0]) ?_ 3 _ rfl; refine blk_put (cs := #[.int .i64 E, .slice F D.length c1, .bool false, .bool false, .int .i64 0, .bool false, .int .i64 0, .int .u8 0]) ?_ 2 _ rfl; refine blk_put (cs := #[.int .i64 E, .slice none 0 0, .bool false, .bool false, .int .i64 0, .bool false, .int .i64 0, .int .u8 0]) ?_ 1 _ rfl; refine blk_put (cs := #[.int .i64 0, .slice none 0 0, .bool false, .bool false, .int .i64 0, .bool false, .int .i64 0, .int .u8 0]) ?_ 0 _ rfl; exact g.out⟩; have ao : Aside0 (Kd.V k44 44 aL w.heap.size (fun k_ => ((P k_ ∧ k_ ≠ g1) ∧ k_ ≠ g2) ∧ k_ ≠ J) (.slice G b.length H) b) := ⟨by rw [hw]; exact V_off HS.out (fun _ hk => hk.2) off2_ (fun _ hk => hk)⟩; have ap : Aside0 (aL.heap[g1]? = some (.cells #[.int .i64 o, .int .i64 q, .slice G b.length H, .int .i64 A, .bool r, .bool s] 24 (0, 0))) := ⟨by rw [hw]; exact blk_off c.out ba.out off2_⟩; have aq : Aside0 (aL.heap[g2]? = some (.cells #[.int .i64 0, .int .i64 0, .slice none 0 0, .int .i64 0, .bool false, .bool false] 24 (0, 0))) := ⟨by rw [hw]; exact blk_off a.out bb.out off2_⟩; have ar : Aside0 (Below w.heap.size w aL) := ⟨by rw [hw]; exact bl_⟩; clear hw; clear av aw ax ay az aA aB aC aD aE aF aG aH aI aJ aK; clear HS c a HB g; have HS := ao; have c := ap; have a := aq; have HB := ar; clear ao ap aq ar; have g := b_; clear b_))
     have j := Z (Kd.V_below HS.out (below_drew (Below.refl _ _)))
     have l := Z (blk_drew c.out)
     have u := Z (blk_drew a.out)
     have x := Z (blk_drew g.out)
     have B := Z (below_drew1 HB.out)
     clear HS c a g HB
     have HS := j
     have c := l
     have a := u
     have g := x
     have HB := B
     clear j l u x B
     refine start_ (n := 5) (S := fun w' => w'.cell? ⟨J, 0, none⟩ = some (.int .i64 E) ∧ w'.cell? ⟨J, 1, none⟩ = some (.slice F D.length c1) ∧ w'.cell? ⟨J, 2, none⟩ = some (.bool o2) ∧ w'.cell? ⟨J, 3, none⟩ = some (.bool o3) ∧ w'.cell? ⟨J, 4, none⟩ = some (.int .i64 L) ∧ w'.cell? ⟨J, 5, none⟩ = some (.bool O) ∧ w'.cell? ⟨J, 6, none⟩ = some (.int .i64 Q) ∧ w'.cell? ⟨J, 7, none⟩ = some (.int .u8 W) ∧ w'.cell? ⟨g1, 0, none⟩ = some (.int .i64 o) ∧ w'.cell? ⟨g1, 1, none⟩ = some (.int .i64 q) ∧ w'.cell? ⟨g1, 2, none⟩ = some (.slice G b.length H) ∧ w'.cell? ⟨g1, 3, none⟩ = some (.int .i64 A) ∧ w'.cell? ⟨g1, 4, none⟩ = some (.bool r) ∧ w'.cell? ⟨g1, 5, none⟩ = some (.bool s)) (ds := []) (bv 5 0) (by kernel_rfl) rfl rfl ⟨(blk_cell g.out 0).trans rfl, (blk_cell g.out 1).trans rfl, (blk_cell g.out 2).trans rfl, (blk_cell g.out 3).trans rfl, (blk_cell g.out 4).trans rfl, (blk_cell g.out 5).trans rfl, (blk_cell g.out 6).trans rfl, (blk_cell g.out 7).trans rfl, (blk_cell c.out 0).trans rfl, (blk_cell c.out 1).trans rfl, (blk_cell c.out 2).trans rfl, (blk_cell c.out 3).trans rfl, (blk_cell c.out 4).trans rfl, (blk_cell c.out 5).trans rfl⟩ (fun hHeld => ?_)
     generalize World.drew _ = w5 at HS c a g HB hHeld ⊢
     refine take_ (i := 0) (N := some 22) (v := ?_) (a' := ?_) (bv 5 1) rfl rfl (by kernel_rfl) (fun _ _ _ h => h) (Or.inl ⟨by rfl, ?_⟩) hHeld ?_ ?_
     rotate_left
     ·rintro w' ⟨s0, s1, s2, s3, s4, s5, s6, s7, s8, s9, bx, bz, bA, bB⟩
      go_simp
      with_reducible rfl
     rotate_left
     ·simp only [Act.put, sA, sB, sC, i64_w, i32_w]
      rfl
     refine take_ (i := 1) (N := some 23) (v := ?_) (a' := ?_) (bv 5 3) rfl rfl (by kernel_rfl) (fun _ _ _ h => h) (Or.inl ⟨by rfl, ?_⟩) hHeld ?_ ?_
     rotate_left
     ·rintro w' ⟨s0, s1, s2, s3, s4, s5, s6, s7, s8, s9, bx, bz, bA, bB⟩
      go_simp
      with_reducible rfl
     rotate_left
     ·simp only [Act.put, sA, sB, sC, i64_w, i32_w]
      rfl
     refine one_ (i := 2) (N := some 24) (bv 5 7) rfl rfl (by kernel_rfl) (by decide) (fun K hK => ?_)
     refine goes_ Tryd.func37 (by kernel_rfl) rfl #[.agg #[.int .i64 o, .int .i64 q, .slice G b.length H, .int .i64 A, .bool r, .bool s]] (by rfl) rfl rfl (by simp only [List.map_toArray, List.map_cons, List.map_nil]; rfl) ?_
     with_reducible refine (grid_Size.calls o q _ _ b A r s b.length _ ?side1 ?side2 rfl).mono ?_
     (case side1 => exact (Kd.V_reads' HS.out).2.2)
     (case side2 => exact (Kd.V_reads' HS.out).2.1)
     rintro e w8 ⟨rfl, hb⟩
     refine ⟨_, rfl, ?_⟩
     have j := Z (vb HS.out hb)
     have l := Z (kb c.out hb)
     have u := Z (kb a.out hb)
     have x := Z (kb g.out hb)
     have B := Z (below_step bl_ hb)
     clear HS c a g HB hb
     have HS := j
     have c := l
     have a := u
     have g := x
     have HB := B
     clear j l u x B
     refine hK.out _ _ ⟨(blk_cell g.out 0).trans rfl, (blk_cell g.out 1).trans rfl, (blk_cell g.out 2).trans rfl, (blk_cell g.out 3).trans rfl, (blk_cell g.out 4).trans rfl, (blk_cell g.out 5).trans rfl, (blk_cell g.out 6).trans rfl, (blk_cell g.out 7).trans rfl, (blk_cell c.out 0).trans rfl, (blk_cell c.out 1).trans rfl, (blk_cell c.out 2).trans rfl, (blk_cell c.out 3).trans rfl, (blk_cell c.out 4).trans rfl, (blk_cell c.out 5).trans rfl⟩ (fun hHeld => ?_)
     clear hK K
     refine norm_ (a' := ?_) ?_ ?_
     rotate_left
     ·show Act.put _ (some 24) _ = _
      simp only [Act.put, sA, sB, sC, i64_w, i32_w]
      rfl
     refine one_ (i := 3) (N := some 25) (bv 5 15) rfl rfl (by kernel_rfl) (by decide) (fun K hK => ?_)
     refine goes_ Tryd.func36 (by kernel_rfl) rfl #[.agg #[.int .i64 E, .slice F D.length c1, .bool o2, .bool o3, .int .i64 L, .bool O, .int .i64 Q, .int .u8 W], .int .i64 b.length] (by rfl) rfl rfl (by simp only [List.map_toArray, List.map_cons, List.map_nil]; rfl) ?_
     with_reducible refine (order_Right.calls k E _ _ D o2 o3 L O Q W b.length e1 e2 _ ?side1 ?side2 HR.out).mono ?_
     (case side1 => exact (HX.out _ HB.out).2)
     (case side2 => exact LT.out)
     rintro e w9 ⟨ev, rfl, he, hb⟩
     refine ⟨_, rfl, ?_⟩
     clear he
     have j := Z (vb HS.out hb)
     have l := Z (kb c.out hb)
     have u := Z (kb a.out hb)
     have x := Z (kb g.out hb)
     have B := Z (below_step bl_ hb)
     clear HS c a g HB hb
     have HS := j
     have c := l
     have a := u
     have g := x
     have HB := B
     clear j l u x B
     refine hK.out _ _ ⟨(blk_cell g.out 0).trans rfl, (blk_cell g.out 1).trans rfl, (blk_cell g.out 2).trans rfl, (blk_cell g.out 3).trans rfl, (blk_cell g.out 4).trans rfl, (blk_cell g.out 5).trans rfl, (blk_cell g.out 6).trans rfl, (blk_cell g.out 7).trans rfl, (blk_cell c.out 0).trans rfl, (blk_cell c.out 1).trans rfl, (blk_cell c.out 2).trans rfl, (blk_cell c.out 3).trans rfl, (blk_cell c.out 4).trans rfl, (blk_cell c.out 5).trans rfl⟩ (fun hHeld => ?_)
     clear hK K
     refine norm_ (a' := ?_) ?_ ?_
     rotate_left
     ·show Act.put _ (some 25) _ = _
      simp only [Act.put, sA, sB, sC, i64_w, i32_w]
      rfl
     refine pure_ (i := 4) (N := some 11) (v := ?_) (a' := ?_) (bv 5 31) rfl rfl (by kernel_rfl) (fun _ _ _ h => h) (Or.inl ⟨by rfl, ?_⟩) ?_ ?_
     rotate_left
     ·intro w'
      go_simp
      with_reducible rfl
     rotate_left
     ·simp only [Act.put, sA, sB, sC, i64_w, i32_w]
      rfl
     refine done_ (by kernel_rfl) ?_
     cases e1 with
     | none =>
      simp only [errW_none]
      go_wp2
      go_roundg k1
      case measure => omega
      case rel => exact ⟨y + 1, by first | (rw [EW.out]; done) | rw [EW.out], ⟨by have := T.out; omega⟩, EN, STEPZ, ⟨Kd.V_mono HS.out (fun _ hk => hk.1)⟩, c, a, HB⟩
     | some er =>
      cases er with
      | spot => exact absurd STEPZ.out (by simp)
      | num n =>
       have h := HH.out
       have hq : some (some (y, n)) = some bad := STEPZ.out
       obtain rfl := Option.some.inj hq
       simp only [Option.some.injEq, Prod.mk.injEq] at h
       obtain ⟨rfl, rfl, rfl, rfl, rfl, rfl, rfl, rfl, rfl⟩ := h
       rw [errW_some, show (Er.num n).ty = ERNT from rfl, show (Er.num n).pay _ = .int .i64 n from rfl]
       clear hq STEPZ HH
       obtain ⟨z0, z1, z2, z3, z4, z5, y0, y1, y2, y3, y4, y5⟩ := cells6 c.out
       go_wp2_with (first | ((with_reducible refine gate_dst (N := 33) rfl ?_); refine bx_ 33 85 #[.int .i64 y, .iface ERNT (.int .i64 n)] ?_; intro g6 hg b7 hbox hb; replace HS := Z (ve HS.out hg hb); have bj := Z (hbox); have bk := Z (le_new hg (below_size bl_) : w.heap.size ≤ g6); have bd := Z (nl a.out hg); replace a := Z (kb a.out hb); replace HB := Z (below_step bl_ hb); clear c g; obtain ⟨s0, s1, s2, s3, s4, s5, p0, p1, p2, p3, p4, p5⟩ := cells6 a.out; clear hb hbox hg))
       refine bodyPost_ret (results_ctt rfl _ _ g2 24 #[.int .i64 o, .int .i64 q, .slice G b.length H, .int .i64 A, .bool r, .bool s] (0, 0) _ rfl (put6 a.out) Tryd.underlying24 rfl (by kernel_rfl)) rfl ?_
       exact ⟨_, .slice (some ⟨g6, 0, none⟩) 1 1, rfl, ⟨V_off HS.out (fun _ hk => hk.1.1.2) off2_ (fun _ hk => .inl hk.1.1.1.1), fun h_ => by cases h_⟩, ⟨spot_V (blk_off bj.out bd.out.symm off2_) (.inr bk.out), fun h_ => by cases h_⟩, bl_⟩
   ·cases gk with
    | succ k1 => exact absurd (by have := YM.out; omega : y < (l2.length : Int)) cy
    | zero =>
     have c0 : decide (y < (l2.length : Int)) = false := decide_eq_false cy
     have hd : l2.drop y.toNat = [] := List.drop_eq_nil_of_le (by omega)
     have STEP := HBAD.out
     rw [hd, badF] at STEP
     obtain rfl := Option.some.inj STEP
     have h := HH.out
     clear cy YM HBAD STEP hd HH
     by_cases hn : b.length ≤ 16383 ∧ 0 < b.length
     ·have h : ((allF k o q r s l2 (b, A, a1)).bind fun d => some (o, q, d.1, d.2.1, r, s, d.2.2, (none : Option Er), ([] : List S184))) = some (r1, r2, r3, r4, r5, r6, r7, r8, r9) := by rw [← h]; exact (if_pos hn).symm
      obtain ⟨⟨l', cu', at'⟩, hD, h⟩ := Option.bind_eq_some_iff.mp h
      simp only [Option.some.injEq, Prod.mk.injEq] at h
      obtain ⟨rfl, rfl, rfl, rfl, rfl, rfl, rfl, rfl, rfl⟩ := h
      have HC := Z (show grid_Copy.f o q b A r s = some (o, q, b, A, r, s) by unfold grid_Copy.f slices_Clone_shutter_api_Cell_shutter_api_Cell.f; rw [if_pos hn.1]; rfl)
      have HP := Z hn.2
      have HD := Z hD
      clear hn hD
      obtain ⟨z0, z1, z2, z3, z4, z5, y0, y1, y2, y3, y4, y5⟩ := cells6 c.out
      go_wp2_with (first | ((with_reducible refine gate_callee (f := 38) rfl ?_); refine goesL_ (some 37) rfl rfl Tryd.func38 (by kernel_rfl) rfl #[.agg #[.int .i64 o, .int .i64 q, .slice G b.length H, .int .i64 A, .bool r, .bool s]] rfl ag_ ?_; (with_reducible refine (grid_Copy.calls o q _ _ b A r s o q b A r s _ ?side1 ?side2 HC.out).mono ?_); (case side1 => exact (Kd.V_reads' HS.out).2.2); (case side2 => exact (Kd.V_reads' HS.out).2.1); rintro e w6 ⟨v1, rfl, an, hb⟩; refine ⟨_, rfl, ?_⟩; obtain ⟨Ao, co, eo⟩ := Kd.R_slice an; subst eo; obtain ⟨go, co', eo', gb, gl, cl, HG⟩ := Kd.R_form an HP.out; (first | cases eo' | (injection eo' with ea_ en_ ec_; (first | subst ea_ | (injection ea_ with ea_; subst ea_)); subst ec_; clear en_)); have NG := Z (Nat.lt_of_lt_of_le (blk_lt a.out) (Kd.R_base an go rfl) : g2 < go); have GO := Z (Nat.le_trans (below_size bl_) (Kd.R_base an go rfl) : w.heap.size ≤ go); clear z0 z1 z2 z3 z4 z5 y0 y1 y2 y3 y4 y5 HG gb gl cl; have HO := Z (Kd.R_lower an (below_size bl_)); replace a := Z (kb a.out hb); replace HB := Z (below_step bl_ hb); clear HS c an hb) | ((with_reducible refine gate_dst (N := 40) rfl ?_); refine bx_ 40 71 #[.int .i64 o, .int .i64 q, .slice (some ⟨go, 0, none⟩) b.length co, .int .i64 A, .bool r, .bool s, .int .i64 a1] ?_; intro g4 hg b6 hbox hb; have M := Z (nl a.out hg); replace a := Z (kb a.out hb); have bY := Z (own_newB HO.out hg); replace HO := Z (rb HO.out hb); have z := Z (hbox); have a6 := Z (le_new hg (below_size bl_) : w.heap.size ≤ g4); replace HB := Z (below_step bl_ hb); clear hb hbox hg))
      go_loopg [43] l2.length (fun m bD w' => ∃ (y : Int) (l1 : List S44) (U X : Int), bD = .int .i64 y ∧ Aside0 (0 ≤ y) ∧ Aside0 (y + (m : Int) = l2.length) ∧ Aside0 (allF k o q r s (l2.drop y.toNat) (l1, U, X) = some (l', cu', at')) ∧ Aside0 (l1.length = b.length) ∧ Aside0 (Kd.R k44 44 w' w.heap.size (fun _ => True) (.slice (some ⟨go, 0, none⟩) b.length co) l1) ∧ Aside0 (w'.heap[g2]? = some (.cells #[.int .i64 0, .int .i64 0, .slice none 0 0, .int .i64 0, .bool false, .bool false] 24 (0, 0))) ∧ Aside0 (w'.heap[g4]? = some (.cells #[.int .i64 o, .int .i64 q, .slice (some ⟨go, 0, none⟩) b.length co, .int .i64 U, .bool r, .bool s, .int .i64 X] 71 (0, 0))) ∧ Aside0 (Below w.heap.size w w'))
      case atStart => exact ⟨0, b, A, a1, by first | rfl | (simp; done), ⟨by omega⟩, ⟨by omega⟩, HD, ⟨rfl⟩, HO, a, z, HB⟩
      case round =>
       clear HD HO a z HB T c0
       obtain ⟨y, l1, U, X, rfl, T, YM, HD, aN, HO, a, z, HB⟩ := hrel
       by_cases cy : y < (l2.length : Int)
       ·cases gk with
        | zero => exact absurd cy (by have := YM.out; omega)
        | succ k1 =>
         have EN := Z (show y + 1 + ((k1 : Nat) : Int) = l2.length by have := YM.out; omega)
         have STEP := HD.out
         rw [drop_ord l2 y T.out cy, allF] at STEP
         clear YM HD
         obtain ⟨ad, F, c1, ea, af, hx1, ag, ah, ai, aj, ak, al, lt_, hx_⟩ := at_T30 (Kd.C_below HT.out HB.out) y T.out cy
         have hxf : ∀ W', Below w.heap.size w W' → Kd.C (Kd.int .u8) W' F (rd_T30 l2 y).f1.length (rd_T30 l2 y).f1 := order_text HT.out HB.out T.out cy hx1 ea
         obtain ⟨v, hv⟩ : ∃ v, v = rd_T30 l2 y := ⟨_, rfl⟩
         rw [← hv] at af hx1 ag ah ai aj ak al lt_ hxf STEP
         clear hv hx_
         obtain ⟨E, D, ⟨o2, o3, L, O⟩, Q, W⟩ := v
         subst ea
         have bo : wr.cell? (ad.add (y.toNat * 8)) = some (.int .i64 E) := af
         have bp : wr.cell? ⟨(ad.add (y.toNat * 8)).block, (ad.add (y.toNat * 8)).off + 1, none⟩ = some (.slice F D.length c1) := hx1
         have bq : wr.cell? ⟨(ad.add (y.toNat * 8)).block, (ad.add (y.toNat * 8)).off + 2, none⟩ = some (.bool o2) := ag
         have br : wr.cell? ⟨(ad.add (y.toNat * 8)).block, (ad.add (y.toNat * 8)).off + 3, none⟩ = some (.bool o3) := ah
         have bs : wr.cell? ⟨(ad.add (y.toNat * 8)).block, (ad.add (y.toNat * 8)).off + 4, none⟩ = some (.int .i64 L) := ai
         have bt : wr.cell? ⟨(ad.add (y.toNat * 8)).block, (ad.add (y.toNat * 8)).off + 5, none⟩ = some (.bool O) := aj
         have bu : wr.cell? ⟨(ad.add (y.toNat * 8)).block, (ad.add (y.toNat * 8)).off + 6, none⟩ = some (.int .i64 Q) := ak
         have bw : wr.cell? ⟨(ad.add (y.toNat * 8)).block, (ad.add (y.toNat * 8)).off + 7, none⟩ = some (.int .u8 W) := al
         clear af hx1 ag ah ai aj ak al
         have LT := Z (show D.length ≤ c1 from lt_)
         have HX : Aside0 (∀ W', Below w.heap.size w W' → True ∧ Kd.C (Kd.int .u8) W' F D.length D) := ⟨fun W' h_ => ⟨trivial, hxf W' h_⟩⟩
         clear lt_ hxf
         have q0 : (0 ≤ y) = True := eq_true T.out
         have q1 : (y < (l2.length : Int)) = True := eq_true cy
         have c0 : decide (y < (l2.length : Int)) = true := decide_eq_true cy
         have EW := Z (show wrap64 (y + 1) = y + 1 by have := HL.out; have := T.out; unfold wrap64; omega)
         obtain ⟨⟨l9, aP, at9⟩, hD, STEP⟩ := Option.bind_eq_some_iff.mp STEP
         have HD := Z (show doF k o q l1 U r s X E D o2 o3 L O Q W = some (l9, aP, at9) from hD)
         have STEPZ := Z STEP
         have bl := Z ((doF_len HD.out).trans aN.out)
         clear hD STEP cy
         go_wp2_with (first | ((with_reducible refine gate_dst (N := 14) rfl ?_); refine bx_ 14 30 #[.int .i64 0, .slice none 0 0, .bool false, .bool false, .int .i64 0, .bool false, .int .i64 0, .int .u8 0] ?_; intro g5 hg bF hbox hb; replace HO := Z (rb HO.out hb); have aa := Z (hbox); have bX := Z (le_new hg (below_size bl_) : w.heap.size ≤ g5); have bc := Z (nl a.out hg); replace a := Z (kb a.out hb); have be := Z (nl z.out hg); replace z := Z (kb z.out hb); replace HB := Z (below_step bl_ hb); obtain ⟨av, aw, ax, ay, az, aA, aB, aC, aD, aE, aF, aG, aH, aI, aJ, aK⟩ := cells8 aa.out; clear hb hbox hg) | ((with_reducible refine gate_store (t := 30) (p := 14) rfl ?_); refine sx_ 30 14 ((((((((bF.setCell ⟨g5, 0, none⟩ (.int .i64 E)).setCell ⟨g5, 1, none⟩ (.slice F D.length c1)).setCell ⟨g5, 2, none⟩ (.bool o2)).setCell ⟨g5, 3, none⟩ (.bool o3)).setCell ⟨g5, 4, none⟩ (.int .i64 L)).setCell ⟨g5, 5, none⟩ (.bool O)).setCell ⟨g5, 6, none⟩ (.int .i64 Q)).setCell ⟨g5, 7, none⟩ (.int .u8 W)) ?_; intro aM hw; have b_ : Aside0 (aM.heap[g5]? = some (.cells #[.int .i64 E, .slice F D.length c1, .bool o2, .bool o3, .int .i64 L, .bool O, .int .i64 Q, .int .u8 W] 30 (0, 0))) := ⟨by rw [hw]; refine blk_put (cs := #[.int .i64 E, .slice F D.length c1, .bool o2, .bool o3, .int .i64 L, .bool O, .int .i64 Q, .int .u8 0]) ?_ 7 _ rfl; refine blk_put (cs := #[.int .i64 E, .slice F D.length c1, .bool o2, .bool o3, .int .i64 L, .bool O, .int .i64 0, .int .u8 0]) ?_ 6 _ rfl; refine blk_put (cs := #[.int .i64 E, .slice F D.length c1, .bool o2, .bool o3, .int .i64 L, .bool false, .int .i64 0, .int .u8 0]) ?_ 5 _ rfl; refine blk_put (cs := #[.int .i64 E, .slice F D.length c1, .bool o2, .bool o3, .int .i64 0, .bool false, .int .i64 0, .int .u8 0]) ?_ 4 _ rfl; refine blk_put (cs := #[.int .i64 E, .slice F D.length c1, .bool o2, .bool false, .int .i64 0, .bool false, .int .i64 0, .int .u8 0]) ?_ 3 _ rfl; refine blk_put (cs := #[.int .i64 E, .slice F D.length c1, .bool false, .bool false, .int .i64 0, .bool false, .int .i64 0, .int .u8 0]) ?_ 2 _ rfl; refine blk_put (cs := #[.int .i64 E, .slice none 0 0, .bool false, .bool false, .int .i64 0, .bool false, .int .i64 0, .int .u8 0]) ?_ 1 _ rfl; refine blk_put (cs := #[.int .i64 0, .slice none 0 0, .bool false, .bool false, .int .i64 0, .bool false, .int .i64 0, .int .u8 0]) ?_ 0 _ rfl; exact aa.out⟩; have ao : Aside0 (Kd.R k44 44 aM w.heap.size (fun _ => True) (.slice (some ⟨go, 0, none⟩) b.length co) l1) := ⟨by rw [hw]; exact R_off HO.out aa.out (by decide) off2_⟩; have ap : Aside0 (aM.heap[g2]? = some (.cells #[.int .i64 0, .int .i64 0, .slice none 0 0, .int .i64 0, .bool false, .bool false] 24 (0, 0))) := ⟨by rw [hw]; exact blk_off a.out bc.out off2_⟩; have aq : Aside0 (aM.heap[g4]? = some (.cells #[.int .i64 o, .int .i64 q, .slice (some ⟨go, 0, none⟩) b.length co, .int .i64 U, .bool r, .bool s, .int .i64 X] 71 (0, 0))) := ⟨by rw [hw]; exact blk_off z.out be.out off2_⟩; have ar : Aside0 (Below w.heap.size w aM) := ⟨by rw [hw]; exact bl_⟩; clear hw; clear av aw ax ay az aA aB aC aD aE aF aG aH aI aJ aK; clear HO a z HB aa; have HO := ao; have a := ap; have z := aq; have HB := ar; clear ao ap aq ar; have aa := b_; clear b_; obtain ⟨av, aw, ax, ay, az, aA, aB, aC, aD, aE, aF, aG, aH, aI, aJ, aK⟩ := cells8 aa.out))
         refine (brush_do k o q go co l1 U r s X F c1 E D o2 o3 L O Q W l9 aP at9 g4 _ _ _ (by rw [aN.out]; exact z.out) (by rw [aN.out]; exact HO.out) (fun W' hF => (HX.out _ (hF.below HB.out a6.out GO.out)).2) HD.out).mono ?_
         rintro e w8 ⟨rfl, aQ, ho_, hF⟩
         clear av aw ax ay az aA aB aC aD aE aF aG aH aI aJ aK
         rw [aN.out] at aQ ho_
         have j := Z ((hF.out.block g2 (blk_lt a.out) M.out (Nat.ne_of_lt NG.out)).trans a.out)
         have l := Z (hF.out.below HB.out a6.out GO.out)
         clear a HB HO z aa hF
         have a := j
         have HB := l
         clear j l
         have HO := ho_
         have z := aQ
         clear ho_ aQ
         go_wp2
         go_roundg k1
         case measure => omega
         case rel => exact ⟨y + 1, l9, aP, at9, by first | (rw [EW.out]; done) | rw [EW.out], ⟨by have := T.out; omega⟩, EN, STEPZ, bl, HO, a, z, HB⟩
       ·cases gk with
        | succ k1 => exact absurd (by have := YM.out; omega : y < (l2.length : Int)) cy
        | zero =>
         have c0 : decide (y < (l2.length : Int)) = false := decide_eq_false cy
         have hd : l2.drop y.toNat = [] := List.drop_eq_nil_of_le (by omega)
         have STEP := HD.out
         rw [hd, allF] at STEP
         obtain ⟨rfl, rfl, rfl⟩ : l1 = l' ∧ U = cu' ∧ X = at' := by simpa using STEP
         clear cy YM HD STEP hd
         go_wp2
         have j := Z (Kd.R_drew HO.out)
         have l := Z (blk_drew a.out)
         have u := Z (blk_drew z.out)
         have x := Z (below_drew1 HB.out)
         clear HO a z HB
         have HO := j
         have a := l
         have z := u
         have HB := x
         clear j l u x
         refine start_ (n := 11) (S := fun w' => w'.cell? ⟨g4, 0, none⟩ = some (.int .i64 o) ∧ w'.cell? ⟨g4, 1, none⟩ = some (.int .i64 q) ∧ w'.cell? ⟨g4, 2, none⟩ = some (.slice (some ⟨go, 0, none⟩) b.length co) ∧ w'.cell? ⟨g4, 3, none⟩ = some (.int .i64 U) ∧ w'.cell? ⟨g4, 4, none⟩ = some (.bool r) ∧ w'.cell? ⟨g4, 5, none⟩ = some (.bool s) ∧ w'.cell? ⟨g4, 6, none⟩ = some (.int .i64 X)) (ds := []) (bv 11 0) (by kernel_rfl) rfl rfl ⟨(blk_cell z.out 0).trans rfl, (blk_cell z.out 1).trans rfl, (blk_cell z.out 2).trans rfl, (blk_cell z.out 3).trans rfl, (blk_cell z.out 4).trans rfl, (blk_cell z.out 5).trans rfl, (blk_cell z.out 6).trans rfl⟩ (fun hHeld => ?_)
         generalize World.drew _ = w9 at HO a z HB hHeld ⊢
         obtain ⟨t0, t1, t2, t3, t4, t5, p0, p1, p2, p3, p4, p5⟩ := cells6 a.out
         refine pure_ (i := 0) (N := some 51) (v := ?_) (a' := ?_) (bv 11 1) rfl rfl (by kernel_rfl) (fun _ _ _ h => h) (Or.inl ⟨by rfl, ?_⟩) ?_ ?_
         rotate_left
         ·intro w'
          go_simp
          with_reducible rfl
         rotate_left
         ·simp only [Act.put, sA, sB, sC, i64_w, i32_w]
          rfl
         refine pure_ (i := 1) (N := some 52) (v := ?_) (a' := ?_) (bv 11 3) rfl rfl (by kernel_rfl) (fun _ _ _ h => h) (Or.inl ⟨by rfl, ?_⟩) ?_ ?_
         rotate_left
         ·intro w'
          go_simp
          with_reducible rfl
         rotate_left
         ·simp only [Act.put, sA, sB, sC, i64_w, i32_w]
          rfl
         refine pure_ (i := 2) (N := some 53) (v := ?_) (a' := ?_) (bv 11 7) rfl rfl (by kernel_rfl) (fun _ _ _ h => h) (Or.inl ⟨by rfl, ?_⟩) ?_ ?_
         rotate_left
         ·intro w'
          go_simp
          with_reducible rfl
         rotate_left
         ·simp only [Act.put, sA, sB, sC, i64_w, i32_w]
          rfl
         refine pure_ (i := 4) (N := some 55) (v := ?_) (a' := ?_) (bv 11 23) rfl rfl (by kernel_rfl) (fun _ _ _ h => h) (Or.inl ⟨by rfl, ?_⟩) ?_ ?_
         rotate_left
         ·intro w'
          go_simp
          with_reducible rfl
         rotate_left
         ·simp only [Act.put, sA, sB, sC, i64_w, i32_w]
          rfl
         refine pure_ (i := 5) (N := some 56) (v := ?_) (a' := ?_) (bv 11 55) rfl rfl (by kernel_rfl) (fun _ _ _ h => h) (Or.inl ⟨by rfl, ?_⟩) ?_ ?_
         rotate_left
         ·intro w'
          go_simp
          with_reducible rfl
         rotate_left
         ·simp only [Act.put, sA, sB, sC, i64_w, i32_w]
          rfl
         refine pure_ (i := 6) (N := some 57) (v := ?_) (a' := ?_) (bv 11 119) rfl rfl (by kernel_rfl) (fun _ _ _ h => h) (Or.inl ⟨by rfl, ?_⟩) ?_ ?_
         rotate_left
         ·intro w'
          go_simp
          with_reducible rfl
         rotate_left
         ·simp only [Act.put, sA, sB, sC, i64_w, i32_w]
          rfl
         refine take_ (i := 3) (N := some 54) (v := ?_) (a' := ?_) (bv 11 127) rfl rfl (by kernel_rfl) (fun _ _ _ h => h) (Or.inl ⟨by rfl, ?_⟩) hHeld ?_ ?_
         rotate_left
         ·rintro w' ⟨s0, s1, s2, s3, s4, s5, s6⟩
          go_simp
          with_reducible rfl
         rotate_left
         ·simp only [Act.put, sA, sB, sC, i64_w, i32_w]
          rfl
         refine take_ (i := 7) (N := some 58) (v := ?_) (a' := ?_) (bv 11 255) rfl rfl (by kernel_rfl) (fun _ _ _ h => h) (Or.inl ⟨by rfl, ?_⟩) hHeld ?_ ?_
         rotate_left
         ·rintro w' ⟨s0, s1, s2, s3, s4, s5, s6⟩
          go_simp
          with_reducible rfl
         rotate_left
         ·simp only [Act.put, sA, sB, sC, i64_w, i32_w]
          rfl
         refine one_ (i := 8) (N := none) (bv 11 511) rfl rfl (by kernel_rfl) (by decide) (fun K hK => ?_)
         refine skip_ (w1 := ?_) (by rfl) rfl ?_ ?_
         rotate_left
         ·go_simp
          rfl
         refine hK.out _ _ ⟨cl_offB hHeld.1 M.out.symm off2_, cl_offB hHeld.2.1 M.out.symm off2_, cl_offB hHeld.2.2.1 M.out.symm off2_, cl_offB hHeld.2.2.2.1 M.out.symm off2_, cl_offB hHeld.2.2.2.2.1 M.out.symm off2_, cl_offB hHeld.2.2.2.2.2.1 M.out.symm off2_, cl_offB hHeld.2.2.2.2.2.2 M.out.symm off2_⟩ (fun hHeld => ?_)
         clear hK K
         refine pure_ (i := 9) (N := some 7) (v := ?_) (a' := ?_) (bv 11 1023) rfl rfl (by kernel_rfl) (fun _ _ _ h => h) (Or.inl ⟨by rfl, ?_⟩) ?_ ?_
         rotate_left
         ·intro w'
          go_simp
          with_reducible rfl
         rotate_left
         ·simp only [Act.put, sA, sB, sC, i64_w, i32_w]
          rfl
         refine pure_ (i := 10) (N := some 8) (v := ?_) (a' := ?_) (bv 11 2047) rfl rfl (by kernel_rfl) (fun _ _ _ h => h) (Or.inl ⟨by rfl, ?_⟩) ?_ ?_
         rotate_left
         ·intro w'
          go_simp
          with_reducible rfl
         rotate_left
         ·simp only [Act.put, sA, sB, sC, i64_w, i32_w]
          rfl
         refine done_ (by kernel_rfl) ?_
         try go_wp2
         refine bodyPost_ret (results_ctt rfl _ _ g2 24 #[.int .i64 o, .int .i64 q, .slice (some ⟨go, 0, none⟩) b.length co, .int .i64 U, .bool r, .bool s] (0, 0) _ rfl (put6 a.out) Tryd.underlying24 rfl (by kernel_rfl)) rfl ?_
         exact ⟨_, .slice none 0 0, rfl, ⟨Kd.V_mono (Kd.R_V (Kd.R_reok (ok := fun k_ => w.heap.size ≤ k_) rfl (R_off HO.out a.out (by decide) off2_) (fun k_ e_ => Kd.R_base (R_off HO.out a.out (by decide) off2_) k_ e_))) (fun _ hk => .inr hk), fun _ => Kd.R_reok (ok := fun k_ => w.heap.size ≤ k_) rfl (R_off HO.out a.out (by decide) off2_) (fun k_ e_ => Kd.R_base (R_off HO.out a.out (by decide) off2_) k_ e_)⟩, ⟨Kd.V_nil _ _ _ _ _, fun _ => by first | rfl | trivial⟩, bl_⟩
     ·exfalso
      have h : (none : Option (Int × Int × (List S44) × Int × Bool × Bool × Int × Option Er × List S184)) = some (r1, r2, r3, r4, r5, r6, r7, r8, r9) := by rw [← h]; exact (if_neg hn).symm
      cases h
 ·rw [if_neg hL] at h; cases h
theorem paint_All.calls (k : Nat) (d : Int) (g : Int) (a : Nat → Prop) (c : Option Addr) (m : Nat) (b : List (S44)) (i : Int) (j : Bool) (l : Bool) (a1 : Int) (q : Option Addr) (c2 : Nat) (l2 : List (S30)) (r : Int) (s : Int) (t : List (S44)) (u : Int) (v : Bool) (x : Bool) (y : Int) (r8 : Option Er) (r9 : List S184) (w : World) (n : Kd.V k44 44 w w.heap.size (fun k_ => a k_) (.slice c b.length m) b) (A : Kd.C k30 w q l2.length l2) (z : l2.length ≤ c2) (h : paint_All.f k d g b i j l a1 l2 = some (r, s, t, u, v, x, y, r8, r9)) :
  Calls Tryd.prog 24 #[.agg #[.int .i64 d, .int .i64 g, .slice c b.length m, .int .i64 i, .bool j, .bool l], .int .i64 a1, .slice q l2.length c2] w fun e w' => ∃ o p : Value, e = .returned (.tuple #[.agg #[.int .i64 r, .int .i64 s, o, .int .i64 u, .bool v, .bool x], .int .i64 y, errW p r8]) ∧ Kd.V k44 44 w' w.heap.size (fun k_ => (a k_ ∨ w.heap.size ≤ k_)) o t ∧ Kd.V k184 184 w' w.heap.size (fun k_ => (a k_ ∨ w.heap.size ≤ k_)) p r9 ∧ Below w.heap.size w w' := by
 refine (paint_All.callsB k d g a c m b i j l a1 q c2 l2 r s t u v x y r8 r9 w n A z h).mono ?_
 rintro e w' ⟨E, F, he, B, D, hb⟩
 exact ⟨E, F, he, B.out.1, D.out.1, hb⟩
theorem paint_All.callsN (k : Nat) (d : Int) (g : Int) (b : Nat → Prop) (c : Option Addr) (m : Nat) (a : List (S44)) (i : Int) (j : Bool) (l : Bool) (a1 : Int) (q : Option Addr) (c2 : Nat) (l2 : List (S30)) (r : Int) (s : Int) (t : List (S44)) (u : Int) (v : Bool) (x : Bool) (y : Int) (r9 : List S184) (w : World) (o : Kd.V k44 44 w w.heap.size (fun k_ => b k_) (.slice c a.length m) a) (A : Kd.C k30 w q l2.length l2) (z : l2.length ≤ c2) (h : paint_All.f k d g a i j l a1 l2 = some (r, s, t, u, v, x, y, (none : Option Er), r9)) :
  Calls Tryd.prog 24 #[.agg #[.int .i64 d, .int .i64 g, .slice c a.length m, .int .i64 i, .bool j, .bool l], .int .i64 a1, .slice q l2.length c2] w fun e w' => ∃ n p : Value, e = .returned (.tuple #[.agg #[.int .i64 r, .int .i64 s, n, .int .i64 u, .bool v, .bool x], .int .i64 y, errW p (none : Option Er)]) ∧ Kd.R k44 44 w' w.heap.size (fun k_ => (w.heap.size ≤ k_)) n t ∧ Kd.V k184 184 w' w.heap.size (fun k_ => (b k_ ∨ w.heap.size ≤ k_) ∧ some k_ ≠ (n : Value).ownBlock) p r9 ∧ Below w.heap.size w w' := by
 refine (paint_All.callsB k d g b c m a i j l a1 q c2 l2 r s t u v x y none r9 w o A z h).mono ?_
 rintro e w' ⟨F, G, he, D, E, hb⟩
 have B := E.out.2 rfl
 subst B
 exact ⟨F, .slice none 0 0, he, D.out.2 rfl, Kd.V_nil _ _ _ _ _, hb⟩
end

/-! ### host_Reset: function 29 -/
section
/-- A cell, modified no more: whatever cell, or one that is not protected. -/
def resetC (all : Bool) (c : S44) : S44 := if (all || !c.f1.f0) = true then ⟨c.f0, ⟨c.f1.f0, c.f1.f1, c.f1.f2, false⟩, c.f2⟩ else c
def resetN (all : Bool) (l : List S44) (i : Nat) : List S44 := (l.take i).map (resetC all) ++ l.drop i
theorem resetN_len (all : Bool) (l : List S44) (i : Nat) : (resetN all l i).length = l.length := by simp only [resetN, List.length_append, List.length_map, List.length_take, List.length_drop]; omega
theorem resetN_rd (all : Bool) (l : List S44) (x : Int) (a : x < l.length) : rd_T44 (resetN all l x.toNat) x = rd_T44 l x := by
 simp only [rd_T44, resetN, List.getD_eq_getElem?_getD]
 rw [List.getElem?_append_right (by simp only [List.length_map, List.length_take]; omega), List.length_map, List.length_take, List.getElem?_drop]
 congr 2; omega
theorem resetN_step (all : Bool) (l : List S44) (i : Nat) (hi : i < l.length) : resetN all l (i + 1) = (resetN all l i).set i (resetC all l[i]) := by
 unfold resetN
 rw [List.take_succ_eq_append_getElem hi, List.map_append, List.set_append_right _ _ (by simp only [List.length_map, List.length_take]; omega), List.drop_eq_getElem_cons hi, List.length_map, List.length_take, show i - min i l.length = 0 by omega]
 simp only [List.map_cons, List.map_nil, List.append_assoc, sB, List.cons_append, List.nil_append]
theorem resetN_next (all : Bool) (l : List S44) (x : Int) (a : 0 ≤ x) (b : x < l.length) : resetN all l (x + 1).toNat = (resetN all l x.toNat).set x.toNat (resetC all (rd_T44 l x)) := by
 obtain ⟨i, rfl⟩ := Int.eq_ofNat_of_zero_le a
 have hi : i < l.length := by omega
 have e : rd_T44 l (i : Int) = l[i] := by simp [rd_T44, hi]
 rw [e, show ((i : Int) + 1).toNat = i + 1 by omega, show (i : Int).toNat = i by omega, resetN_step all l i hi]
theorem resetN_keep (all : Bool) (l : List S44) (x : Int) (a : 0 ≤ x) (b : x < l.length) (hk : resetC all (rd_T44 l x) = rd_T44 l x) : resetN all l (x + 1).toNat = resetN all l x.toNat := by
 rw [resetN_next all l x a b, hk, ← resetN_rd all l x b]
 obtain ⟨i, rfl⟩ := Int.eq_ofNat_of_zero_le a
 have hi : i < (resetN all l i).length := by rw [resetN_len]; omega
 simp [rd_T44, hi]
theorem resetN_end (all : Bool) (l : List S44) (i : Nat) (h : l.length ≤ i) : resetN all l i = l.map (resetC all) := by
 unfold resetN; rw [List.take_of_length_le h, List.drop_eq_nil_of_le h, List.append_nil]
theorem R_offo {α : Type} {d : Kd α} {e base : Nat} {ok : Nat → Prop} {v : Value} {xs : List α} {w w1 : World} {g : Nat} (h : Kd.R d e w base ok v xs) (hE : d.E = []) (hne : some g ≠ v.ownBlock) (hm : ∀ k, k ≠ g → w1.heap[k]? = w.heap[k]?) : Kd.R d e w1 base ok v xs :=
 Kd.R_mono (Kd.R_step (Kd.R_tight hE h) (fun k hk _ => hm k (fun e_ => hne (by rw [← e_]; exact hk)))) (fun k hk => h.1 k hk.symm)
theorem own_new {α : Type} {d : Kd α} {e base g : Nat} {ok : Nat → Prop} {v : Value} {xs : List α} {w : World} (h : Kd.R d e w base ok v xs) (hg : g = w.heap.size) : some g ≠ v.ownBlock := fun hk => by
 have := own_lt h.2.choose_spec.1 g hk.symm
 omega
/-- host.Reset: a copy, modified no more: all of it, or what is not protected. -/
def host_Reset.f (b : Int) (c : Int) (a : List (S44)) (d : Int) (e : Bool) (g : Bool) (a1 : Bool) : Option (Int × Int × (List (S44)) × Int × Bool × Bool) := if a.length ≤ 16383 then some (b, c, a.map (resetC a1), d, e, g) else none
set_option maxHeartbeats 8000000 in
set_option maxRecDepth 100000 in
theorem host_Reset.calls (s : Int) (u : Int) (W : Option Addr) (X : Nat) (d : List (S44)) (y : Int) (z : Bool) (A : Bool) (a1 : Bool) (r1 : Int) (r2 : Int) (r3 : List (S44)) (r4 : Int) (r5 : Bool) (r6 : Bool) (w : World) (ac : Kd.C k44 w W d.length d) (ab : d.length ≤ X) (h : host_Reset.f s u d y z A a1 = some (r1, r2, r3, r4, r5, r6)) :
  Calls Tryd.prog 29 #[.agg #[.int .i64 s, .int .i64 u, .slice W d.length X, .int .i64 y, .bool z, .bool A], .bool a1] w fun e w' => ∃ am : Value, e = .returned (.agg #[.int .i64 r1, .int .i64 r2, am, .int .i64 r4, .bool r5, .bool r6]) ∧ Kd.R k44 44 w' w.heap.size (fun _ => True) am r3 ∧ Below w.heap.size w w' := by
 unfold host_Reset.f at h
 by_cases hn : d.length ≤ 16383
 ·rw [if_pos hn] at h
  simp only [Option.some.injEq, Prod.mk.injEq] at h
  obtain ⟨rfl, rfl, rfl, rfl, rfl, rfl⟩ := h
  have HR := Z ac
  have HL := Z ab
  have HN := Z hn
  have HC := Z (show grid_Copy.f s u d y z A = some (s, u, d, y, z, A) by unfold grid_Copy.f slices_Clone_shutter_api_Cell_shutter_api_Cell.f; rw [if_pos hn]; rfl)
  have HB := Z (Below.refl w.heap.size w)
  have hu := Tryd.underlying24
  have aK := Tryd.underlying44
  clear ac ab hn
  go_enter Tryd.func29, Tryd.ntmps29
  go_wp2_with (first
   | ((with_reducible refine gate_dst (N := 2) rfl ?_); refine bx_ 2 24 #[.int .i64 s, .int .i64 u, .slice W d.length X, .int .i64 y, .bool z, .bool A] ?_; intro g1 hg w1 hbox hb; have i := Z (below_step bl_ hb); have k := Z hbox; have l := Z (le_new hg (below_size bl_) : w.heap.size ≤ g1); clear HB; have HB := i; have a := k; have aI := l; clear i k l hb hbox hg)
   | ((with_reducible refine gate_dst (N := 4) rfl ?_); refine bx_ 4 24 #[.int .i64 0, .int .i64 0, .slice none 0 0, .int .i64 0, .bool false, .bool false] ?_; intro g2 hg w2 hbox hb; have i := Z (kb a.out hb); have k := Z (below_step bl_ hb); have l := Z hbox; have n := Z (le_new hg (below_size bl_) : w.heap.size ≤ g2); have B := Z (nl a.out hg); clear a HB; have a := i; have HB := k; have g := l; have aJ := n; have NB := B; clear i k l n B hb hbox hg; have hnb := NB.out; have hnc := NB.out.symm; obtain ⟨z0, z1, z2, z3, z4, z5, y0, y1, y2, y3, y4, y5⟩ := cells6 a.out)
   | ((with_reducible refine gate_callee (f := 38) rfl ?_); refine goesL_ (some 8) rfl rfl Tryd.func38 (by kernel_rfl) rfl #[.agg #[.int .i64 s, .int .i64 u, .slice W d.length X, .int .i64 y, .bool z, .bool A]] rfl ag_ ?_; (with_reducible refine (grid_Copy.calls s u _ _ d y z A s u d y z A _ ?side1 ?side2 HC.out).mono ?_); (case side1 => exact Kd.C_below HR.out HB.out); (case side2 => exact HL.out); rintro e w3 ⟨v1, rfl, al, hb⟩; refine ⟨_, rfl, ?_⟩; have HO := Z (Kd.R_lower al (below_size bl_)); replace a := Z (kb a.out hb); replace g := Z (kb g.out hb); replace HB := Z (below_step bl_ hb); clear al hb; obtain ⟨x0, x1, x2, x3, x4, x5, q0, q1, q2, q3, q4, q5⟩ := cells6 a.out; obtain ⟨Ao, co, eo⟩ := Kd.R_slice HO.out; subst eo))
  go_loopg [12] d.length (fun m av w' => ∃ x : Int, av = .int .i64 x ∧ Aside0 (0 ≤ x) ∧ Aside0 (x + (m : Int) = d.length) ∧ Aside0 (Kd.R k44 44 w' w.heap.size (fun _ => True) (.slice Ao d.length co) (resetN a1 d x.toNat)) ∧ Aside0 (w'.heap[g1]? = some (.cells #[.int .i64 s, .int .i64 u, .slice Ao d.length co, .int .i64 y, .bool z, .bool A] 24 (0, 0))) ∧ Aside0 (w'.heap[g2]? = some (.cells #[.int .i64 0, .int .i64 0, .slice none 0 0, .int .i64 0, .bool false, .bool false] 24 (0, 0))) ∧ Aside0 (Below w.heap.size w w'))
  case atStart => exact ⟨0, by first | rfl | (simp; done), ⟨by omega⟩, ⟨by omega⟩, ⟨R_off HO.out a.out (by decide) off2_⟩, ⟨put6 a.out⟩, ⟨blk_off g.out hnc off2_⟩, ⟨bl_⟩⟩
  case round =>
   try clear x0 x1 x2 x3 x4 x5 q0 q1 q2 q3 q4 q5
   try clear z0 z1 z2 z3 z4 z5 y0 y1 y2 y3 y4 y5
   clear HO a g HB
   obtain ⟨x, rfl, H, XM, HO, a, g, HB⟩ := hrel
   have Y := H.out
   have hxm := XM.out
   obtain ⟨u0, u1, u2, u3, u4, u5, q0, q1, q2, q3, q4, q5⟩ := cells6 a.out
   by_cases c : x < (d.length : Int)
   ·have c0 : decide (x < (d.length : Int)) = true := decide_eq_true c
    have c1 : decide (0 ≤ x) = true := decide_eq_true Y
    cases gk with
    | zero => exact absurd c (by omega)
    | succ k1 =>
     have EN := Z (show x + 1 + ((k1 : Nat) : Int) = d.length by omega)
     have EW := Z (show wrap64 (x + 1) = x + 1 by have := HN.out; unfold wrap64; omega)
     have EX := Z c
     obtain ⟨ys, hys⟩ : ∃ ys, ys = resetN a1 d x.toNat := ⟨_, rfl⟩
     rw [← hys] at HO
     have YL := Z (show ys.length = d.length by rw [hys, resetN_len])
     have EY := Z hys
     have EC := Z (show rd_T44 ys x = rd_T44 d x by rw [hys]; exact resetN_rd a1 d x c)
     have hq : x < (d.length : Int) := c
     clear c hxm hys
     obtain ⟨go, co', eo', gb, gl, cl, HG⟩ := Kd.R_form HO.out (by have := YL.out; omega)
     (first | cases eo' | (injection eo' with ea_ en_ ec_; (first | subst ea_ | (injection ea_ with ea_; subst ea_)); subst ec_; clear en_))
     have GB := Z gb
     clear gb gl HG
     obtain ⟨ce, hcl, hM, hcc, hfr⟩ := Kd.R_elem HO.out z44 x Y hq
     obtain rfl := k44_openM hM
     obtain ⟨v, hv⟩ : ∃ v, v = ys.getD x.toNat z44 := ⟨_, rfl⟩
     rw [← hv] at hcc hM
     have EV := Z (show v = rd_T44 d x from hv.trans EC.out)
     obtain ⟨I, ⟨b, J, b3, b4⟩, b5⟩ := v
     have hx_0 : wr.cell? ⟨go, (x : Int).toNat * 6, none⟩ = some (.bool I) := hcc 0 _ rfl
     have hx_1 : wr.cell? ⟨go, (x : Int).toNat * 6 + 1, none⟩ = some (.bool b) := hcc 1 _ rfl
     have hx_2 : wr.cell? ⟨go, (x : Int).toNat * 6 + 2, none⟩ = some (.bool J) := hcc 2 _ rfl
     have hx_3 : wr.cell? ⟨go, (x : Int).toNat * 6 + 3, none⟩ = some (.int .i64 b3) := hcc 3 _ rfl
     have hx_4 : wr.cell? ⟨go, (x : Int).toNat * 6 + 4, none⟩ = some (.bool b4) := hcc 4 _ rfl
     have hx_5 : wr.cell? ⟨go, (x : Int).toNat * 6 + 5, none⟩ = some (.int .u8 b5) := hcc 5 _ rfl
     clear hcl hcc hfr hM hv
     replace Y := eq_true Y
     replace hq := eq_true hq
     cases a1 <;> cases b
     ·go_wp2_with (first | ((with_reducible refine gate_dst (N := 6) rfl ?_); refine bx_ 6 44 #[.bool false, .bool false, .bool false, .int .i64 0, .bool false, .int .u8 0] ?_; intro q hg w6 hbox hb; have i := Z (rb HO.out hb); have k := Z (kb a.out hb); have l := Z (kb g.out hb); have n := Z (below_step bl_ hb); have r := Z hbox; have B := Z (le_new hg (below_size bl_) : w.heap.size ≤ q); have E := Z (nl a.out hg); have F := Z (nl g.out hg); have G := Z (own_new HO.out hg); clear HO a g HB hb hbox hg; have HO := i; have a := k; have g := l; have HB := n; have o := r; have ak := B; have K := E; have L := F; have M := G; clear i k l n r B E F G; obtain ⟨k0, D, k2, k3, k4, k5, O, P, Q, S, T, U⟩ := cells6 o.out) | ((with_reducible refine gate_store (t := 44) (p := 6) rfl ?_); refine sx_ 44 6 ((((((w6.setCell ⟨q, 0, none⟩ (.bool I)).setCell ⟨q, 1, none⟩ (.bool false)).setCell ⟨q, 2, none⟩ (.bool J)).setCell ⟨q, 3, none⟩ (.int .i64 b3)).setCell ⟨q, 4, none⟩ (.bool b4)).setCell ⟨q, 5, none⟩ (.int .u8 b5)) ?_; intro w7 hw; replace HO : Aside0 (Kd.R k44 44 w7 w.heap.size (fun _ => True) (.slice (some ⟨go, 0, none⟩) d.length co) ys) := ⟨by rw [hw]; exact R_offo HO.out rfl M.out off2_⟩; replace a : Aside0 (w7.heap[g1]? = some (.cells #[.int .i64 s, .int .i64 u, .slice (some ⟨go, 0, none⟩) d.length co, .int .i64 y, .bool z, .bool A] 24 (0, 0))) := ⟨by rw [hw]; exact blk_off a.out K.out off2_⟩; replace g : Aside0 (w7.heap[g2]? = some (.cells #[.int .i64 0, .int .i64 0, .slice none 0 0, .int .i64 0, .bool false, .bool false] 24 (0, 0))) := ⟨by rw [hw]; exact blk_off g.out L.out off2_⟩; replace o : Aside0 (w7.heap[q]? = some (.cells #[.bool I, .bool false, .bool J, .int .i64 b3, .bool b4, .int .u8 b5] 44 (0, 0))) := ⟨by rw [hw]; exact put6 o.out⟩; replace HB : Aside0 (Below w.heap.size w w7) := ⟨by rw [hw]; exact bl_⟩; clear hw k0 D k2 k3 k4 k5 O P Q S T U; obtain ⟨k0, D, k2, k3, k4, k5, O, P, Q, S, T, U⟩ := cells6 o.out; obtain ⟨u0, u1, u2, u3, u4, u5, q0, q1, q2, q3, q4, q5⟩ := cells6 a.out; obtain ⟨ce, hcl, hM, hcc, hfr⟩ := Kd.R_elem HO.out z44 x H.out EX.out; rw [show ys.getD x.toNat z44 = _ from EC.out.trans EV.out.symm] at hM; obtain rfl := k44_openM hM; have hy_4 := hcc 4 _ rfl; (try simp only [show (k44).sz = 6 from rfl] at hy_4); have hz_4 := hfr 4; (try simp only [show (k44).sz = 6 from rfl] at hz_4); have HP := Kd.R_seg HO.out x H.out EX.out (seg := [.bool false]) (j := 4) hcl hcc (show 5 ≤ 6 from by decide) (x' := (⟨I, ⟨false, J, b3, false⟩, b5⟩ : S44)) (k44_mkM _ _ _ _) (fun _ hk => hk); clear hcl hcc hfr hM) | ((with_reducible refine gate_store (t := 4) (p := 29) rfl ?_); refine sx_ 4 29 (w7.setCell ⟨go, (x : Int).toNat * 6 + 4, none⟩ (.bool false)) ?_; intro V hw; have hg : w7.grownBy V (some go) := (by rw [hw]; exact HP.2); have hp_ : Kd.R k44 44 V w.heap.size (fun _ => True) (.slice (some ⟨go, 0, none⟩) d.length co) (ys.set x.toNat (⟨I, ⟨false, J, b3, false⟩, b5⟩ : S44)) := (by rw [hw]; exact HP.1); clear HP; have i := Z hp_; have k := Z (blk_grown a.out hg (Kd.R_ne HO.out a.out (by decide))); have l := Z (blk_grown g.out hg (Kd.R_ne HO.out g.out (by decide))); have n : Aside0 (Below w.heap.size w V) := ⟨by rw [hw]; exact below_set HB.out GB.out⟩; clear HO a g o HB hg hw hp_; have HO := i; have a := k; have g := l; have HB := n; clear i k l n))
      go_roundg k1
      case measure => omega
      case rel => exact ⟨x + 1, by first | (rw [EW.out]; done) | rw [EW.out], ⟨by have := H.out; omega⟩, EN, ⟨by rw [resetN_next false d x H.out EX.out, ← EY.out, ← EV.out]; exact HO.out⟩, a, g, HB⟩
     ·go_wp2_with (first | ((with_reducible refine gate_dst (N := 6) rfl ?_); refine bx_ 6 44 #[.bool false, .bool false, .bool false, .int .i64 0, .bool false, .int .u8 0] ?_; intro q hg w6 hbox hb; have i := Z (rb HO.out hb); have k := Z (kb a.out hb); have l := Z (kb g.out hb); have n := Z (below_step bl_ hb); have r := Z hbox; have B := Z (le_new hg (below_size bl_) : w.heap.size ≤ q); have E := Z (nl a.out hg); have F := Z (nl g.out hg); have G := Z (own_new HO.out hg); clear HO a g HB hb hbox hg; have HO := i; have a := k; have g := l; have HB := n; have o := r; have ak := B; have K := E; have L := F; have M := G; clear i k l n r B E F G; obtain ⟨k0, D, k2, k3, k4, k5, O, P, Q, S, T, U⟩ := cells6 o.out) | ((with_reducible refine gate_store (t := 44) (p := 6) rfl ?_); refine sx_ 44 6 ((((((w6.setCell ⟨q, 0, none⟩ (.bool I)).setCell ⟨q, 1, none⟩ (.bool true)).setCell ⟨q, 2, none⟩ (.bool J)).setCell ⟨q, 3, none⟩ (.int .i64 b3)).setCell ⟨q, 4, none⟩ (.bool b4)).setCell ⟨q, 5, none⟩ (.int .u8 b5)) ?_; intro w7 hw; replace HO : Aside0 (Kd.R k44 44 w7 w.heap.size (fun _ => True) (.slice (some ⟨go, 0, none⟩) d.length co) ys) := ⟨by rw [hw]; exact R_offo HO.out rfl M.out off2_⟩; replace a : Aside0 (w7.heap[g1]? = some (.cells #[.int .i64 s, .int .i64 u, .slice (some ⟨go, 0, none⟩) d.length co, .int .i64 y, .bool z, .bool A] 24 (0, 0))) := ⟨by rw [hw]; exact blk_off a.out K.out off2_⟩; replace g : Aside0 (w7.heap[g2]? = some (.cells #[.int .i64 0, .int .i64 0, .slice none 0 0, .int .i64 0, .bool false, .bool false] 24 (0, 0))) := ⟨by rw [hw]; exact blk_off g.out L.out off2_⟩; replace o : Aside0 (w7.heap[q]? = some (.cells #[.bool I, .bool true, .bool J, .int .i64 b3, .bool b4, .int .u8 b5] 44 (0, 0))) := ⟨by rw [hw]; exact put6 o.out⟩; replace HB : Aside0 (Below w.heap.size w w7) := ⟨by rw [hw]; exact bl_⟩; clear hw k0 D k2 k3 k4 k5 O P Q S T U; obtain ⟨k0, D, k2, k3, k4, k5, O, P, Q, S, T, U⟩ := cells6 o.out; obtain ⟨u0, u1, u2, u3, u4, u5, q0, q1, q2, q3, q4, q5⟩ := cells6 a.out))
      go_roundg k1
      case measure => omega
      case rel => exact ⟨x + 1, by first | (rw [EW.out]; done) | rw [EW.out], ⟨by have := H.out; omega⟩, EN, ⟨by rw [resetN_keep false d x H.out EX.out (by rw [← EV.out]; rfl), ← EY.out]; exact HO.out⟩, a, g, HB⟩
     ·go_wp2_with (first | ((with_reducible refine gate_dst (N := 6) rfl ?_); refine bx_ 6 44 #[.bool false, .bool false, .bool false, .int .i64 0, .bool false, .int .u8 0] ?_; intro q hg w6 hbox hb; have i := Z (rb HO.out hb); have k := Z (kb a.out hb); have l := Z (kb g.out hb); have n := Z (below_step bl_ hb); have r := Z hbox; have B := Z (le_new hg (below_size bl_) : w.heap.size ≤ q); have E := Z (nl a.out hg); have F := Z (nl g.out hg); have G := Z (own_new HO.out hg); clear HO a g HB hb hbox hg; have HO := i; have a := k; have g := l; have HB := n; have o := r; have ak := B; have K := E; have L := F; have M := G; clear i k l n r B E F G; obtain ⟨k0, D, k2, k3, k4, k5, O, P, Q, S, T, U⟩ := cells6 o.out) | ((with_reducible refine gate_store (t := 44) (p := 6) rfl ?_); refine sx_ 44 6 ((((((w6.setCell ⟨q, 0, none⟩ (.bool I)).setCell ⟨q, 1, none⟩ (.bool false)).setCell ⟨q, 2, none⟩ (.bool J)).setCell ⟨q, 3, none⟩ (.int .i64 b3)).setCell ⟨q, 4, none⟩ (.bool b4)).setCell ⟨q, 5, none⟩ (.int .u8 b5)) ?_; intro w7 hw; replace HO : Aside0 (Kd.R k44 44 w7 w.heap.size (fun _ => True) (.slice (some ⟨go, 0, none⟩) d.length co) ys) := ⟨by rw [hw]; exact R_offo HO.out rfl M.out off2_⟩; replace a : Aside0 (w7.heap[g1]? = some (.cells #[.int .i64 s, .int .i64 u, .slice (some ⟨go, 0, none⟩) d.length co, .int .i64 y, .bool z, .bool A] 24 (0, 0))) := ⟨by rw [hw]; exact blk_off a.out K.out off2_⟩; replace g : Aside0 (w7.heap[g2]? = some (.cells #[.int .i64 0, .int .i64 0, .slice none 0 0, .int .i64 0, .bool false, .bool false] 24 (0, 0))) := ⟨by rw [hw]; exact blk_off g.out L.out off2_⟩; replace o : Aside0 (w7.heap[q]? = some (.cells #[.bool I, .bool false, .bool J, .int .i64 b3, .bool b4, .int .u8 b5] 44 (0, 0))) := ⟨by rw [hw]; exact put6 o.out⟩; replace HB : Aside0 (Below w.heap.size w w7) := ⟨by rw [hw]; exact bl_⟩; clear hw k0 D k2 k3 k4 k5 O P Q S T U; obtain ⟨k0, D, k2, k3, k4, k5, O, P, Q, S, T, U⟩ := cells6 o.out; obtain ⟨u0, u1, u2, u3, u4, u5, q0, q1, q2, q3, q4, q5⟩ := cells6 a.out; obtain ⟨ce, hcl, hM, hcc, hfr⟩ := Kd.R_elem HO.out z44 x H.out EX.out; rw [show ys.getD x.toNat z44 = _ from EC.out.trans EV.out.symm] at hM; obtain rfl := k44_openM hM; have hy_4 := hcc 4 _ rfl; (try simp only [show (k44).sz = 6 from rfl] at hy_4); have hz_4 := hfr 4; (try simp only [show (k44).sz = 6 from rfl] at hz_4); have HP := Kd.R_seg HO.out x H.out EX.out (seg := [.bool false]) (j := 4) hcl hcc (show 5 ≤ 6 from by decide) (x' := (⟨I, ⟨false, J, b3, false⟩, b5⟩ : S44)) (k44_mkM _ _ _ _) (fun _ hk => hk); clear hcl hcc hfr hM) | ((with_reducible refine gate_store (t := 4) (p := 29) rfl ?_); refine sx_ 4 29 (w7.setCell ⟨go, (x : Int).toNat * 6 + 4, none⟩ (.bool false)) ?_; intro V hw; have hg : w7.grownBy V (some go) := (by rw [hw]; exact HP.2); have hp_ : Kd.R k44 44 V w.heap.size (fun _ => True) (.slice (some ⟨go, 0, none⟩) d.length co) (ys.set x.toNat (⟨I, ⟨false, J, b3, false⟩, b5⟩ : S44)) := (by rw [hw]; exact HP.1); clear HP; have i := Z hp_; have k := Z (blk_grown a.out hg (Kd.R_ne HO.out a.out (by decide))); have l := Z (blk_grown g.out hg (Kd.R_ne HO.out g.out (by decide))); have n : Aside0 (Below w.heap.size w V) := ⟨by rw [hw]; exact below_set HB.out GB.out⟩; clear HO a g o HB hg hw hp_; have HO := i; have a := k; have g := l; have HB := n; clear i k l n))
      go_roundg k1
      case measure => omega
      case rel => exact ⟨x + 1, by first | (rw [EW.out]; done) | rw [EW.out], ⟨by have := H.out; omega⟩, EN, ⟨by rw [resetN_next true d x H.out EX.out, ← EY.out, ← EV.out]; exact HO.out⟩, a, g, HB⟩
     ·go_wp2_with (first | ((with_reducible refine gate_dst (N := 6) rfl ?_); refine bx_ 6 44 #[.bool false, .bool false, .bool false, .int .i64 0, .bool false, .int .u8 0] ?_; intro q hg w6 hbox hb; have i := Z (rb HO.out hb); have k := Z (kb a.out hb); have l := Z (kb g.out hb); have n := Z (below_step bl_ hb); have r := Z hbox; have B := Z (le_new hg (below_size bl_) : w.heap.size ≤ q); have E := Z (nl a.out hg); have F := Z (nl g.out hg); have G := Z (own_new HO.out hg); clear HO a g HB hb hbox hg; have HO := i; have a := k; have g := l; have HB := n; have o := r; have ak := B; have K := E; have L := F; have M := G; clear i k l n r B E F G; obtain ⟨k0, D, k2, k3, k4, k5, O, P, Q, S, T, U⟩ := cells6 o.out) | ((with_reducible refine gate_store (t := 44) (p := 6) rfl ?_); refine sx_ 44 6 ((((((w6.setCell ⟨q, 0, none⟩ (.bool I)).setCell ⟨q, 1, none⟩ (.bool true)).setCell ⟨q, 2, none⟩ (.bool J)).setCell ⟨q, 3, none⟩ (.int .i64 b3)).setCell ⟨q, 4, none⟩ (.bool b4)).setCell ⟨q, 5, none⟩ (.int .u8 b5)) ?_; intro w7 hw; replace HO : Aside0 (Kd.R k44 44 w7 w.heap.size (fun _ => True) (.slice (some ⟨go, 0, none⟩) d.length co) ys) := ⟨by rw [hw]; exact R_offo HO.out rfl M.out off2_⟩; replace a : Aside0 (w7.heap[g1]? = some (.cells #[.int .i64 s, .int .i64 u, .slice (some ⟨go, 0, none⟩) d.length co, .int .i64 y, .bool z, .bool A] 24 (0, 0))) := ⟨by rw [hw]; exact blk_off a.out K.out off2_⟩; replace g : Aside0 (w7.heap[g2]? = some (.cells #[.int .i64 0, .int .i64 0, .slice none 0 0, .int .i64 0, .bool false, .bool false] 24 (0, 0))) := ⟨by rw [hw]; exact blk_off g.out L.out off2_⟩; replace o : Aside0 (w7.heap[q]? = some (.cells #[.bool I, .bool true, .bool J, .int .i64 b3, .bool b4, .int .u8 b5] 44 (0, 0))) := ⟨by rw [hw]; exact put6 o.out⟩; replace HB : Aside0 (Below w.heap.size w w7) := ⟨by rw [hw]; exact bl_⟩; clear hw k0 D k2 k3 k4 k5 O P Q S T U; obtain ⟨k0, D, k2, k3, k4, k5, O, P, Q, S, T, U⟩ := cells6 o.out; obtain ⟨u0, u1, u2, u3, u4, u5, q0, q1, q2, q3, q4, q5⟩ := cells6 a.out; obtain ⟨ce, hcl, hM, hcc, hfr⟩ := Kd.R_elem HO.out z44 x H.out EX.out; rw [show ys.getD x.toNat z44 = _ from EC.out.trans EV.out.symm] at hM; obtain rfl := k44_openM hM; have hy_4 := hcc 4 _ rfl; (try simp only [show (k44).sz = 6 from rfl] at hy_4); have hz_4 := hfr 4; (try simp only [show (k44).sz = 6 from rfl] at hz_4); have HP := Kd.R_seg HO.out x H.out EX.out (seg := [.bool false]) (j := 4) hcl hcc (show 5 ≤ 6 from by decide) (x' := (⟨I, ⟨true, J, b3, false⟩, b5⟩ : S44)) (k44_mkM _ _ _ _) (fun _ hk => hk); clear hcl hcc hfr hM) | ((with_reducible refine gate_store (t := 4) (p := 29) rfl ?_); refine sx_ 4 29 (w7.setCell ⟨go, (x : Int).toNat * 6 + 4, none⟩ (.bool false)) ?_; intro V hw; have hg : w7.grownBy V (some go) := (by rw [hw]; exact HP.2); have hp_ : Kd.R k44 44 V w.heap.size (fun _ => True) (.slice (some ⟨go, 0, none⟩) d.length co) (ys.set x.toNat (⟨I, ⟨true, J, b3, false⟩, b5⟩ : S44)) := (by rw [hw]; exact HP.1); clear HP; have i := Z hp_; have k := Z (blk_grown a.out hg (Kd.R_ne HO.out a.out (by decide))); have l := Z (blk_grown g.out hg (Kd.R_ne HO.out g.out (by decide))); have n : Aside0 (Below w.heap.size w V) := ⟨by rw [hw]; exact below_set HB.out GB.out⟩; clear HO a g o HB hg hw hp_; have HO := i; have a := k; have g := l; have HB := n; clear i k l n))
      go_roundg k1
      case measure => omega
      case rel => exact ⟨x + 1, by first | (rw [EW.out]; done) | rw [EW.out], ⟨by have := H.out; omega⟩, EN, ⟨by rw [resetN_next true d x H.out EX.out, ← EY.out, ← EV.out]; exact HO.out⟩, a, g, HB⟩
   ·have c0 : decide (x < (d.length : Int)) = false := decide_eq_false c
    have EX := Z (show d.length ≤ x.toNat by omega)
    clear c hxm Y
    obtain ⟨s0, s1, s2, s3, s4, s5, p0, p1, p2, p3, p4, p5⟩ := cells6 g.out
    go_wp2
    refine bodyPost_ret (results_cell_row rfl _ _ g2 24 #[.int .i64 s, .int .i64 u, .slice Ao d.length co, .int .i64 y, .bool z, .bool A] (0, 0) _ rfl (put6 g.out) Tryd.underlying24 rfl (by kernel_rfl)) rfl ?_
    exact ⟨_, rfl, by rw [← resetN_end a1 d _ EX.out]; exact R_off HO.out g.out (by decide) off2_, bl_⟩
 ·rw [if_neg hn] at h; cases h
end

/-! ### stream_known: function 74 -/
def stream_known.j0 : Nat → Int → Bool → Option (Bool)
 | 0, _, _ => none
 | k + 1, a, b => if b = true then (some true) else (if a = 111 then (some true) else (if a = 242 then (some true) else (if a = 246 then (some true) else (some false))))
def stream_known.f (k : Nat) (a0 : Int) : Option (Bool) := if a0 = 241 then (stream_known.j0 k a0 (a0 == 241)) else (stream_known.j0 k a0 (a0 == 245))
theorem stream_known.mono_l : ∀ k, (∀ b c, LeO (stream_known.j0 k b c) (stream_known.j0 (k + 1) b c))
 | 0 => fun _ _ r h => by simp [stream_known.j0] at h
 | k + 1 => by
  have a := stream_known.mono_l k
  ·intro b c
   unfold stream_known.j0
   repeat' first
   | (with_reducible exact a _ _)
   | (with_reducible exact LeO.refl _)
   | (with_reducible exact LeO.none _)
   | (with_reducible refine LeO.ite ?_ ?_)
   | (with_reducible refine LeO.bind ?_ (fun _ => ?_))
   | exact a _ _
   | exact LeO.none _
   | refine LeO.ite ?_ ?_
   | refine LeO.bind ?_ (fun _ => ?_)
theorem stream_known.mono : ∀ a0 k, LeO (stream_known.f k a0) (stream_known.f (k + 1) a0) := by
 intro a0 k
 have a := stream_known.mono_l k
 unfold stream_known.f
 repeat' first
   | (with_reducible exact a _ _)
   | (with_reducible exact LeO.refl _)
   | (with_reducible exact LeO.none _)
   | (with_reducible refine LeO.ite ?_ ?_)
   | (with_reducible refine LeO.bind ?_ (fun _ => ?_))
   | exact a _ _
   | exact LeO.none _
   | refine LeO.ite ?_ ?_
   | refine LeO.bind ?_ (fun _ => ?_)
set_option maxHeartbeats 8000000 in
set_option maxRecDepth 100000 in
theorem stream_known.calls (k : Nat) (a0 : Int) (r : Bool) (w : World) (h : stream_known.f k a0 = some r) :
  Calls Tryd.prog 74 #[.int .i64 a0] w fun e w' => e = .returned (.bool r) ∧ Drawn0 w w' := by
 have H : (if a0 = 241 then (stream_known.j0 k a0 (a0 == 241)) else (stream_known.j0 k a0 (a0 == 245))) = some r := h
 clear h
 have c := Z H
 clear H
 go_enter Tryd.func74, Tryd.ntmps74
 go_upto_if 4 with (fail)
 go_cut [4] (fun o wc => ∃ (kq : Nat) (b : Bool), o = .bool b ∧ Aside0 (stream_known.j0 kq a0 b = some r) ∧ Aside0 (kq ≤ k) ∧ Drawn0 w wc)
 case first =>
  have H := c.out
  clear c
  by_cases c3 : a0 = 241
  ·rw [if_pos c3] at H
   have a : (a0 == 241) = true := beq_iff_eq.mpr c3
   have d : (a0 != 241) = false := bne_eq_false_iff_eq.mpr c3
   clear c3
   (first | rw [a] | (simp only [i64_w, i32_w]; rw [a]) | skip)
   have H' := Z H
   clear H
   go_wp2
   go_meet
   case rel => exact ⟨_, ((a0 == 241)), (dn_), H', ⟨by first | omega | exact Nat.le_refl _⟩, dr_⟩
  ·rw [if_neg c3] at H
   have a : (a0 == 241) = false := beq_eq_false_iff_ne.mpr c3
   have d : (a0 != 241) = true := bne_iff_ne.mpr c3
   (first | rw [a] | (simp only [i64_w, i32_w]; rw [a]) | skip)
   have H' := Z H
   clear H
   go_wp2
   go_meet
   case rel => exact ⟨_, ((a0 == 245)), (dn_), H', ⟨by first | omega | exact Nat.le_refl _⟩, dr_⟩
 case rest =>
  clear c
  try clear p2
  try clear c3
  try clear a
  try clear d
  obtain ⟨kq, b, rfl, HA, p, ⟨s, rfl⟩⟩ := hcut
  cases kq with
  | zero => exact absurd HA.out (by simp [stream_known.j0])
  | succ q =>
   have H := HA.out
   clear HA
   simp only [stream_known.j0] at H
   by_cases c4 : b = true
   ·subst c4
    have H1 : (some true) = some r := by rw [if_pos rfl] at H; exact H
    clear H
    have H := H1
    clear H1
    obtain rfl := Option.some.inj H
    go_wp2
    go_ret
    exact ⟨dn_, dr_⟩
   ·replace c4 := Bool.eq_false_iff.mpr c4
    subst c4
    have H1 : (if a0 = 111 then (some true) else (if a0 = 242 then (some true) else (if a0 = 246 then (some true) else (some false)))) = some r := by rw [if_neg (show ¬ (false = true) by decide)] at H; exact H
    clear H
    have H := H1
    clear H1
    by_cases c5 : a0 = 111
    ·rw [if_pos c5] at H
     have g : (a0 == 111) = true := beq_iff_eq.mpr c5
     have i : (a0 != 111) = false := bne_eq_false_iff_eq.mpr c5
     clear c5
     obtain rfl := Option.some.inj H
     go_wp2
     go_ret
     exact ⟨dn_, dr_⟩
    ·rw [if_neg c5] at H
     have g : (a0 == 111) = false := beq_eq_false_iff_ne.mpr c5
     have i : (a0 != 111) = true := bne_iff_ne.mpr c5
     by_cases c6 : a0 = 242
     ·rw [if_pos c6] at H
      have j : (a0 == 242) = true := beq_iff_eq.mpr c6
      have l : (a0 != 242) = false := bne_eq_false_iff_eq.mpr c6
      clear c6
      obtain rfl := Option.some.inj H
      go_wp2
      go_ret
      exact ⟨dn_, dr_⟩
     ·rw [if_neg c6] at H
      have j : (a0 == 242) = false := beq_eq_false_iff_ne.mpr c6
      have l : (a0 != 242) = true := bne_iff_ne.mpr c6
      by_cases c7 : a0 = 246
      ·rw [if_pos c7] at H
       have m : (a0 == 246) = true := beq_iff_eq.mpr c7
       have n : (a0 != 246) = false := bne_eq_false_iff_eq.mpr c7
       clear c7
       obtain rfl := Option.some.inj H
       go_wp2
       go_ret
       exact ⟨dn_, dr_⟩
      ·rw [if_neg c7] at H
       have m : (a0 == 246) = false := beq_eq_false_iff_ne.mpr c7
       have n : (a0 != 246) = true := bne_iff_ne.mpr c7
       obtain rfl := Option.some.inj H
       go_wp2
       go_ret
       exact ⟨dn_, dr_⟩

/-! ### stream_Writes: function 75 -/
def stream_Writes.f (a0 : Int) : Option (Bool) := if a0 = 241 then (some true) else (some (a0 == 245))
set_option maxHeartbeats 8000000 in
set_option maxRecDepth 100000 in
theorem stream_Writes.calls (a0 : Int) (r : Bool) (w : World) (h : stream_Writes.f a0 = some r) :
  Calls Tryd.prog 75 #[.int .i64 a0] w fun e w' => e = .returned (.bool r) ∧ Drawn0 w w' := by
 have H : (if a0 = 241 then (some true) else (some (a0 == 245))) = some r := h
 clear h
 by_cases c2 : a0 = 241
 ·rw [if_pos c2] at H
  have a : (a0 == 241) = true := beq_iff_eq.mpr c2
  have b : (a0 != 241) = false := bne_eq_false_iff_eq.mpr c2
  clear c2
  obtain rfl := Option.some.inj H
  go_enter Tryd.func75, Tryd.ntmps75
  go_wp2
  go_ret
  exact ⟨dn_, dr_⟩
 ·rw [if_neg c2] at H
  have a : (a0 == 241) = false := beq_eq_false_iff_ne.mpr c2
  have b : (a0 != 241) = true := bne_iff_ne.mpr c2
  obtain rfl := Option.some.inj H
  go_enter Tryd.func75, Tryd.ntmps75
  go_wp2
  go_ret
  exact ⟨dn_, dr_⟩

/-! ### slices_Clone_byte_byte: function 96 -/
section
theorem infoU8_ : (Tryd.prog.info? 5).map (fun i => (i.zero, i.size, i.bytes)) = some (some (.int .u8 0), 1, 1) := by kernel_rfl
/-- slices.Clone of bytes: a nil row stays one, any other is made anew. -/
def slices_Clone_byte_byte.f (l : List Int) : Option (List Int) := if l.length ≤ 16383 then some l else none
set_option maxRecDepth 100000 in
set_option maxHeartbeats 4000000 in
theorem slices_Clone_byte_byte.calls (g : Option Addr) (c0 : Nat) (l0 : List Int) (r : List Int) (w : World) (hr0 : Kd.C (Kd.int .u8) w g l0.length l0) (o : l0.length ≤ c0) (h : slices_Clone_byte_byte.f l0 = some r) :
  Calls Tryd.prog 96 #[.slice g l0.length c0] w fun e w' => ∃ d : Value, e = .returned (d) ∧ Kd.R (Kd.int .u8) 5 w' w.heap.size (fun _ => True) d r ∧ Below w.heap.size w w' := by
 unfold slices_Clone_byte_byte.f at h
 by_cases hn : l0.length ≤ 16383
 ·rw [if_pos hn] at h
  obtain rfl := Option.some.inj h
  have HR := Z hr0
  clear h hr0
  rcases g with _ | ad
  ·have hl : l0 = [] := by
    rcases Nat.eq_zero_or_pos l0.length with i | i
    ·exact List.eq_nil_of_length_eq_zero i
    ·obtain ⟨ad, h, _⟩ := HR.out.2.2 i
     cases h
   subst hl
   have hE := fun (w : World) => Lib.run_eql_slice_nil (P := Tryd.prog) w 26 5 none 0 c0 0 0 Tryd.underlying26
   rw [List.length_nil]
   go_enter Tryd.func96, Tryd.ntmps96
   go_wp2
   go_ret
   exact ⟨_, rfl, Kd.R_nil _ _ _ _ _, Below.refl _ _⟩
  ·have HB := Z (Below.refl w.heap.size w)
   have hE := fun (w : World) => Lib.run_eql_slice_nil (P := Tryd.prog) w 26 5 (some ad) l0.length c0 0 0 Tryd.underlying26
   go_enter Tryd.func96, Tryd.ntmps96
   go_wp2_with (first
    | ((with_reducible refine gate_dst (N := 5) rfl ?_); refine Kd.R_lit (Kd.int .u8) w.heap.size 5 ?hg (N := 5) ?hd (xs := ([] : List Int)) (inner := []) (ok := fun _ => True) (okp := fun _ => True) ?hr ?hp (fun _ hk => hk) trivial (Below.refl _ _) (Nat.le_refl _) (by simp) ?_; (case hd => rfl); (case hg => rfl); (case hr => first | (go_simp; done) | (go_simp; rfl)); (case hp => exact (Reps.none _ _)); intro n w1 ho hb hg_ hnew_; clear hg_ hnew_; have HO := Z ho; have hB := Z hb; clear ho hb HB; have HB := hB; clear hB)
    | ((with_reducible refine gate_builtin (b := .append) (xs := #[.tmp 5, .tmp 6]) rfl ?_); at_builtin; refine Kd.R_append_rows (Kd.int .u8) (w0 := w) w.heap.size rfl (.tmp 5) (.tmp 6) 26 5 (.int .u8 0) 1 rfl Tryd.underlying26 infoU8_ rfl (by decide) (by omega) n ([] : List Int) l0 _ _ _ (fun _ => True) (fun _ => False) rfl rfl ?aO ?aR (fun _ _ h => h) (fun _ h => h.elim) ?aF ?aB ?aS ?aL ?_; (case aR => repeat (first | exact (Kd.C_below HR.out HB.out) | (with_reducible apply pC))); (case aB => exact bl_); (case aF => exact (fun _ _ => trivial)); (case aO => exact (by (with_reducible repeat apply pR); exact HO.out)); (case aS => exact (below_size bl_)); (case aL => simp only [List.length_nil]; omega); intro p w2 c a m j; clear m j; have l := Z c; have k := Z a; clear c a))
   go_ret
   exact ⟨_, rfl, by have := l.out; rwa [List.nil_append] at this, k.out⟩
 ·rw [if_neg hn] at h
  cases h
end

end Go.Proofs.YtgboplhcjhlabaaDoor.P
