/- pp.py and press2.py (wip/tools) wrote this text. -/
import Derived.Test.YtphboakgkmjpbaaGreatDoorJHostDoes1
import Derived.Test.YtphboakgkmjpbaaGreatDoorPx4
import Derived.Test.YtphboakgkmjpbaaGreatDoorPx7
import Derived.Test.YtphboakgkmjpbaaGreatDoorPx8
import Derived.Test.YtphboakgkmjpbaaGreatDoorPx9
import Derived.Test.YtphboakgkmjpbaaGreatDoorPx11
import Derived.Test.YtphboakgkmjpbaaGreatDoorPx13
namespace Go.Proofs.YtphboakgkmjpbaaGreatDoor.P
open Go.RowKit Go.Proofs.YtphboakgkmjpbaaGreatDoorW.PrintWords Go.Proofs.YtphboakgkmjpbaaGreatDoorW.PrintLast Go.Proofs.YtphboakgkmjpbaaGreatDoorW.PrintMore
attribute [local go_sem] max2_int min2_int max_two min_two max_three min_three max_four min_four
attribute [local go_sem] Instr.field asAgg
set_option linter.unusedVariables false
set_option linter.unusedSimpArgs false
set_option maxHeartbeats 8000000
set_option maxRecDepth 100000

/-! ### paint_All: function 18 -/
section
def NewIf (e : Option Er) (P : Prop) : Prop := e = none → P
def badF (k : Nat) (size : Int) : List S49 → Int → Option (Option (Int × Int))
 | [], _ => some none
 | o :: t, i => (order_Right.f k o.f0 o.f1 o.f2.f0 o.f2.f1 o.f2.f2 o.f2.f3 o.f3 o.f4 size).bind fun e => match e.1 with
  | none => badF k size t (i + 1)
  | some (.num n) => some (some (i, n))
  | some .spot => none
def allF (k : Nat) (r c : Int) (lo ins : Bool) : List S49 → List S47 × Int × Int → Option (List S47 × Int × Int)
 | [], s => some s
 | o :: t, s => (doF k r c s.1 s.2.1 lo ins s.2.2 o.f0 o.f1 o.f2.f0 o.f2.f1 o.f2.f2 o.f2.f3 o.f3 o.f4).bind fun d => allF k r c lo ins t d
theorem badF_mono (k : Nat) (size : Int) : ∀ (ls : List S49) (i : Int), LeO (badF k size ls i) (badF (k + 1) size ls i)
 | [], _ => LeO.refl _
 | o :: t, i => by
  unfold badF
  refine LeO.bind (order_Right.mono _ _ _ _ _ _ _ _ _ _) (fun e => ?_)
  split
  ·exact badF_mono k size t (i + 1)
  ·exact LeO.refl _
  ·exact LeO.refl _
theorem allF_mono (k : Nat) (r c : Int) (lo ins : Bool) : ∀ (ls : List S49) (s : List S47 × Int × Int), LeO (allF k r c lo ins ls s) (allF (k + 1) r c lo ins ls s)
 | [], _ => LeO.refl _
 | o :: t, s => by
  unfold allF
  exact LeO.bind (doF_mono _ _ _ _ _ _ _ _ _ _ _ _ _ _ _ _) (fun d => allF_mono k r c lo ins t d)
theorem drop_ord (ls : List S49) (y : Int) (a : 0 ≤ y) (b : y < ls.length) : ls.drop y.toNat = rd_T49 ls y :: ls.drop (y + 1).toNat := by
 obtain ⟨n, rfl⟩ := Int.eq_ofNat_of_zero_le a
 have hn : n < ls.length := by omega
 rw [show ((n : Int) + 1).toNat = n + 1 by omega, show (n : Int).toNat = n by omega, List.drop_eq_getElem_cons hn]
 congr 1
 unfold rd_T49
 simp [hn]
/-- an element's text stays what it was while the world only grows -/
theorem order_text {w wr : World} {A : Option Addr} {ls : List S49} (h : Kd.C k49 w A ls.length ls) (hb : Below w.heap.size w wr) {y : Int} (d : 0 ≤ y) (e : y < ls.length) {ad : Addr} {b : Option Addr} {c1 : Nat} (hx : wr.cell? ⟨(ad.add (y.toNat * 8)).block, (ad.add (y.toNat * 8)).off + 1, none⟩ = some (.slice b (rd_T49 ls y).f1.length c1)) (ea : A = some ad) : ∀ W', Below w.heap.size w W' → Kd.C (Kd.int .u8) W' b (rd_T49 ls y).f1.length (rd_T49 ls y).f1 := fun W' hW' => by
 obtain ⟨a, i, c2, c, k0, k1, _, _, _, _, _, _, _, kt⟩ := at_T49 h y d e
 obtain rfl : a = ad := by rw [ea] at c; exact (Option.some.inj c).symm
 have hlt := bk_ w _ k1
 have : wr.cell? ⟨(a.add (y.toNat * 8)).block, (a.add (y.toNat * 8)).off + 1, none⟩ = w.cell? ⟨(a.add (y.toNat * 8)).block, (a.add (y.toNat * 8)).off + 1, none⟩ := by
  simp only [World.cell?, hb.block _ hlt]
 rw [this, k1] at hx
 injection hx with hx
 injection hx with hx1 f g
 subst hx1
 exact Kd.C_below kt hW'
/-- paint.All: which order is wrong, or all done on a copy. -/
def paint_All.f (k : Nat) (c e : Int) (a : List (S47)) (j : Int) (g h : Bool) (a1 : Int) (l2 : List (S49)) : Option (Int × Int × (List (S47)) × Int × Bool × Bool × Int × Option Er × List S177) :=
 if l2.length ≤ 16383 then (badF k a.length l2 0).bind fun b => match b with
  | some (i, n) => some (c, e, a, j, g, h, a1, some Er.spot, [⟨i, n⟩])
  | none => if a.length ≤ 16383 ∧ 0 < a.length then (allF k c e g h l2 (a, j, a1)).bind fun d => some (c, e, d.1, d.2.1, g, h, d.2.2, none, []) else none
 else none
theorem paint_All.mono (a0 a1 : Int) (a : List (S47)) (c : Int) (a4 d : Bool) (e : Int) (g : List (S49)) (k : Nat) : LeO (paint_All.f k a0 a1 a c a4 d e g) (paint_All.f (k + 1) a0 a1 a c a4 d e g) := by
 unfold paint_All.f
 refine LeO.ite (LeO.bind (badF_mono _ _ _ _) (fun b => ?_)) (LeO.refl _)
 cases b with
 | none => exact LeO.ite (LeO.bind (allF_mono _ _ _ _ _ _ _) (fun _ => LeO.refl _)) (LeO.refl _)
 | some p => exact LeO.refl _
theorem paint_All.callsB (k : Nat) (o q : Int) (P : Nat → Prop) (G : Option Addr) (H : Nat) (b : List (S47)) (A : Int) (r s : Bool) (a1 : Int) (A2 : Option Addr) (c2 : Nat) (l2 : List (S49)) (r1 r2 : Int) (r3 : List (S47)) (r4 : Int) (r5 r6 : Bool) (r7 : Int) (r8 : Option Er) (r9 : List S177) (w : World) (aO : Kd.V k47 47 w w.heap.size (fun k_ => P k_) (.slice G b.length H) b) (a8 : Kd.C k49 w A2 l2.length l2) (a7 : l2.length ≤ c2) (h : paint_All.f k o q b A r s a1 l2 = some (r1, r2, r3, r4, r5, r6, r7, r8, r9)) :
  Calls Tryz.prog 18 #[.agg #[.int .i64 o, .int .i64 q, .slice G b.length H, .int .i64 A, .bool r, .bool s], .int .i64 a1, .slice A2 l2.length c2] w fun e w' => ∃ aS a9 : Value, e = .returned (.tuple #[.agg #[.int .i64 r1, .int .i64 r2, aS, .int .i64 r4, .bool r5, .bool r6], .int .i64 r7, errW a9 r8]) ∧ Aside0 (Kd.V k47 47 w' w.heap.size (fun k_ => (P k_ ∨ w.heap.size ≤ k_)) aS r3 ∧ NewIf r8 (Kd.R k47 47 w' w.heap.size (fun k_ => (w.heap.size ≤ k_)) aS r3)) ∧ Aside0 (Kd.V k177 177 w' w.heap.size (fun k_ => (P k_ ∨ w.heap.size ≤ k_)) a9 r9 ∧ NewIf r8 (r9 = [])) ∧ Below w.heap.size w w' := by
 unfold paint_All.f at h
 by_cases hL : l2.length ≤ 16383
 rotate_left
 ·rw [if_neg hL] at h; cases h
 rw [if_pos hL] at h
 obtain ⟨bad, hBad, h⟩ := Option.bind_eq_some_iff.mp h
 have HL := Z hL
 have HBAD := Z hBad
 have HH := Z h
 have HS := Z (show Kd.V k47 47 w w.heap.size P (.slice G b.length H) b from aO)
 have HT := Z a8
 have HTc := Z a7
 have HB := Z (Below.refl w.heap.size w)
 have hu := Tryz.underlying24
 have bZ := Tryz.underlying49
 have b0 := Tryz.underlying79
 have b1 := Tryz.underlying34
 have b2 := Tryz.underlying45
 have b3 := Tryz.underlying67
 clear hL hBad h aO a8 a7
 go_enter Tryz.func18, Tryz.ntmps18
 go_wp2_with (first | ((with_reducible refine gD_ 3 rfl ?_); refine bx_ 3 24 #[.int .i64 o, .int .i64 q, .slice G b.length H, .int .i64 A, .bool r, .bool s] ?_; intro g1 hg b4 hbox hb; replace HS := ve' HS hg hb; have c := Z hbox; have bU := Z (le_new hg (below_size bl_) : w.heap.size ≤ g1); replace HB := bs_ hb; clear hb hbox hg) | ((with_reducible refine gD_ 6 rfl ?_); refine bx_ 6 24 zS_ ?_; intro g2 hg b5 hbox hb; replace HS := ve' HS hg hb; have a := Z hbox; have bV := Z (le_new hg (below_size bl_) : w.heap.size ≤ g2); have bM := nl' c hg; replace c := kb' c hb; replace HB := bs_ hb; clear hb hbox hg))
 go_loopg [17] l2.length (fun m bC w' => ∃ y : Int, bC = .int .i64 y ∧ Aside0 (0 ≤ y) ∧ Aside0 (y + (m : Int) = l2.length) ∧ Aside0 (badF k b.length (l2.drop y.toNat) y = some bad) ∧ Aside0 (Kd.V k47 47 w' w.heap.size (fun k_ => (P k_ ∧ k_ ≠ g1) ∧ k_ ≠ g2) (.slice G b.length H) b) ∧ Aside0 (w'.heap[g1]? = some (.cells #[.int .i64 o, .int .i64 q, .slice G b.length H, .int .i64 A, .bool r, .bool s] 24 (0, 0))) ∧ Aside0 (w'.heap[g2]? = some (.cells zS_ 24 (0, 0))) ∧ Aside0 (Below w.heap.size w w'))
 case atStart => exact ⟨0, by first | rfl | (simp; done), ⟨by omega⟩, ⟨by omega⟩, HBAD, HS, c, a, HB⟩
 case round =>
  clear HBAD HS c a HB
  obtain ⟨y, rfl, T, YM, HBAD, HS, c, a, HB⟩ := hrel
  by_cases cy : y < (l2.length : Int)
  ·cases gk with
   | zero => exact absurd cy (by have := YM.out; omega)
   | succ k1 =>
    have EN := Z (show y + 1 + ((k1 : Nat) : Int) = l2.length by have := YM.out; omega)
    have STEP := HBAD.out
    rw [drop_ord l2 y T.out cy, badF] at STEP
    clear YM HBAD
    obtain ⟨ad, F, c1, ea, af, hx1, ag, ah, ai, aj, ak, al, lt_, hx_⟩ := at_T49 (Kd.C_below HT.out HB.out) y T.out cy
    have hxf : ∀ W', Below w.heap.size w W' → Kd.C (Kd.int .u8) W' F (rd_T49 l2 y).f1.length (rd_T49 l2 y).f1 := order_text HT.out HB.out T.out cy hx1 ea
    obtain ⟨v, hv⟩ : ∃ v, v = rd_T49 l2 y := ⟨_, rfl⟩
    rw [← hv] at af hx1 ag ah ai aj ak al lt_ hxf STEP
    clear hv hx_
    obtain ⟨E, D, ⟨o2, o3, L, O⟩, Q, W⟩ := v
    subst ea
    have bo : wr.cell? (ad.add (y.toNat * 8)) = some (.int .i64 E) := af
    have bp : wr.cell? ⟨(ad.add (y.toNat * 8)).block, (ad.add (y.toNat * 8)).off + 1, none⟩ = some (.slice F D.length c1) := hx1
    have bq : wr.cell? ⟨(ad.add (y.toNat * 8)).block, (ad.add (y.toNat * 8)).off + 2, none⟩ = some (.bool o2) := ag
    have br : wr.cell? ⟨(ad.add (y.toNat * 8)).block, (ad.add (y.toNat * 8)).off + 3, none⟩ = some (.bool o3) := ah
    have bs : wr.cell? ⟨(ad.add (y.toNat * 8)).block, (ad.add (y.toNat * 8)).off + 4, none⟩ = some (.int .i64 L) := ai
    have bt : wr.cell? ⟨(ad.add (y.toNat * 8)).block, (ad.add (y.toNat * 8)).off + 5, none⟩ = some (.bool O) := aj
    have bu : wr.cell? ⟨(ad.add (y.toNat * 8)).block, (ad.add (y.toNat * 8)).off + 6, none⟩ = some (.int .i64 Q) := ak
    have bw : wr.cell? ⟨(ad.add (y.toNat * 8)).block, (ad.add (y.toNat * 8)).off + 7, none⟩ = some (.int .u8 W) := al
    clear af hx1 ag ah ai aj ak al
    have LT := Z (show D.length ≤ c1 from lt_)
    have HX : Aside0 (∀ W', Below w.heap.size w W' → True ∧ Kd.C (Kd.int .u8) W' F D.length D) := ⟨fun W' h_ => ⟨trivial, hxf W' h_⟩⟩
    clear lt_ hxf
    have q0 : (0 ≤ y) = True := eq_true T.out
    have q1 : (y < (l2.length : Int)) = True := eq_true cy
    have c0 := decide_eq_true cy
    have EW := Z (show wrap64 (y + 1) = y + 1 by have := HL.out; have := T.out; unfold wrap64; omega)
    obtain ⟨⟨e1, e2⟩, hR, STEP⟩ := Option.bind_eq_some_iff.mp STEP
    have HR := Z (show order_Right.f k E D o2 o3 L O Q W b.length = some (e1, e2) from hR)
    have STEPZ := Z STEP
    clear hR STEP cy
    go_wp2_with (first | ((with_reducible refine gD_ 10 rfl ?_); refine bx_ 10 49 #[.int .i64 0, .slice none 0 0, .bool false, .bool false, .int .i64 0, .bool false, .int .i64 0, .int .u8 0] ?_; intro J hg bE hbox hb; replace HS := ve' HS hg hb; have g := Z hbox; have bW := Z (le_new hg (below_size bl_) : w.heap.size ≤ J); have ba := nl' c hg; replace c := kb' c hb; have bb := nl' a hg; replace a := kb' a hb; replace HB := bs_ hb; have av := cells8 g.out; clear hb hbox hg) | ((with_reducible refine gate_store (t := 49) (p := 10) rfl ?_); refine sx_ 49 10 ((((((((bE.setCell ⟨J, 0, none⟩ (.int .i64 E)).setCell ⟨J, 1, none⟩ (.slice F D.length c1)).setCell ⟨J, 2, none⟩ (.bool o2)).setCell ⟨J, 3, none⟩ (.bool o3)).setCell ⟨J, 4, none⟩ (.int .i64 L)).setCell ⟨J, 5, none⟩ (.bool O)).setCell ⟨J, 6, none⟩ (.int .i64 Q)).setCell ⟨J, 7, none⟩ (.int .u8 W)) ?_; intro aL hw; have b_ : Aside0 (aL.heap[J]? = some (.cells #[.int .i64 E, .slice F D.length c1, .bool o2, .bool o3, .int .i64 L, .bool O, .int .i64 Q, .int .u8 W] 49 (0, 0))) := ⟨by rw [hw]; refine blk_put (cs := #[.int .i64 E, .slice F D.length c1, .bool o2, .bool o3, .int .i64 L, .bool O, .int .i64 Q, .int .u8 0]) ?_ 7 _ rfl; refine blk_put (cs := #[.int .i64 E, .slice F D.length c1, .bool o2, .bool o3, .int .i64 L, .bool O, .int .i64 0, .int .u8 0]) ?_ 6 _ rfl; refine blk_put (cs := #[.int .i64 E, .slice F D.length c1, .bool o2, .bool o3, .int .i64 L, .bool false, .int .i64 0, .int .u8 0]) ?_ 5 _ rfl; refine blk_put (cs := #[.int .i64 E, .slice F D.length c1, .bool o2, .bool o3, .int .i64 0, .bool false, .int .i64 0, .int .u8 0]) ?_ 4 _ rfl; refine blk_put (cs := #[.int .i64 E, .slice F D.length c1, .bool o2, .bool false, .int .i64 0, .bool false, .int .i64 0, .int .u8 0]) ?_ 3 _ rfl; refine blk_put (cs := #[.int .i64 E, .slice F D.length c1, .bool false, .bool false, .int .i64 0, .bool false, .int .i64 0, .int .u8 0]) ?_ 2 _ rfl; refine blk_put (cs := #[.int .i64 E, .slice none 0 0, .bool false, .bool false, .int .i64 0, .bool false, .int .i64 0, .int .u8 0]) ?_ 1 _ rfl; refine blk_put (cs := #[.int .i64 0, .slice none 0 0, .bool false, .bool false, .int .i64 0, .bool false, .int .i64 0, .int .u8 0]) ?_ 0 _ rfl; exact g.out⟩; have ao : Aside0 (Kd.V k47 47 aL w.heap.size (fun k_ => ((P k_ ∧ k_ ≠ g1) ∧ k_ ≠ g2) ∧ k_ ≠ J) (.slice G b.length H) b) := ⟨by rw [hw]; exact V_off HS.out (fun _ hk => hk.2) off2_ (fun _ hk => hk)⟩; have ap : Aside0 (aL.heap[g1]? = some (.cells #[.int .i64 o, .int .i64 q, .slice G b.length H, .int .i64 A, .bool r, .bool s] 24 (0, 0))) := ⟨by rw [hw]; exact blk_off c.out ba.out off2_⟩; have aq : Aside0 (aL.heap[g2]? = some (.cells zS_ 24 (0, 0))) := ⟨by rw [hw]; exact blk_off a.out bb.out off2_⟩; have ar : Aside0 (Below w.heap.size w aL) := ⟨by rw [hw]; exact bl_⟩; clear hw; clear av; clear HS c a HB g; have HS := ao; have c := ap; have a := aq; have HB := ar; clear ao ap aq ar; have g := b_; clear b_))
    replace HS := Z (Kd.V_below HS.out (below_drew (Below.refl _ _)))
    replace c := Z (blk_drew c.out)
    replace a := Z (blk_drew a.out)
    replace g := Z (blk_drew g.out)
    replace HB := Z (below_drew1 HB.out)
    refine start_ (n := 5) (S := fun w' => w'.cell? ⟨J, 0, none⟩ = some (.int .i64 E) ∧ w'.cell? ⟨J, 1, none⟩ = some (.slice F D.length c1) ∧ w'.cell? ⟨J, 2, none⟩ = some (.bool o2) ∧ w'.cell? ⟨J, 3, none⟩ = some (.bool o3) ∧ w'.cell? ⟨J, 4, none⟩ = some (.int .i64 L) ∧ w'.cell? ⟨J, 5, none⟩ = some (.bool O) ∧ w'.cell? ⟨J, 6, none⟩ = some (.int .i64 Q) ∧ w'.cell? ⟨J, 7, none⟩ = some (.int .u8 W) ∧ w'.cell? ⟨g1, 0, none⟩ = some (.int .i64 o) ∧ w'.cell? ⟨g1, 1, none⟩ = some (.int .i64 q) ∧ w'.cell? ⟨g1, 2, none⟩ = some (.slice G b.length H) ∧ w'.cell? ⟨g1, 3, none⟩ = some (.int .i64 A) ∧ w'.cell? ⟨g1, 4, none⟩ = some (.bool r) ∧ w'.cell? ⟨g1, 5, none⟩ = some (.bool s)) (ds := []) (bv 5 0) (by kernel_rfl) rfl rfl hd_ (fun hHeld => ?_)
    generalize World.drew _ = w5 at HS c a g HB hHeld ⊢
    refine tA_ hHeld 0 5 1 (some 22) ?_
    refine tA_ hHeld 1 5 3 (some 23) ?_
    refine one_ (i := 2) (N := some 24) (bv 5 7) rfl rfl (by kernel_rfl) (by decide) (fun K hK => ?_)
    refine goes_ Tryz.func15 (by kernel_rfl) rfl #[.agg #[.int .i64 o, .int .i64 q, .slice G b.length H, .int .i64 A, .bool r, .bool s]] (by rfl) rfl rfl (by simp only [List.map_toArray, List.map_cons, List.map_nil]; rfl) ?_
    with_reducible refine (grid_Size.calls o q _ _ b A r s b.length _ ?side1 ?side2 rfl).mono ?_
    (case side1 => exact (Kd.V_reads' HS.out).2.2)
    (case side2 => exact (Kd.V_reads' HS.out).2.1)
    rintro e w8 ⟨rfl, hb⟩
    refine ⟨_, rfl, ?_⟩
    replace HS := vb' HS hb
    replace c := kb' c hb
    replace a := kb' a hb
    replace g := kb' g hb
    replace HB := bs_ hb
    clear hb
    refine hK.out _ _ hd_ (fun hHeld => ?_)
    clear hK K
    refine nA_ (some 24) ?_
    refine one_ (i := 3) (N := some 25) (bv 5 15) rfl rfl (by kernel_rfl) (by decide) (fun K hK => ?_)
    refine goes_ Tryz.func39 (by kernel_rfl) rfl #[.agg #[.int .i64 E, .slice F D.length c1, .bool o2, .bool o3, .int .i64 L, .bool O, .int .i64 Q, .int .u8 W], .int .i64 b.length] (by rfl) rfl rfl (by simp only [List.map_toArray, List.map_cons, List.map_nil]; rfl) ?_
    with_reducible refine (order_Right.calls k E _ _ D o2 o3 L O Q W b.length e1 e2 _ ?side1 ?side2 HR.out).mono ?_
    (case side1 => exact (HX.out _ HB.out).2)
    (case side2 => exact LT.out)
    rintro e w9 ⟨ev, rfl, he, hb⟩
    refine ⟨_, rfl, ?_⟩
    clear he
    replace HS := vb' HS hb
    replace c := kb' c hb
    replace a := kb' a hb
    replace g := kb' g hb
    replace HB := bs_ hb
    clear hb
    refine hK.out _ _ hd_ (fun hHeld => ?_)
    clear hK K
    refine nA_ (some 25) ?_
    refine pA_ 4 5 31 (some 11) ?_
    refine done_ (by kernel_rfl) ?_
    cases e1 with
    | none =>
     simp only [errW_none]
     go_wp2
     go_roundg k1
     case measure => omega
     case rel => exact ⟨y + 1, by first | (rw [EW.out]; done) | rw [EW.out], ⟨by have := T.out; omega⟩, EN, STEPZ, ⟨Kd.V_mono HS.out im_⟩, c, a, HB⟩
    | some er =>
     cases er with
     | spot => exact absurd STEPZ.out (by simp)
     | num n =>
      have h := HH.out
      have hq : some (some (y, n)) = some bad := STEPZ.out
      obtain rfl := Option.some.inj hq
      simp only [Option.some.injEq, Prod.mk.injEq] at h
      obtain ⟨rfl, rfl, rfl, rfl, rfl, rfl, rfl, rfl, rfl⟩ := h
      rw [errW_some, show (Er.num n).ty = ERNT from rfl, show (Er.num n).pay _ = .int .i64 n from rfl]
      clear hq STEPZ HH
      have z0 := cells6 c.out
      go_wp2_with (first | ((with_reducible refine gD_ 33 rfl ?_); refine bx_ 33 67 #[.int .i64 y, .iface ERNT (.int .i64 n)] ?_; intro g6 hg b7 hbox hb; replace HS := ve' HS hg hb; have bj := Z hbox; have bk := Z (le_new hg (below_size bl_) : w.heap.size ≤ g6); have bd := nl' a hg; replace a := kb' a hb; replace HB := bs_ hb; clear c g; have s0 := cells6 a.out; clear hb hbox hg))
      refine rc3_ (put6 a.out) Tryz.underlying24 ?_
      exact ⟨_, .slice (some ⟨g6, 0, none⟩) 1 1, rfl, ⟨V_off HS.out im_ off2_ (fun _ hk => .inl hk.1.1.1.1), fun h_ => by cases h_⟩, ⟨spot_V (blk_off bj.out bd.out.symm off2_) (.inr bk.out), fun h_ => by cases h_⟩, bl_⟩
  cases gk with
  | succ k1 => exact absurd (by have := YM.out; omega : y < (l2.length : Int)) cy
  | zero =>
   have c0 := decide_eq_false cy
   have hd : l2.drop y.toNat = [] := List.drop_eq_nil_of_le (by omega)
   have STEP := HBAD.out
   rw [hd, badF] at STEP
   obtain rfl := Option.some.inj STEP
   have h := HH.out
   clear cy YM HBAD STEP hd HH
   by_cases hn : b.length ≤ 16383 ∧ 0 < b.length
   rotate_left
   ·exfalso
    have h : (none : Option (Int × Int × (List S47) × Int × Bool × Bool × Int × Option Er × List S177)) = some (r1, r2, r3, r4, r5, r6, r7, r8, r9) := by rw [← h]; exact (if_neg hn).symm
    cases h
   have h : ((allF k o q r s l2 (b, A, a1)).bind fun d => some (o, q, d.1, d.2.1, r, s, d.2.2, (none : Option Er), ([] : List S177))) = some (r1, r2, r3, r4, r5, r6, r7, r8, r9) := by rw [← h]; exact (if_pos hn).symm
   obtain ⟨⟨l', cu', at'⟩, hD, h⟩ := Option.bind_eq_some_iff.mp h
   simp only [Option.some.injEq, Prod.mk.injEq] at h
   obtain ⟨rfl, rfl, rfl, rfl, rfl, rfl, rfl, rfl, rfl⟩ := h
   have HC := Z (show grid_Copy.f o q b A r s = some (o, q, b, A, r, s) by unfold grid_Copy.f slices_Clone_shutter_api_Cell_shutter_api_Cell.f; rw [if_pos hn.1]; rfl)
   have HP := Z hn.2
   have HD := Z hD
   clear hn hD
   have z0 := cells6 c.out
   go_wp2_with (first | ((with_reducible refine gF_ 16 rfl ?_); refine gd_ (some 37) Tryz.func16 (grid_Copy.calls o q _ _ b A r s o q b A r s _ ((Kd.V_reads' HS.out).2.2) (vL_ HS) HC.out) ?_; rintro e w6 ⟨v1, rfl, an, hb⟩; refine ⟨_, rfl, ?_⟩; obtain ⟨Ao, co, eo⟩ := Kd.R_slice an; subst eo; obtain ⟨go, co', eo', gb, gl, cl, HG⟩ := Kd.R_form an HP.out; (first | cases eo' | (injection eo' with ea_ en_ ec_; (first | subst ea_ | (injection ea_ with ea_; subst ea_)); subst ec_; clear en_)); have NG := Z (Nat.lt_of_lt_of_le (blk_lt a.out) (Kd.R_base an go rfl) : g2 < go); have GO := Z (Nat.le_trans (below_size bl_) (Kd.R_base an go rfl) : w.heap.size ≤ go); clear z0 HG gb gl cl; have HO := Z (Kd.R_lower an (below_size bl_)); replace a := kb' a hb; replace HB := bs_ hb; clear HS c an hb) | ((with_reducible refine gD_ 40 rfl ?_); refine bx_ 40 79 #[.int .i64 o, .int .i64 q, .slice (some ⟨go, 0, none⟩) b.length co, .int .i64 A, .bool r, .bool s, .int .i64 a1] ?_; intro g4 hg b6 hbox hb; have M := nl' a hg; replace a := kb' a hb; have bY := Z (own_newB HO.out hg); replace HO := rb' HO hb; have z := Z hbox; have a6 := Z (le_new hg (below_size bl_) : w.heap.size ≤ g4); replace HB := bs_ hb; clear hb hbox hg))
   go_loopg [43] l2.length (fun m bD w' => ∃ (y : Int) (l1 : List S47) (U X : Int), bD = .int .i64 y ∧ Aside0 (0 ≤ y) ∧ Aside0 (y + (m : Int) = l2.length) ∧ Aside0 (allF k o q r s (l2.drop y.toNat) (l1, U, X) = some (l', cu', at')) ∧ Aside0 (l1.length = b.length) ∧ Aside0 (Kd.R k47 47 w' w.heap.size (fun _ => True) (.slice (some ⟨go, 0, none⟩) b.length co) l1) ∧ Aside0 (w'.heap[g2]? = some (.cells zS_ 24 (0, 0))) ∧ Aside0 (w'.heap[g4]? = some (.cells #[.int .i64 o, .int .i64 q, .slice (some ⟨go, 0, none⟩) b.length co, .int .i64 U, .bool r, .bool s, .int .i64 X] 79 (0, 0))) ∧ Aside0 (Below w.heap.size w w'))
   case atStart => exact ⟨0, b, A, a1, by first | rfl | (simp; done), ⟨by omega⟩, ⟨by omega⟩, HD, ⟨rfl⟩, HO, a, z, HB⟩
   case round =>
    clear HD HO a z HB T c0
    obtain ⟨y, l1, U, X, rfl, T, YM, HD, aN, HO, a, z, HB⟩ := hrel
    by_cases cy : y < (l2.length : Int)
    ·cases gk with
     | zero => exact absurd cy (by have := YM.out; omega)
     | succ k1 =>
      have EN := Z (show y + 1 + ((k1 : Nat) : Int) = l2.length by have := YM.out; omega)
      have STEP := HD.out
      rw [drop_ord l2 y T.out cy, allF] at STEP
      clear YM HD
      obtain ⟨ad, F, c1, ea, af, hx1, ag, ah, ai, aj, ak, al, lt_, hx_⟩ := at_T49 (Kd.C_below HT.out HB.out) y T.out cy
      have hxf : ∀ W', Below w.heap.size w W' → Kd.C (Kd.int .u8) W' F (rd_T49 l2 y).f1.length (rd_T49 l2 y).f1 := order_text HT.out HB.out T.out cy hx1 ea
      obtain ⟨v, hv⟩ : ∃ v, v = rd_T49 l2 y := ⟨_, rfl⟩
      rw [← hv] at af hx1 ag ah ai aj ak al lt_ hxf STEP
      clear hv hx_
      obtain ⟨E, D, ⟨o2, o3, L, O⟩, Q, W⟩ := v
      subst ea
      have bo : wr.cell? (ad.add (y.toNat * 8)) = some (.int .i64 E) := af
      have bp : wr.cell? ⟨(ad.add (y.toNat * 8)).block, (ad.add (y.toNat * 8)).off + 1, none⟩ = some (.slice F D.length c1) := hx1
      have bq : wr.cell? ⟨(ad.add (y.toNat * 8)).block, (ad.add (y.toNat * 8)).off + 2, none⟩ = some (.bool o2) := ag
      have br : wr.cell? ⟨(ad.add (y.toNat * 8)).block, (ad.add (y.toNat * 8)).off + 3, none⟩ = some (.bool o3) := ah
      have bs : wr.cell? ⟨(ad.add (y.toNat * 8)).block, (ad.add (y.toNat * 8)).off + 4, none⟩ = some (.int .i64 L) := ai
      have bt : wr.cell? ⟨(ad.add (y.toNat * 8)).block, (ad.add (y.toNat * 8)).off + 5, none⟩ = some (.bool O) := aj
      have bu : wr.cell? ⟨(ad.add (y.toNat * 8)).block, (ad.add (y.toNat * 8)).off + 6, none⟩ = some (.int .i64 Q) := ak
      have bw : wr.cell? ⟨(ad.add (y.toNat * 8)).block, (ad.add (y.toNat * 8)).off + 7, none⟩ = some (.int .u8 W) := al
      clear af hx1 ag ah ai aj ak al
      have LT := Z (show D.length ≤ c1 from lt_)
      have HX : Aside0 (∀ W', Below w.heap.size w W' → True ∧ Kd.C (Kd.int .u8) W' F D.length D) := ⟨fun W' h_ => ⟨trivial, hxf W' h_⟩⟩
      clear lt_ hxf
      have q0 : (0 ≤ y) = True := eq_true T.out
      have q1 : (y < (l2.length : Int)) = True := eq_true cy
      have c0 := decide_eq_true cy
      have EW := Z (show wrap64 (y + 1) = y + 1 by have := HL.out; have := T.out; unfold wrap64; omega)
      obtain ⟨⟨l9, aP, at9⟩, hD, STEP⟩ := Option.bind_eq_some_iff.mp STEP
      have HD := Z (show doF k o q l1 U r s X E D o2 o3 L O Q W = some (l9, aP, at9) from hD)
      have STEPZ := Z STEP
      have bl := Z ((doF_len HD.out).trans aN.out)
      clear hD STEP cy
      go_wp2_with (first | ((with_reducible refine gD_ 14 rfl ?_); refine bx_ 14 49 #[.int .i64 0, .slice none 0 0, .bool false, .bool false, .int .i64 0, .bool false, .int .i64 0, .int .u8 0] ?_; intro g5 hg bF hbox hb; replace HO := rb' HO hb; have aa := Z hbox; have bX := Z (le_new hg (below_size bl_) : w.heap.size ≤ g5); have bc := nl' a hg; replace a := kb' a hb; have be := nl' z hg; replace z := kb' z hb; replace HB := bs_ hb; have av := cells8 aa.out; clear hb hbox hg) | ((with_reducible refine gate_store (t := 49) (p := 14) rfl ?_); refine sx_ 49 14 ((((((((bF.setCell ⟨g5, 0, none⟩ (.int .i64 E)).setCell ⟨g5, 1, none⟩ (.slice F D.length c1)).setCell ⟨g5, 2, none⟩ (.bool o2)).setCell ⟨g5, 3, none⟩ (.bool o3)).setCell ⟨g5, 4, none⟩ (.int .i64 L)).setCell ⟨g5, 5, none⟩ (.bool O)).setCell ⟨g5, 6, none⟩ (.int .i64 Q)).setCell ⟨g5, 7, none⟩ (.int .u8 W)) ?_; intro aM hw; have b_ : Aside0 (aM.heap[g5]? = some (.cells #[.int .i64 E, .slice F D.length c1, .bool o2, .bool o3, .int .i64 L, .bool O, .int .i64 Q, .int .u8 W] 49 (0, 0))) := ⟨by rw [hw]; refine blk_put (cs := #[.int .i64 E, .slice F D.length c1, .bool o2, .bool o3, .int .i64 L, .bool O, .int .i64 Q, .int .u8 0]) ?_ 7 _ rfl; refine blk_put (cs := #[.int .i64 E, .slice F D.length c1, .bool o2, .bool o3, .int .i64 L, .bool O, .int .i64 0, .int .u8 0]) ?_ 6 _ rfl; refine blk_put (cs := #[.int .i64 E, .slice F D.length c1, .bool o2, .bool o3, .int .i64 L, .bool false, .int .i64 0, .int .u8 0]) ?_ 5 _ rfl; refine blk_put (cs := #[.int .i64 E, .slice F D.length c1, .bool o2, .bool o3, .int .i64 0, .bool false, .int .i64 0, .int .u8 0]) ?_ 4 _ rfl; refine blk_put (cs := #[.int .i64 E, .slice F D.length c1, .bool o2, .bool false, .int .i64 0, .bool false, .int .i64 0, .int .u8 0]) ?_ 3 _ rfl; refine blk_put (cs := #[.int .i64 E, .slice F D.length c1, .bool false, .bool false, .int .i64 0, .bool false, .int .i64 0, .int .u8 0]) ?_ 2 _ rfl; refine blk_put (cs := #[.int .i64 E, .slice none 0 0, .bool false, .bool false, .int .i64 0, .bool false, .int .i64 0, .int .u8 0]) ?_ 1 _ rfl; refine blk_put (cs := #[.int .i64 0, .slice none 0 0, .bool false, .bool false, .int .i64 0, .bool false, .int .i64 0, .int .u8 0]) ?_ 0 _ rfl; exact aa.out⟩; have ao : Aside0 (Kd.R k47 47 aM w.heap.size (fun _ => True) (.slice (some ⟨go, 0, none⟩) b.length co) l1) := ⟨by rw [hw]; exact R_off HO.out aa.out (by decide) off2_⟩; have ap : Aside0 (aM.heap[g2]? = some (.cells zS_ 24 (0, 0))) := ⟨by rw [hw]; exact blk_off a.out bc.out off2_⟩; have aq : Aside0 (aM.heap[g4]? = some (.cells #[.int .i64 o, .int .i64 q, .slice (some ⟨go, 0, none⟩) b.length co, .int .i64 U, .bool r, .bool s, .int .i64 X] 79 (0, 0))) := ⟨by rw [hw]; exact blk_off z.out be.out off2_⟩; have ar : Aside0 (Below w.heap.size w aM) := ⟨by rw [hw]; exact bl_⟩; clear hw; clear av; clear HO a z HB aa; have HO := ao; have a := ap; have z := aq; have HB := ar; clear ao ap aq ar; have aa := b_; clear b_; have av := cells8 aa.out))
      refine (brush_do k o q go co l1 U r s X F c1 E D o2 o3 L O Q W l9 aP at9 g4 _ _ _ (by rw [aN.out]; exact z.out) (by rw [aN.out]; exact HO.out) (fun W' hF => (HX.out _ (hF.below HB.out a6.out GO.out)).2) HD.out).mono ?_
      rintro e w8 ⟨rfl, aQ, ho_, hF⟩
      clear av
      rw [aN.out] at aQ ho_
      replace a := Z ((hF.out.block g2 (blk_lt a.out) M.out (Nat.ne_of_lt NG.out)).trans a.out)
      replace HB := Z (hF.out.below HB.out a6.out GO.out)
      clear HO z aa hF
      have HO := ho_
      have z := aQ
      clear ho_ aQ
      go_wp2
      go_roundg k1
      case measure => omega
      case rel => exact ⟨y + 1, l9, aP, at9, by first | (rw [EW.out]; done) | rw [EW.out], ⟨by have := T.out; omega⟩, EN, STEPZ, bl, HO, a, z, HB⟩
    cases gk with
    | succ k1 => exact absurd (by have := YM.out; omega : y < (l2.length : Int)) cy
    | zero =>
     have c0 := decide_eq_false cy
     have hd : l2.drop y.toNat = [] := List.drop_eq_nil_of_le (by omega)
     have STEP := HD.out
     rw [hd, allF] at STEP
     obtain ⟨rfl, rfl, rfl⟩ : l1 = l' ∧ U = cu' ∧ X = at' := by simpa using STEP
     clear cy YM HD STEP hd
     go_wp2
     replace HO := Z (Kd.R_drew HO.out)
     replace a := Z (blk_drew a.out)
     replace z := Z (blk_drew z.out)
     replace HB := Z (below_drew1 HB.out)
     refine start_ (n := 11) (S := fun w' => w'.cell? ⟨g4, 0, none⟩ = some (.int .i64 o) ∧ w'.cell? ⟨g4, 1, none⟩ = some (.int .i64 q) ∧ w'.cell? ⟨g4, 2, none⟩ = some (.slice (some ⟨go, 0, none⟩) b.length co) ∧ w'.cell? ⟨g4, 3, none⟩ = some (.int .i64 U) ∧ w'.cell? ⟨g4, 4, none⟩ = some (.bool r) ∧ w'.cell? ⟨g4, 5, none⟩ = some (.bool s) ∧ w'.cell? ⟨g4, 6, none⟩ = some (.int .i64 X)) (ds := []) (bv 11 0) (by kernel_rfl) rfl rfl hd_ (fun hHeld => ?_)
     generalize World.drew _ = w9 at HO a z HB hHeld ⊢
     have t0 := cells6 a.out
     refine pA_ 0 11 1 (some 51) ?_
     refine pA_ 1 11 3 (some 52) ?_
     refine pA_ 2 11 7 (some 53) ?_
     refine pA_ 4 11 23 (some 55) ?_
     refine pA_ 5 11 55 (some 56) ?_
     refine pA_ 6 11 119 (some 57) ?_
     refine tA_ hHeld 3 11 127 (some 54) ?_
     refine tA_ hHeld 7 11 255 (some 58) ?_
     refine one_ (i := 8) (N := none) (bv 11 511) rfl rfl (by kernel_rfl) (by decide) (fun K hK => ?_)
     refine skip_ (w1 := ?_) (by rfl) rfl ?_ ?_
     rotate_left
     ·go_simp
      rfl
     refine hK.out _ _ ⟨cl_offB hHeld.1 M.out.symm off2_, cl_offB hHeld.2.1 M.out.symm off2_, cl_offB hHeld.2.2.1 M.out.symm off2_, cl_offB hHeld.2.2.2.1 M.out.symm off2_, cl_offB hHeld.2.2.2.2.1 M.out.symm off2_, cl_offB hHeld.2.2.2.2.2.1 M.out.symm off2_, cl_offB hHeld.2.2.2.2.2.2 M.out.symm off2_⟩ (fun hHeld => ?_)
     clear hK K
     refine pA_ 9 11 1023 (some 7) ?_
     refine pA_ 10 11 2047 (some 8) ?_
     refine done_ (by kernel_rfl) ?_
     try go_wp2
     refine rc3_ (put6 a.out) Tryz.underlying24 ?_
     exact ⟨_, .slice none 0 0, rfl, ⟨Kd.V_mono (Kd.R_V (Kd.R_reok (ok := fun k_ => w.heap.size ≤ k_) rfl (R_off HO.out a.out (by decide) off2_) (fun k_ e_ => Kd.R_base (R_off HO.out a.out (by decide) off2_) k_ e_))) (fun _ hk => .inr hk), fun _ => Kd.R_reok (ok := fun k_ => w.heap.size ≤ k_) rfl (R_off HO.out a.out (by decide) off2_) (fun k_ e_ => Kd.R_base (R_off HO.out a.out (by decide) off2_) k_ e_)⟩, ⟨Kd.V_nil _ _ _ _ _, fun _ => by first | rfl | trivial⟩, bl_⟩
theorem paint_All.calls (k : Nat) (d g : Int) (a : Nat → Prop) (c : Option Addr) (m : Nat) (b : List (S47)) (i : Int) (j l : Bool) (a1 : Int) (q : Option Addr) (c2 : Nat) (l2 : List (S49)) (r s : Int) (t : List (S47)) (u : Int) (v x : Bool) (y : Int) (r8 : Option Er) (r9 : List S177) (w : World) (n : Kd.V k47 47 w w.heap.size (fun k_ => a k_) (.slice c b.length m) b) (A : Kd.C k49 w q l2.length l2) (z : l2.length ≤ c2) (h : paint_All.f k d g b i j l a1 l2 = some (r, s, t, u, v, x, y, r8, r9)) :
  Calls Tryz.prog 18 #[.agg #[.int .i64 d, .int .i64 g, .slice c b.length m, .int .i64 i, .bool j, .bool l], .int .i64 a1, .slice q l2.length c2] w fun e w' => ∃ o p : Value, e = .returned (.tuple #[.agg #[.int .i64 r, .int .i64 s, o, .int .i64 u, .bool v, .bool x], .int .i64 y, errW p r8]) ∧ Kd.V k47 47 w' w.heap.size (fun k_ => (a k_ ∨ w.heap.size ≤ k_)) o t ∧ Kd.V k177 177 w' w.heap.size (fun k_ => (a k_ ∨ w.heap.size ≤ k_)) p r9 ∧ Below w.heap.size w w' := by
 refine (paint_All.callsB k d g a c m b i j l a1 q c2 l2 r s t u v x y r8 r9 w n A z h).mono ?_
 rintro e w' ⟨E, F, he, B, D, hb⟩
 exact ⟨E, F, he, B.out.1, D.out.1, hb⟩
end

/-! ### host_unlocked: function 19 -/
def host_unlocked.f (a b : Int) (d : List (S47)) (c : Int) (e g : Bool) : Option (Int × Int × (List (S47)) × Int × Bool × Bool) := some (a, b, d, c, false, false)
theorem host_unlocked.calls (c d : Int) (o : Nat → Prop) (g : Option Addr) (j : Nat) (a : List (S47)) (l : Int) (y z : Bool) (G I : Int) (J : List (S47)) (K : Int) (L M : Bool) (w : World) (B : Kd.V k47 47 w w.heap.size (fun k_ => o k_) (.slice g a.length j) a) (h : host_unlocked.f c d a l y z = some (G, I, J, K, L, M)) :
  Calls Tryz.prog 19 #[.agg #[.int .i64 c, .int .i64 d, .slice g a.length j, .int .i64 l, .bool y, .bool z]] w fun e w' => ∃ F : Value, e = .returned (.agg #[.int .i64 G, .int .i64 I, F, .int .i64 K, .bool L, .bool M]) ∧ Kd.V k47 47 w' w.heap.size (fun k_ => (o k_ ∨ w.heap.size ≤ k_)) F J ∧ Below w.heap.size w w' := by
 have aw := Tryz.underlying24
 have i := Z (show Kd.V k47 47 w w.heap.size (fun k_ => (o k_ ∨ w.heap.size ≤ k_)) (.slice g a.length j) a from Kd.V_mono B (fun k_ hk => .inl hk))
 have HB := Z (Below.refl w.heap.size w)
 unfold host_unlocked.f at h
 have H := h
 clear h
 obtain ⟨rfl, rfl, rfl, rfl, rfl, rfl⟩ := ij6_ H
 go_enter Tryz.func19, Tryz.ntmps19
 go_wp2_with (first | ((with_reducible refine gD_ 1 rfl ?_); refine bx_ 1 24 #[.int .i64 c, .int .i64 d, .slice g a.length j, .int .i64 l, .bool y, .bool z] ?_; intro n hg w2 hbox hb; replace i := ve' i hg hb; have m := Z hbox; have aq := ln' w hg; replace HB := bs_ hb; clear hb hbox hg) | ((with_reducible refine gD_ 2 rfl ?_); refine bx_ 2 24 zS_ ?_; intro b hg w3 hbox hb; replace i := ve' i hg hb; have A := Z hbox; have ar := ln' w hg; replace HB := bs_ hb; have q := nl' m hg; replace m := kb' m hb; clear hb hbox hg; have au := ns_ q; have O := cells6 m.out; have U := cells6 A.out))
 refine bodyPost_ret (results_cell_row rfl _ _ b 24 #[.int .i64 c, .int .i64 d, .slice g a.length j, .int .i64 l, .bool false, .bool false] (0, 0) _ rfl (put6 (by (with_reducible repeat apply pK); refine blk_far ?_ q.out.symm _; (with_reducible repeat apply pK); refine blk_far ?_ q.out.symm _; (with_reducible repeat apply pK); exact A.out)) Tryz.underlying24 rfl (by kernel_rfl)) rfl ?_
 exact ⟨_, er_, by (with_reducible repeat apply pV); exact Kd.V_mono (f6V b (Kd.V_far (p := ⟨n, 5, none⟩) (Kd.V_far (p := ⟨n, 4, none⟩) (Kd.V_mono (Kd.V_mono i.out (fun k_ hk => (⟨hk, hk.1.2⟩ : _ ∧ k_ ≠ n))) (fun k_ hk => (⟨hk, hk.1.2⟩ : _ ∧ k_ ≠ b))) im_ (.bool false)) im_ (.bool false)) im_) im_, bl_⟩
/-! ### host_clean: function 20 -/
def host_clean.l0 : Nat → Int → Int → Int → Int → List (S47) → Int → Bool → Bool → Int → Int → List (S47) → Int → Bool → Bool → Option (Int × Int × (List (S47)) × Int × Bool × Bool)
 | 0, _, _, _, _, _, _, _, _, _, _, _, _, _, _ => none
 | k + 1, q, x10, c, d, b, e, g, h, i, j, a, n, l, m => if x10 < q then ((field_Open.f c d b e g h x10).bind fun o => (if o = true then (if 0 ≤ x10 then (if x10 < (a.length : Int) then (host_clean.l0 k q (wrap64 (x10 + 1)) c d b e g h i j (a.set (x10 : Int).toNat (⟨(rd_T47 a x10).f0, (⟨(rd_T47 a x10).f1.f0, (rd_T47 a x10).f1.f1, (rd_T47 a x10).f1.f2, (rd_T47 a x10).f1.f3⟩ : S45), 0⟩ : S47)) n l m) else (none)) else (none)) else (host_clean.l0 k q (wrap64 (x10 + 1)) c d b e g h i j a n l m))) else ((field_Next.f c d b e g h (wrap64 ((b.length : Int) - 1))).bind fun p => (some (i, j, a, mx 0 p, l, m)))
def host_clean.f (k : Nat) (c d : Int) (b : List (S47)) (e : Int) (g h : Bool) : Option (Int × Int × (List (S47)) × Int × Bool × Bool) := (host_Reset.f c d b e g h false).bind fun a => (host_clean.l0 k (b.length : Int) 0 c d b e g h a.1 a.2.1 a.2.2.1 a.2.2.2.1 a.2.2.2.2.1 a.2.2.2.2.2)
theorem host_clean.mono_l : ∀ k, (∀ f g i j l m n o p q a b c d, LeO (host_clean.l0 k f g i j l m n o p q a b c d) (host_clean.l0 (k + 1) f g i j l m n o p q a b c d))
 | 0 => fun _ _ _ _ _ _ _ _ _ _ _ _ _ _ r h => by simp [host_clean.l0] at h
 | k + 1 => by
  have e := host_clean.mono_l k
  ·intro f g i j l m n o p q a b c d
   unfold host_clean.l0
   repeat' first
   | (with_reducible exact e _ _ _ _ _ _ _ _ _ _ _ _ _ _)
   | (with_reducible exact LeO.refl _)
   | (with_reducible exact LeO.none _)
   | (with_reducible refine LeO.ite ?_ ?_)
   | (with_reducible refine LeO.bind ?_ (fun _ => ?_))
   | exact e _ _ _ _ _ _ _ _ _ _ _ _ _ _
   | exact LeO.none _
   | refine LeO.ite ?_ ?_
   | refine LeO.bind ?_ (fun _ => ?_)
theorem host_clean.mono : ∀ a0 a1 b c a4 d k, LeO (host_clean.f k a0 a1 b c a4 d) (host_clean.f (k + 1) a0 a1 b c a4 d) := by
 intro a0 a1 b c a4 d k
 have a := host_clean.mono_l k
 unfold host_clean.f
 repeat' first
   | (with_reducible exact a _ _ _ _ _ _ _ _ _ _ _ _ _ _)
   | (with_reducible exact LeO.refl _)
   | (with_reducible exact LeO.none _)
   | (with_reducible refine LeO.ite ?_ ?_)
   | (with_reducible refine LeO.bind ?_ (fun _ => ?_))
   | exact a _ _ _ _ _ _ _ _ _ _ _ _ _ _
   | exact LeO.none _
   | refine LeO.ite ?_ ?_
   | refine LeO.bind ?_ (fun _ => ?_)
theorem host_clean.calls (k : Nat) (m n : Int) (T : Option Addr) (U : Nat) (d : List (S47)) (q : Int) (r s : Bool) (r1 r2 : Int) (r3 : List (S47)) (r4 : Int) (r5 r6 : Bool) (w : World) (aH : Kd.C k47 w T d.length d) (aE : d.length ≤ U) (h : host_clean.f k m n d q r s = some (r1, r2, r3, r4, r5, r6)) :
  Calls Tryz.prog 20 #[.agg #[.int .i64 m, .int .i64 n, .slice T d.length U, .int .i64 q, .bool r, .bool s]] w fun e w' => ∃ bM : Value, e = .returned (.agg #[.int .i64 r1, .int .i64 r2, bM, .int .i64 r4, .bool r5, .bool r6]) ∧ Kd.R k47 47 w' w.heap.size (fun _ => True) bM r3 ∧ Below w.heap.size w w' := by
 have dW := Tryz.underlying24
 have af := Z aH
 have ae := Z aE
 clear aH aE
 have HB := Z (Below.refl w.heap.size w)
 unfold host_clean.f at h
 have H := h
 clear h
 replace H := bn_ H
 obtain ⟨⟨u, x, ap, M, E, F⟩, A2, H⟩ := H
 try dsimp only at H
 have H' := Z H
 clear H
 go_enter Tryz.func20, Tryz.ntmps20
 go_wp2_with (first | ((with_reducible refine gD_ 1 rfl ?_); refine bx_ 1 24 #[.int .i64 m, .int .i64 n, .slice T d.length U, .int .i64 q, .bool r, .bool s] ?_; intro ag hg w3 hbox hb; have c := Z hbox; have dq := ln' w hg; replace HB := bs_ hb; clear hb hbox hg) | ((with_reducible refine gD_ 2 rfl ?_); refine bx_ 2 24 zS_ ?_; intro G hg w4 hbox hb; have i := Z hbox; have dr := ln' w hg; replace HB := bs_ hb; have P := nl' c hg; replace c := kb' c hb; clear hb hbox hg; have dS := ns_ P; have bi := cells6 c.out) | ((with_reducible refine gF_ 17 rfl ?_); refine gd_ (some 6) Tryz.func17 (host_Reset.calls m n _ _ d q r s false u x ap M E F _ (cB_ af HB) ae.out A2.out) ?_; rintro e w7 ⟨dX, rfl, bI, hb⟩; refine ⟨_, rfl, ?_⟩; have ac := Z (Kd.R_lower bI (below_size bl_)); replace c := kb' c hb; replace i := kb' i hb; replace HB := bs_ hb; (try clear hb); (try clear bI)) | ((with_reducible refine gD_ 3 rfl ?_); refine bx_ 3 24 zS_ ?_; intro I hg w8 hbox hb; replace ac := rb' ac hb; have l := Z hbox; have ds := ln' w hg; replace HB := bs_ hb; have J := nl' c hg; replace c := kb' c hb; have K := nl' i hg; replace i := kb' i hb; clear hb hbox hg; have dT := ns_ J; have dv := ns_ K; have aI := cells6 l.out; obtain ⟨a8, bc, bO⟩ := Kd.R_slice ac.out; subst bO; have aO := cells6 c.out))
 go_loopg [10] k (fun kq dl w' => ∃ (b : Int) (a : List (S47)) (GC : Value), dl = .int .i64 b ∧ Aside0 (host_clean.l0 kq (d.length : Int) b m n d q r s u x a M E F = some (r1, r2, r3, r4, r5, r6)) ∧ Aside0 (kq ≤ k) ∧ Aside0 (Kd.R k47 47 w' w.heap.size (fun _ => True) GC a) ∧ Aside0 (w'.heap[ag]? = some (.cells #[.int .i64 m, .int .i64 n, (.slice T d.length U), .int .i64 q, .bool r, .bool s] 24 (0, 0))) ∧ Aside0 (w'.heap[G]? = some (.cells zS_ 24 (0, 0))) ∧ Aside0 (w'.heap[I]? = some (.cells #[.int .i64 u, .int .i64 x, GC, .int .i64 M, .bool E, .bool F] 24 (0, 0))) ∧ Aside0 (Below w.heap.size w w'))
 case atStart => exact ⟨(0), (ap), (.slice a8 ap.length bc), (dn_), H', ⟨Nat.le_refl _⟩, ⟨by (with_reducible repeat apply pR); exact Kd.R_mono (f6R I (Kd.R_types ac.out l.out (by decide)) im_) im_⟩, ⟨blk_off c.out J.out off2_⟩, ⟨blk_off i.out K.out off2_⟩, ⟨put6 l.out⟩, ⟨bl_⟩⟩
 case round =>
  clear H'
  try clear aI
  try clear aO
  try clear bi
  obtain ⟨b, a, GC, rfl, HA, aA, GB, c, i, l, HB⟩ := hrel
  cases gk with
  | zero => exact absurd HA.out (by simp [host_clean.l0])
  | succ k1 =>
   have H := HA.out
   clear HA
   simp only [host_clean.l0] at H
   by_cases ar : b < (d.length : Int)
   rotate_left
   ·rw [if_neg ar] at H
    have bD := decide_eq_false ar
    clear ar
    replace H := bn_ H
    obtain ⟨aq, bH, H⟩ := H
    obtain ⟨X, ab⟩ : ∃ j_ : Int, (mx 0 aq) = j_ := ⟨_, rfl⟩
    (first | rw [ab] at H | simp only [ab] at H)
    (try rw [ab] at bH)
    (try (have dd : 0 ≤ X := by (rw [← ab]; unfold mx; (repeat' split) <;> omega)))
    (try (have de : 0 ≤ X := by omega))
    have dc : (if 0 < aq then aq else 0) = X := ab
    obtain ⟨rfl, rfl, rfl, rfl, rfl, rfl⟩ := ij6_ H
    have dB := ns_ P
    have dC := ns_ J
    have b9 := cells6 c.out
    go_wp2_with (first | ((with_reducible refine gF_ 42 rfl ?_); refine gd_ (some 27) Tryz.func42 (field_Next.calls m n _ _ d q r s (wrap64 ((d.length : Int) - 1)) aq _ (cB_ af HB) ae.out bH.out) ?_; rintro e dZ ⟨rfl, hb⟩; refine ⟨_, rfl, ?_⟩; replace GB := rb' GB hb; replace c := kb' c hb; replace i := kb' i hb; replace l := kb' l hb; replace HB := bs_ hb; (try clear hb); have dD := ns_ K; have cf := cells6 l.out; have cl := cells6 i.out; obtain ⟨ah, ai, bP⟩ := Kd.R_slice GB.out; subst bP))
    refine bodyPost_ret (results_cell_row rfl _ _ G 24 #[.int .i64 u, .int .i64 x, .slice ah a.length ai, .int .i64 X, .bool E, .bool F] (0, 0) _ rfl (put6 (by (with_reducible repeat apply pK); refine blk_far ?_ K.out _; (with_reducible repeat apply pK); exact i.out)) Tryz.underlying24 rfl (by kernel_rfl)) rfl ?_
    exact ⟨_, by first | rfl | (simp [errW_none, errW_some] <;> rfl) | (simp only [← ab]; first | rfl | (simp [errW_none, errW_some] <;> rfl)) | (simp [*, errW_none, errW_some] <;> rfl), by (with_reducible repeat apply pR); exact Kd.R_mono (f6R G (Kd.R_far (p := ⟨I, 3, none⟩) (Kd.R_types (Kd.R_types GB.out l.out (by decide)) i.out (by decide)) im_ (.int .i64 X)) im_) im_, bl_⟩
   rw [if_pos ar] at H
   have bD := decide_eq_true ar
   clear ar
   replace H := bn_ H
   obtain ⟨bA, bF, H⟩ := H
   cases bA
   ·rw [iF_] at H
    have H' := Z H
    clear H
    have dz := ns_ P
    have dA := ns_ J
    have b3 := cells6 c.out
    go_wp2_with (first | ((with_reducible refine gF_ 41 rfl ?_); refine gd_ (some 15) Tryz.func41 (field_Open.calls m n _ _ d q r s b false _ (cB_ af HB) ae.out bF.out) ?_; rintro e dY ⟨rfl, hb⟩; refine ⟨_, rfl, ?_⟩; replace GB := rb' GB hb; replace c := kb' c hb; replace i := kb' i hb; replace l := kb' l hb; replace HB := bs_ hb; (try clear hb)))
    go_roundg k1
    case measure => have := aA.out; omega
    case rel => exact ⟨(wrap64 (b + 1)), (a), (GC), (dn_), H', ⟨by have := aA.out; omega⟩, ⟨vR_ GB.out⟩, ⟨vK c.out⟩, ⟨vK i.out⟩, ⟨vK l.out⟩, ⟨bl_⟩⟩
   rw [if_pos rfl] at H
   obtain ⟨aC, H⟩ := gt_ H
   have dt := decide_eq_true aC
   clear aC
   obtain ⟨aD, H⟩ := gt_ H
   have du := decide_eq_true aD
   clear aD
   obtain ⟨az, ad⟩ : ∃ y_ : List (S47), y_ = (a.set (b : Int).toNat (⟨(rd_T47 a b).f0, (⟨(rd_T47 a b).f1.f0, (rd_T47 a b).f1.f1, (rd_T47 a b).f1.f2, (rd_T47 a b).f1.f3⟩ : S45), 0⟩ : S47)) := ⟨_, rfl⟩
   rw [← ad] at H
   try replace H := sb_ H
   have bC := Z ad
   clear ad
   have H' := Z H
   clear H
   have dw := ns_ P
   have dx := ns_ J
   have bR := cells6 c.out
   go_wp2_with (first | ((with_reducible refine gF_ 41 rfl ?_); refine gd_ (some 15) Tryz.func41 (field_Open.calls m n _ _ d q r s b true _ (cB_ af HB) ae.out bF.out) ?_; rintro e O ⟨rfl, hb⟩; refine ⟨_, rfl, ?_⟩; replace GB := rb' GB hb; replace c := kb' c hb; replace i := kb' i hb; replace l := kb' l hb; replace HB := bs_ hb; (try clear hb); (try clear hk); have dy := ns_ K; have bX := cells6 l.out; have bx : 0 ≤ (b : Int) := od_; have bz : (b : Int) < ((a.length : Int) : Int) := od_; obtain ⟨y, au, bd, be, bQ, dR, ba⟩ := Kd.R_form GB.out (by omega); (first | cases bd | (injection bd with ea_ en_ ec_; (first | subst ea_ | (injection ea_ with ea_; subst ea_)); subst ec_; clear en_)); have bN := Z be; have dO := Z ba; clear be bQ ba; obtain ⟨dP, bE, bf, V, W⟩ := Kd.R_elem GB.out z47 (b : Int) bx bz; obtain rfl := k47_openM bf; have df := ce_ V; have c4 := cf_ W; clear bE V W bf; replace bx := eq_true bx; replace bz := eq_true bz; have bb := Z (show Kd.R k47 47 O w.heap.size (fun _ => True) (.slice (some ⟨y, 0, none⟩) a.length au) a from (by (with_reducible repeat apply pR); exact GB.out)); obtain ⟨dQ, aF, bg, av, aG⟩ := Kd.R_elem bb.out z47 (b : Int) (od_) (by have h_ : (b : Int) < ((a.length : Int) : Int) := od_; first | exact h_ | (have e_ := (Kd.R_reads' GB.out).1; omega) | simpa using h_); obtain rfl := k47_openM bg; have ay := Kd.R_seg bb.out (b : Int) (od_) (by have h_ : (b : Int) < ((a.length : Int) : Int) := od_; first | exact h_ | (have e_ := (Kd.R_reads' GB.out).1; omega) | simpa using h_) (seg := [.int .u8 0]) (j := 5) aF av (show 6 ≤ 6 from by decide) (x' := (⟨(rd_T47 a b).f0, (⟨(rd_T47 a b).f1.f0, (rd_T47 a b).f1.f1, (rd_T47 a b).f1.f2, (rd_T47 a b).f1.f3⟩ : S45), 0⟩ : S47)) (k47_mkM _ _ _ (⟨(rd_T47 a b).f0, (⟨(rd_T47 a b).f1.f0, (rd_T47 a b).f1.f1, (rd_T47 a b).f1.f2, (rd_T47 a b).f1.f3⟩ : S45), 0⟩ : S47) ) (fun _ hk => hk); have GA := av 5 _ rfl; (try simp only [show (k47).sz = 6 from rfl, Nat.mul_one, Nat.add_zero] at GA); have bo := aG 5; (try simp only [show (k47).sz = 6 from rfl, Nat.mul_one, Nat.add_zero] at bo); clear aF av aG bg) | ((with_reducible refine gate_store (t := 5) (p := 20) rfl ?_); refine sx_ 5 20 (O.setCell ⟨y, (b : Int).toNat * 6 + 5, none⟩ (.int .u8 0)) ?_; intro bB hw; have hg : O.grownBy bB (some y) := (by rw [hw]; exact ay.2); have hp_ : Kd.R k47 47 bB w.heap.size (fun _ => True) (.slice (some ⟨y, 0, none⟩) a.length au) az := (by rw [hw, bC.out]; exact ay.1); clear ay; replace c := gw_ ⟨vK c.out⟩ hg (Kd.R_ne GB.out c.out (by decide)); replace i := gw_ ⟨vK i.out⟩ hg (Kd.R_ne GB.out i.out (by decide)); replace l := gw_ ⟨vK l.out⟩ hg (Kd.R_ne GB.out l.out (by decide)); replace GB := Z (hp_); replace HB := Z ((by rw [hw]; exact below_set (HB.out) bN.out : Below w.heap.size w bB)); clear hg hw hp_))
   go_roundg k1
   case measure => have := aA.out; omega
   case rel => exact ⟨(wrap64 (b + 1)), (az), (.slice (some ⟨y, 0, none⟩) a.length au), (dn_), H', ⟨by have := aA.out; omega⟩, ⟨vR_ GB.out⟩, ⟨vK c.out⟩, ⟨vK i.out⟩, ⟨vK l.out⟩, ⟨bl_⟩⟩

end Go.Proofs.YtphboakgkmjpbaaGreatDoor.P
