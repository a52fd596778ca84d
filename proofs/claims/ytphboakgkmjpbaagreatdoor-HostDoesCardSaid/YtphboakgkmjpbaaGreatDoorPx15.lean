/- pp.py and press2.py (wip/tools) wrote this text. -/
import Derived.Test.YtphboakgkmjpbaaGreatDoorJHostDoes1
import Derived.Test.YtphboakgkmjpbaaGreatDoorPx4
import Derived.Test.YtphboakgkmjpbaaGreatDoorPx8
import Derived.Test.YtphboakgkmjpbaaGreatDoorPx13
import Derived.Test.YtphboakgkmjpbaaGreatDoorPx14
namespace Go.Proofs.YtphboakgkmjpbaaGreatDoor.P
open Go.RowKit Go.Proofs.YtphboakgkmjpbaaGreatDoorW.PrintWords Go.Proofs.YtphboakgkmjpbaaGreatDoorW.PrintLast Go.Proofs.YtphboakgkmjpbaaGreatDoorW.PrintMore
attribute [local go_sem] max2_int min2_int max_two min_two max_three min_three max_four min_four
attribute [local go_sem] Instr.field asAgg
set_option linter.unusedVariables false
set_option linter.unusedSimpArgs false
set_option maxHeartbeats 8000000
set_option maxRecDepth 100000

/-- At this world alone. -/
theorem gateW_ {P : Program} {ops : Array Oper} {l : List Oper} {a : Act} {Q : Exit → Act → World → Prop} (W : World) (h : wpList P ops Q l a W) : wpList P ops Q l a W := h
/-- A screen stored whole into a variable in memory. -/
theorem stS_ {a : Act} {o : Oper} {W : World} {g p q : Nat} {x0 x1 x3 : Int} {A : Option Addr} {n c : Nat} {b4 b5 : Bool} {c0 c1 c2 c3 c4 c5 : Value} (ho : o.op = .store 24 (.tmp p) (.tmp q)) (hp : a.eval (.tmp p) = .pointer (some ⟨g, 0, none⟩)) (hq : a.eval (.tmp q) = .agg #[.int .i64 x0, .int .i64 x1, .slice A n c, .int .i64 x3, .bool b4, .bool b5]) (hb : W.heap[g]? = some (.cells #[c0, c1, c2, c3, c4, c5] 24 (0, 0))) :
    (execOp a.eval o).run Tryz.prog W = .ok .skip ((((((W.setCell ⟨g, 0, none⟩ (.int .i64 x0)).setCell ⟨g, 1, none⟩ (.int .i64 x1)).setCell ⟨g, 2, none⟩ (.slice A n c)).setCell ⟨g, 3, none⟩ (.int .i64 x3)).setCell ⟨g, 4, none⟩ (.bool b4)).setCell ⟨g, 5, none⟩ (.bool b5)) := by
  have hu := Tryz.underlying24
  obtain ⟨z0, z1, z2, z3, z4, z5, y0, y1, y2, y3, y4, y5⟩ := cells6 hb
  clear hb
  unfold execOp
  rw [ho]
  simp only [hp, hq]
  go_simp
/-! ### host_Do: function 7 -/
mutual
def host_Do.j0 : Nat → Int → Int → List (S47) → Int → Bool → Bool → Int → Bool → Bool → Bool → List (S49) → Int → Int → List (S47) → Int → Bool → Bool → Option (Int × Int × (List (S47)) × Int × Bool × Bool × Option Er × (List (S177)))
 | 0, _, _, _, _, _, _, _, _, _, _, _, _, _, _, _, _, _ => none
 | k + 1, c, d, e, g, h, i, j, l, m, b, n, o, p, q, r, s, t => if b = true then ((host_Reset.f o p q r s t true).bind fun a => (host_Do.j1 k c d e g h i j l m b n a.1 a.2.1 a.2.2.1 a.2.2.2.1 a.2.2.2.2.1 a.2.2.2.2.2)) else (host_Do.j1 k c d e g h i j l m b n o p q r s t)
def host_Do.j1 : Nat → Int → Int → List (S47) → Int → Bool → Bool → Int → Bool → Bool → Bool → List (S49) → Int → Int → List (S47) → Int → Bool → Bool → Option (Int × Int × (List (S47)) × Int × Bool × Bool × Option Er × (List (S177)))
 | 0, _, _, _, _, _, _, _, _, _, _, _, _, _, _, _, _, _ => none
 | k + 1, d, e, g, h, i, j, s, t, l, u, m, n, o, p, c, q, r => (paint_All.f k n o p c q r c m).bind fun a => (if a.2.2.2.2.2.2.2.1.isNone = true then (if l = true then ((host_unlocked.f a.1 a.2.1 a.2.2.1 a.2.2.2.1 a.2.2.2.2.1 a.2.2.2.2.2.1).bind fun b => (some (b.1, b.2.1, b.2.2.1, b.2.2.2.1, b.2.2.2.2.1, b.2.2.2.2.2, none, ([] : List (S177))))) else (some (a.1, a.2.1, a.2.2.1, a.2.2.2.1, a.2.2.2.2.1, a.2.2.2.2.2.1, none, ([] : List (S177))))) else (some (d, e, g, h, i, j, some (a.2.2.2.2.2.2.2.1.getD ez), a.2.2.2.2.2.2.2.2)))
end
def host_Do.f (k : Nat) (e g : Int) (l : List (S47)) (h : Int) (i j : Bool) (d : Int) (n o p : Bool) (q : List (S49)) : Option (Int × Int × (List (S47)) × Int × Bool × Bool × Option Er × (List (S177))) := (grid_Size.f e g l h i j).bind fun r => ((stream_Write.f k d n o p q r).bind fun m => (if m.2.1.isNone = true then ((grid_Copy.f e g l h i j).bind fun a => (if d = 245 then (if 0 < (a.2.2.1.length : Int) then (host_Do.j0 k e g l h i j d n o p q a.1 a.2.1 (List.replicate a.2.2.1.length z47) 0 a.2.2.2.2.1 a.2.2.2.2.2) else (none)) else (if d = 241 then (host_Do.j0 k e g l h i j d n o p q a.1 a.2.1 a.2.2.1 a.2.2.2.1 a.2.2.2.2.1 a.2.2.2.2.2) else (if d = 111 then ((host_clean.f k a.1 a.2.1 a.2.2.1 a.2.2.2.1 a.2.2.2.2.1 a.2.2.2.2.2).bind fun b => ((host_unlocked.f b.1 b.2.1 b.2.2.1 b.2.2.2.1 b.2.2.2.2.1 b.2.2.2.2.2).bind fun c => (some (c.1, c.2.1, c.2.2.1, c.2.2.2.1, c.2.2.2.2.1, c.2.2.2.2.2, none, ([] : List (S177)))))) else (some (a.1, a.2.1, a.2.2.1, a.2.2.2.1, a.2.2.2.2.1, a.2.2.2.2.2, none, ([] : List (S177)))))))) else (some (e, g, l, h, i, j, some (m.2.1.getD ez), m.2.2))))
theorem host_Do.mono_l : ∀ k, (∀ i j l m n o p q s t a b c d e f g, LeO (host_Do.j0 k i j l m n o p q s t a b c d e f g) (host_Do.j0 (k + 1) i j l m n o p q s t a b c d e f g)) ∧ (∀ i j l m n o p q s t a b c d e f g, LeO (host_Do.j1 k i j l m n o p q s t a b c d e f g) (host_Do.j1 (k + 1) i j l m n o p q s t a b c d e f g))
 | 0 => ⟨fun _ _ _ _ _ _ _ _ _ _ _ _ _ _ _ _ _ r h => by simp [host_Do.j0] at h, fun _ _ _ _ _ _ _ _ _ _ _ _ _ _ _ _ _ r h => by simp [host_Do.j1] at h⟩
 | k + 1 => by
  obtain ⟨u, v⟩ := host_Do.mono_l k
  refine ⟨?_, ?_⟩
  ·intro i j l m n o p q s t a b c d e f g
   unfold host_Do.j0
   repeat' first
   | (with_reducible exact u _ _ _ _ _ _ _ _ _ _ _ _ _ _ _ _ _)
   | (with_reducible exact v _ _ _ _ _ _ _ _ _ _ _ _ _ _ _ _ _)
   | (with_reducible exact host_clean.mono _ _ _ _ _ _ _)
   | (with_reducible exact paint_All.mono _ _ _ _ _ _ _ _ _)
   | (with_reducible exact stream_Write.mono _ _ _ _ _ _ _)
   | (with_reducible exact LeO.refl _)
   | (with_reducible exact LeO.none _)
   | (with_reducible refine LeO.ite ?_ ?_)
   | (with_reducible refine LeO.bind ?_ (fun _ => ?_))
   | exact u _ _ _ _ _ _ _ _ _ _ _ _ _ _ _ _ _
   | exact v _ _ _ _ _ _ _ _ _ _ _ _ _ _ _ _ _
   | exact host_clean.mono _ _ _ _ _ _ _
   | exact paint_All.mono _ _ _ _ _ _ _ _ _
   | exact stream_Write.mono _ _ _ _ _ _ _
   | exact LeO.none _
   | refine LeO.ite ?_ ?_
   | refine LeO.bind ?_ (fun _ => ?_)
  ·intro i j l m n o p q s t a b c d e f g
   unfold host_Do.j1
   repeat' first
   | (with_reducible exact u _ _ _ _ _ _ _ _ _ _ _ _ _ _ _ _ _)
   | (with_reducible exact v _ _ _ _ _ _ _ _ _ _ _ _ _ _ _ _ _)
   | (with_reducible exact host_clean.mono _ _ _ _ _ _ _)
   | (with_reducible exact paint_All.mono _ _ _ _ _ _ _ _ _)
   | (with_reducible exact stream_Write.mono _ _ _ _ _ _ _)
   | (with_reducible exact LeO.refl _)
   | (with_reducible exact LeO.none _)
   | (with_reducible refine LeO.ite ?_ ?_)
   | (with_reducible refine LeO.bind ?_ (fun _ => ?_))
   | exact u _ _ _ _ _ _ _ _ _ _ _ _ _ _ _ _ _
   | exact v _ _ _ _ _ _ _ _ _ _ _ _ _ _ _ _ _
   | exact host_clean.mono _ _ _ _ _ _ _
   | exact paint_All.mono _ _ _ _ _ _ _ _ _
   | exact stream_Write.mono _ _ _ _ _ _ _
   | exact LeO.none _
   | refine LeO.ite ?_ ?_
   | refine LeO.bind ?_ (fun _ => ?_)
theorem host_Do.mono : ∀ a0 a1 d e a4 g h i j l a k, LeO (host_Do.f k a0 a1 d e a4 g h i j l a) (host_Do.f (k + 1) a0 a1 d e a4 g h i j l a) := by
 intro a0 a1 d e a4 g h i j l a k
 obtain ⟨b, c⟩ := host_Do.mono_l k
 unfold host_Do.f
 repeat' first
   | (with_reducible exact b _ _ _ _ _ _ _ _ _ _ _ _ _ _ _ _ _)
   | (with_reducible exact c _ _ _ _ _ _ _ _ _ _ _ _ _ _ _ _ _)
   | (with_reducible exact host_clean.mono _ _ _ _ _ _ _)
   | (with_reducible exact paint_All.mono _ _ _ _ _ _ _ _ _)
   | (with_reducible exact stream_Write.mono _ _ _ _ _ _ _)
   | (with_reducible exact LeO.refl _)
   | (with_reducible exact LeO.none _)
   | (with_reducible refine LeO.ite ?_ ?_)
   | (with_reducible refine LeO.bind ?_ (fun _ => ?_))
   | exact b _ _ _ _ _ _ _ _ _ _ _ _ _ _ _ _ _
   | exact c _ _ _ _ _ _ _ _ _ _ _ _ _ _ _ _ _
   | exact host_clean.mono _ _ _ _ _ _ _
   | exact paint_All.mono _ _ _ _ _ _ _ _ _
   | exact stream_Write.mono _ _ _ _ _ _ _
   | exact LeO.none _
   | refine LeO.ite ?_ ?_
   | refine LeO.bind ?_ (fun _ => ?_)
def host_Do.T1 : Bool × List (List Nat × List Nat) := (true, [([], []), ([], []), ([1], [1]), ([0, 2, 2], [0, 2]), ([3], [3]), ([4], [4]), ([4], [4]), ([5, 3, 0, 1, 2, 3, 4, 5], [5]), ([6, 7, 0, 1, 2, 3, 4, 5, 6, 7], [6])])
def host_Do.B1 : List Nat := [0, 0, 2, 7, 15, 31, 31, 63, 255]
theorem host_Do.tab1 : rtab .any (opsOf Tryz.f7 1) = host_Do.T1 := by kernel_rfl
theorem host_Do.bits1 : waitsOk host_Do.T1.2 host_Do.B1 = true := by kernel_rfl
theorem host_Do.calls (k : Nat) (G J : Int) (au : Nat → Prop) (av : Option Addr) (aw : Nat) (x : List (S47)) (O : Int) (P Q : Bool) (y : Int) (am aj ar : Bool) (aU : Option Addr) (aV : Nat) (ac : List (S49)) (r1 r2 : Int) (r3 : List (S47)) (r4 : Int) (r5 r6 : Bool) (r7 : Option Er) (r8 : List (S177)) (w : World) (hO : Kd.V k47 47 w w.heap.size (fun k_ => au k_) (.slice av x.length aw) x) (fs : Kd.C k49 w aU ac.length ac) (fr : ac.length ≤ aV) (h : host_Do.f k G J x O P Q y am aj ar ac = some (r1, r2, r3, r4, r5, r6, r7, r8)) :
  Calls Tryz.prog 7 #[.agg #[.int .i64 G, .int .i64 J, .slice av x.length aw, .int .i64 O, .bool P, .bool Q], .agg #[.int .i64 y, .bool am, .bool aj, .bool ar, .slice aU ac.length aV]] w fun e w' => ∃ hT hU : Value, e = .returned (.tuple #[.agg #[.int .i64 r1, .int .i64 r2, hT, .int .i64 r4, .bool r5, .bool r6], errW hU r7]) ∧ Kd.V k47 47 w' w.heap.size (fun k_ => (au k_ ∨ w.heap.size ≤ k_)) hT r3 ∧ Kd.V k177 177 w' w.heap.size (fun k_ => (au k_ ∨ w.heap.size ≤ k_)) hU r8 ∧ Below w.heap.size w w' := by
 have oy := Tryz.underlying24
 have oz := Tryz.underlying29
 have oA := Tryz.underlying34
 have oB := Tryz.underlying61
 have s := Z (show Kd.V k47 47 w w.heap.size (fun k_ => (au k_ ∨ w.heap.size ≤ k_)) (.slice av x.length aw) x from Kd.V_mono hO (fun k_ hk => .inl hk))
 have bZ := Z fs
 have bY := Z fr
 clear fs fr
 have HB := Z (Below.refl w.heap.size w)
 unfold host_Do.f at h
 have H := h
 clear h
 replace H := bn_ H
 obtain ⟨bB, A3, H⟩ := H
 replace H := bn_ H
 obtain ⟨⟨e6, e7, ch⟩, A4, H⟩ := H
 try dsimp only at H
 rcases e7 with _ | cf
 rotate_left
 ·rw [if_neg (show ¬ (some cf).isNone = true by simp)] at H
  try dsimp only [Option.getD_some] at H
  try simp only [errW_none, errW_some]
  obtain ⟨rfl, rfl, rfl, rfl, rfl, rfl, rfl, rfl⟩ := ij8_ H
  go_enter Tryz.func7, Tryz.ntmps7
  try go_wp2_with (first | ((with_reducible refine gD_ 2 rfl ?_); refine bx_ 2 24 #[.int .i64 G, .int .i64 J, .slice av x.length aw, .int .i64 O, .bool P, .bool Q] ?_; intro F hg oM hbox hb; replace s := ve' s hg hb; have b := Z hbox; have hD := ln' w hg; replace HB := bs_ hb; clear hb hbox hg) | ((with_reducible refine gD_ 3 rfl ?_); refine bx_ 3 29 #[.int .i64 y, .bool am, .bool aj, .bool ar, .slice aU ac.length aV] ?_; intro I hg oN hbox hb; replace s := ve' s hg hb; have d := Z hbox; have hE := ln' w hg; replace HB := bs_ hb; have a2 := nl' b hg; replace b := kb' b hb; clear hb hbox hg) | ((with_reducible refine gD_ 4 rfl ?_); refine bx_ 4 24 zS_ ?_; intro q hg lz hbox hb; replace s := ve' s hg hb; have j := Z hbox; have hF := ln' w hg; replace HB := bs_ hb; have aW := nl' b hg; replace b := kb' b hb; have aR := nl' d hg; replace d := kb' d hb; clear hb hbox hg))
  replace s := Z (Kd.V_drew s.out)
  replace b := Z (blk_drew b.out)
  replace d := Z (blk_drew d.out)
  replace j := Z (blk_drew j.out)
  replace HB := Z (below_drew1 HB.out)
  refine start_ (n := 9) (S := fun w' => w'.cell? ⟨I, 0, none⟩ = some (.int .i64 y) ∧ w'.cell? ⟨I, 1, none⟩ = some (.bool am) ∧ w'.cell? ⟨I, 2, none⟩ = some (.bool aj) ∧ w'.cell? ⟨I, 3, none⟩ = some (.bool ar) ∧ w'.cell? ⟨I, 4, none⟩ = some (.slice aU ac.length aV) ∧ w'.cell? ⟨F, 0, none⟩ = some (.int .i64 G) ∧ w'.cell? ⟨F, 1, none⟩ = some (.int .i64 J) ∧ w'.cell? ⟨F, 2, none⟩ = some (.slice av x.length aw) ∧ w'.cell? ⟨F, 3, none⟩ = some (.int .i64 O) ∧ w'.cell? ⟨F, 4, none⟩ = some (.bool P) ∧ w'.cell? ⟨F, 5, none⟩ = some (.bool Q)) (ds := []) (bv 9 0) (by kernel_rfl) rfl rfl hd_ (fun hHeld => ?_); refine with_tabW host_Do.tab1 host_Do.bits1 (fun HT_ HW_ => ?_)
  generalize lz.drew = oO at s b d j HB hHeld ⊢
  refine tT_ HT_ HW_ hHeld 0 9 1 (some 13) ?_
  refine tT_ HT_ HW_ hHeld 1 9 3 (some 14) ?_
  refine oT_ HT_ 2 9 7 (some 15) (fun K hK => ?_)
  refine goes_ Tryz.func15 (by kernel_rfl) rfl #[.agg #[.int .i64 G, .int .i64 J, .slice av x.length aw, .int .i64 O, .bool P, .bool Q]] (by rfl) rfl rfl ag_ ?_
  with_reducible refine (grid_Size.calls G J _ _ x O P Q bB _ ?side1 ?side2 A3.out).mono ?_
  (case side1 => repeat (first | exact (Kd.V_reads' s.out).2.2 | (with_reducible apply pC)))
  (case side2 => exact (Kd.V_reads' s.out).2.1)
  rintro e oP ⟨rfl, hb⟩
  refine ⟨_, rfl, ?_⟩
  replace s := vb' s hb
  replace b := kb' b hb
  replace d := kb' d hb
  replace j := kb' j hb
  replace HB := bs_ hb
  (try clear hb)
  (try clear bH)
  (try clear hk)
  (try clear hi)
  refine hK.out _ _ hd_ (fun hHeld => ?_)
  clear hK K
  refine nA_ (some 15) ?_
  refine oT_ HT_ 3 9 15 (some 16) (fun K hK => ?_)
  refine goes_ Tryz.func14 (by kernel_rfl) rfl #[.agg #[.int .i64 y, .bool am, .bool aj, .bool ar, .slice aU ac.length aV], .int .i64 bB] (by rfl) rfl rfl ag_ ?_
  with_reducible refine (stream_Write.calls k y am aj ar _ _ ac bB e6 (some cf) ch _ ?side1 ?side2 A4.out).mono ?_
  (case side1 => repeat (first | exact (Kd.C_below bZ.out HB.out) | (with_reducible apply pC)))
  (case side2 => exact bY.out)
  rintro e oQ ⟨bE, hy, rfl, aA, bq, hb⟩
  refine ⟨_, rfl, ?_⟩
  have z := Z (Kd.V_elder' (vV s.out) (Kd.R_base aA) hb)
  have A := Z (Kd.R_lower (Kd.R_newM (M := fun k_ => (w.heap.size ≤ k_)) (Kd.R_mono (ok' := fun k_ => True) aA (fun _ hk_ => trivial)) (below_size bl_) (fun k_ h_ => h_)) (below_size bl_))
  have B := Z (Kd.V_lower (Kd.V_mono (ok' := fun k_ => (au k_ ∨ w.heap.size ≤ k_) ∧ some k_ ≠ (bE : Value).ownBlock ∧ k_ ≠ F ∧ k_ ≠ I ∧ k_ ≠ q) bq (fun k_ hk_ => ⟨(.inr (Nat.le_trans (below_size bl_) hk_.1)), hk_.2, (Kd.freshB (g := F) (o := .cells #[.int .i64 G, .int .i64 J, .slice av x.length aw, .int .i64 O, .bool P, .bool Q] 24 (0, 0)) (vK b.out) k_ hk_.1), (Kd.freshB (g := I) (o := .cells #[.int .i64 y, .bool am, .bool aj, .bool ar, .slice aU ac.length aV] 29 (0, 0)) (vK d.out) k_ hk_.1), (Kd.freshB (g := q) (o := .cells zS_ 24 (0, 0)) (vK j.out) k_ hk_.1)⟩)) (below_size bl_))
  have D := kb' b hb
  have E := kb' d hb
  have U := kb' j hb
  have W := bs_ hb
  clear s
  clear b
  clear d
  clear j
  clear HB
  have s := z
  have ap := A
  have aJ := B
  have b := D
  have d := E
  have j := U
  have HB := W
  clear z A B D E U W
  (try clear hb)
  (try clear bH)
  (try clear hk)
  (try clear hi)
  (try clear aA)
  (try clear bq)
  (try simp only [errW_none, errW_some])
  refine hK.out _ _ hd_ (fun hHeld => ?_)
  clear hK K
  refine nA_ (some 16) ?_
  refine pT_ HT_ 4 9 31 (some 12) ?_
  refine pT_ HT_ 5 9 63 (some 17) ?_
  refine pT_ HT_ 6 9 127 (some 18) ?_
  refine pT_ HT_ 7 9 255 (some 6) ?_
  refine pT_ HT_ 8 9 511 (some 7) ?_
  refine done_ (done_of HT_.out (by kernel_rfl)) ?_
  have mL := ns_ a2
  have mM := ns_ aW
  have jy := cells6 b.out
  have mN := ns_ aR
  have jE := cells6 j.out
  try go_wp2
  refine rc2_ (put6 j.out) Tryz.underlying24 ?_
  exact ⟨_, _, er_, by (with_reducible repeat apply pV); exact Kd.V_mono (f6V q (Kd.V_mono s.out (fun k_ hk => (⟨hk, hk.1.2⟩ : _ ∧ k_ ≠ q))) im_) im_, by (with_reducible repeat apply pV); exact Kd.V_mono (f6V q (Kd.V_mono aJ.out (fun k_ hk => (⟨hk, hk.2.2.2.2⟩ : _ ∧ k_ ≠ q))) im_) im_, bl_⟩
 rw [if_pos (show (none : Option Er).isNone = true by rfl)] at H
 try dsimp only [Option.getD_some] at H
 try simp only [errW_none, errW_some]
 replace H := bn_ H
 obtain ⟨⟨X, ab, u, ak, ad, af⟩, A5, H⟩ := H
 try dsimp only at H
 have hl := Z H
 clear H
 go_enter Tryz.func7, Tryz.ntmps7
 try go_wp2_with (first | ((with_reducible refine gD_ 2 rfl ?_); refine bx_ 2 24 #[.int .i64 G, .int .i64 J, .slice av x.length aw, .int .i64 O, .bool P, .bool Q] ?_; intro F hg w7 hbox hb; replace s := ve' s hg hb; have b := Z hbox; have hD := ln' w hg; replace HB := bs_ hb; clear hb hbox hg) | ((with_reducible refine gD_ 3 rfl ?_); refine bx_ 3 29 #[.int .i64 y, .bool am, .bool aj, .bool ar, .slice aU ac.length aV] ?_; intro I hg w8 hbox hb; replace s := ve' s hg hb; have d := Z hbox; have hE := ln' w hg; replace HB := bs_ hb; have a2 := nl' b hg; replace b := kb' b hb; clear hb hbox hg) | ((with_reducible refine gD_ 4 rfl ?_); refine bx_ 4 24 zS_ ?_; intro q hg w9 hbox hb; replace s := ve' s hg hb; have j := Z hbox; have hF := ln' w hg; replace HB := bs_ hb; have aW := nl' b hg; replace b := kb' b hb; have aR := nl' d hg; replace d := kb' d hb; clear hb hbox hg))
 replace s := Z (Kd.V_drew s.out)
 replace b := Z (blk_drew b.out)
 replace d := Z (blk_drew d.out)
 replace j := Z (blk_drew j.out)
 replace HB := Z (below_drew1 HB.out)
 refine start_ (n := 9) (S := fun w' => w'.cell? ⟨I, 0, none⟩ = some (.int .i64 y) ∧ w'.cell? ⟨I, 1, none⟩ = some (.bool am) ∧ w'.cell? ⟨I, 2, none⟩ = some (.bool aj) ∧ w'.cell? ⟨I, 3, none⟩ = some (.bool ar) ∧ w'.cell? ⟨I, 4, none⟩ = some (.slice aU ac.length aV) ∧ w'.cell? ⟨F, 0, none⟩ = some (.int .i64 G) ∧ w'.cell? ⟨F, 1, none⟩ = some (.int .i64 J) ∧ w'.cell? ⟨F, 2, none⟩ = some (.slice av x.length aw) ∧ w'.cell? ⟨F, 3, none⟩ = some (.int .i64 O) ∧ w'.cell? ⟨F, 4, none⟩ = some (.bool P) ∧ w'.cell? ⟨F, 5, none⟩ = some (.bool Q)) (ds := []) (bv 9 0) (by kernel_rfl) rfl rfl hd_ (fun hHeld => ?_); refine with_tabW host_Do.tab1 host_Do.bits1 (fun HT_ HW_ => ?_)
 generalize w9.drew = oZ at s b d j HB hHeld ⊢
 refine tT_ HT_ HW_ hHeld 0 9 1 (some 13) ?_
 refine tT_ HT_ HW_ hHeld 1 9 3 (some 14) ?_
 refine oT_ HT_ 2 9 7 (some 15) (fun K hK => ?_)
 refine goes_ Tryz.func15 (by kernel_rfl) rfl #[.agg #[.int .i64 G, .int .i64 J, .slice av x.length aw, .int .i64 O, .bool P, .bool Q]] (by rfl) rfl rfl ag_ ?_
 with_reducible refine (grid_Size.calls G J _ _ x O P Q bB _ ?side1 ?side2 A3.out).mono ?_
 (case side1 => repeat (first | exact (Kd.V_reads' s.out).2.2 | (with_reducible apply pC)))
 (case side2 => exact (Kd.V_reads' s.out).2.1)
 rintro e o0 ⟨rfl, hb⟩
 refine ⟨_, rfl, ?_⟩
 replace s := vb' s hb
 replace b := kb' b hb
 replace d := kb' d hb
 replace j := kb' j hb
 replace HB := bs_ hb
 (try clear hb)
 (try clear bH)
 (try clear hk)
 (try clear hi)
 refine hK.out _ _ hd_ (fun hHeld => ?_)
 clear hK K
 refine nA_ (some 15) ?_
 refine oT_ HT_ 3 9 15 (some 16) (fun K hK => ?_)
 refine goes_ Tryz.func14 (by kernel_rfl) rfl #[.agg #[.int .i64 y, .bool am, .bool aj, .bool ar, .slice aU ac.length aV], .int .i64 bB] (by rfl) rfl rfl ag_ ?_
 with_reducible refine (stream_Write.calls k y am aj ar _ _ ac bB e6 none ch _ ?side1 ?side2 A4.out).mono ?_
 (case side1 => repeat (first | exact (Kd.C_below bZ.out HB.out) | (with_reducible apply pC)))
 (case side2 => exact bY.out)
 rintro e o1 ⟨bE, hy, rfl, aA, bq, hb⟩
 refine ⟨_, rfl, ?_⟩
 have z := Z (Kd.V_elder' (vV s.out) (Kd.R_base aA) hb)
 have A := Z (Kd.R_lower (Kd.R_newM (M := fun k_ => (w.heap.size ≤ k_)) (Kd.R_mono (ok' := fun k_ => True) aA (fun _ hk_ => trivial)) (below_size bl_) (fun k_ h_ => h_)) (below_size bl_))
 have B := Z (Kd.V_lower (Kd.V_mono (ok' := fun k_ => (au k_ ∨ w.heap.size ≤ k_) ∧ some k_ ≠ (bE : Value).ownBlock ∧ k_ ≠ F ∧ k_ ≠ I ∧ k_ ≠ q) bq (fun k_ hk_ => ⟨(.inr (Nat.le_trans (below_size bl_) hk_.1)), hk_.2, (Kd.freshB (g := F) (o := .cells #[.int .i64 G, .int .i64 J, .slice av x.length aw, .int .i64 O, .bool P, .bool Q] 24 (0, 0)) (vK b.out) k_ hk_.1), (Kd.freshB (g := I) (o := .cells #[.int .i64 y, .bool am, .bool aj, .bool ar, .slice aU ac.length aV] 29 (0, 0)) (vK d.out) k_ hk_.1), (Kd.freshB (g := q) (o := .cells zS_ 24 (0, 0)) (vK j.out) k_ hk_.1)⟩)) (below_size bl_))
 have D := kb' b hb
 have E := kb' d hb
 have U := kb' j hb
 have W := bs_ hb
 clear s
 clear b
 clear d
 clear j
 clear HB
 have s := z
 have ap := A
 have aJ := B
 have b := D
 have d := E
 have j := U
 have HB := W
 clear z A B D E U W
 (try clear hb)
 (try clear bH)
 (try clear hk)
 (try clear hi)
 (try clear aA)
 (try clear bq)
 (try simp only [errW_none, errW_some])
 refine hK.out _ _ hd_ (fun hHeld => ?_)
 clear hK K
 refine nA_ (some 16) ?_
 refine pT_ HT_ 4 9 31 (some 12) ?_
 refine pT_ HT_ 5 9 63 (some 17) ?_
 refine pT_ HT_ 6 9 127 (some 18) ?_
 refine pT_ HT_ 7 9 255 (some 6) ?_
 refine pT_ HT_ 8 9 511 (some 7) ?_
 refine done_ (done_of HT_.out (by kernel_rfl)) ?_
 have nj := ns_ a2
 have nk := ns_ aW
 have cr := cells6 b.out
 go_upto_block 2 with (first | ((with_reducible refine gF_ 16 rfl ?_); refine gd_ (some 24) Tryz.func16 (grid_Copy.calls G J _ _ x O P Q X ab u ak ad af _ (vC_ s) (vL_ s) A5.out) ?_; rintro e o2 ⟨oC, rfl, aA, hb⟩; refine ⟨_, rfl, ?_⟩; replace s := Z (Kd.V_elder' (vV s.out) (Kd.R_base aA) hb); replace ap := rb' ap hb; replace aJ := Z (Kd.V_elder' (vV aJ.out) (Kd.R_base aA) hb); have al := rn_ w aA; replace b := kb' b hb; replace d := kb' d hb; replace j := kb' j hb; replace HB := bs_ hb; (try clear hb); (try clear hk); (try clear aA)) | ((with_reducible refine gD_ 8 rfl ?_); refine bx_ 8 24 zS_ ?_; intro a hg bR hbox hb; replace s := ve' s hg hb; replace ap := rb' ap hb; replace aJ := ve' aJ hg hb; replace al := rb' al hb; have l := Z hbox; have ni := ln' w hg; replace HB := bs_ hb; have ax := nl' b hg; replace b := kb' b hb; have aq := nl' d hg; replace d := kb' d hb; have r := nl' j hg; replace j := kb' j hb; clear hb hbox hg; have nm := ns_ ax; have nn := ns_ aq; have no := ns_ r; have cy := cells6 l.out; obtain ⟨an, aa, h0⟩ := Kd.R_slice al.out; subst h0; have np := ns_ aR; have cE := cells5 d.out))
 (try simp only [Act.put, sA, sB, sC])
 go_cut [] (fun wc => ∃ (kq : Nat) (a0 : List (S47)) (a1 : Int) (GC : Value), Aside0 (host_Do.j0 kq G J x O P Q y am aj ar ac X ab a0 a1 ad af = some (r1, r2, r3, r4, r5, r6, r7, r8)) ∧ Aside0 (kq ≤ k) ∧ Aside0 (Kd.V k47 47 wc w.heap.size (fun k_ => (au k_ ∨ w.heap.size ≤ k_) ∧ some k_ ≠ (GC : Value).ownBlock ∧ k_ ≠ F ∧ k_ ≠ I ∧ k_ ≠ q ∧ k_ ≠ a) (.slice av x.length aw) x) ∧ Aside0 (Kd.R k47 47 wc w.heap.size (fun k_ => (w.heap.size ≤ k_)) GC a0) ∧ Aside0 (wc.heap[F]? = some (.cells #[.int .i64 G, .int .i64 J, (.slice av x.length aw), .int .i64 O, .bool P, .bool Q] 24 (0, 0))) ∧ Aside0 (wc.heap[I]? = some (.cells #[.int .i64 y, .bool am, .bool aj, .bool ar, (.slice aU ac.length aV)] 29 (0, 0))) ∧ Aside0 (wc.heap[q]? = some (.cells zS_ 24 (0, 0))) ∧ Aside0 (wc.heap[a]? = some (.cells #[.int .i64 X, .int .i64 ab, GC, .int .i64 a1, .bool ad, .bool af] 24 (0, 0))) ∧ Aside0 (Below w.heap.size w wc))
 case first =>
  have H := hl.out
  clear hl
  by_cases b0 : y = 245
  rotate_left
  ·rw [if_neg b0] at H
   obtain ⟨bw, eI⟩ := eF_ b0
   (first | rw [bw] | (simp only [i64_w, i32_w]; rw [bw]) | skip)
   by_cases b1 : y = 241
   ·rw [if_pos b1] at H
    obtain ⟨eJ, eK⟩ := eT_ b1
    clear b1
    have H' := Z H
    clear H
    go_wp2
    go_meet
    case rel => exact ⟨_, (u), (ak), (.slice an u.length aa), H', ⟨by first | omega | exact Nat.le_refl _⟩, ⟨by (with_reducible repeat apply pV); exact Kd.V_mono (f6V a (Kd.V_mono s.out (fun k_ hk => (⟨hk, hk.2⟩ : _ ∧ k_ ≠ a))) im_) im_⟩, ⟨by (with_reducible repeat apply pR); exact Kd.R_mono (f6R a (Kd.R_types al.out l.out (by decide)) im_) im_⟩, ⟨blk_off b.out ax.out off2_⟩, ⟨blk_off d.out aq.out off2_⟩, ⟨blk_off j.out r.out off2_⟩, ⟨put6 l.out⟩, ⟨bl_⟩⟩
   rw [if_neg b1] at H
   obtain ⟨eJ, eK⟩ := eF_ b1
   by_cases b2 : y = 111
   ·rw [if_pos b2] at H
    obtain ⟨eL, eM⟩ := eT_ b2
    clear b2
    replace H := bn_ H
    obtain ⟨⟨eN, eO, ci, eP, eQ, eR⟩, lX, H⟩ := H
    try dsimp only at H
    replace H := bn_ H
    obtain ⟨⟨br, bC, bL, bV, cc, cj⟩, fc, H⟩ := H
    try dsimp only at H
    obtain ⟨rfl, rfl, rfl, rfl, rfl, rfl, rfl, rfl⟩ := ij8_ H
    have nt := ns_ ax
    have nu := ns_ aq
    have nv := ns_ r
    have c8 := cells6 l.out
    go_wp2_with (first | ((with_reducible refine gF_ 20 rfl ?_); refine gd_ (some 62) Tryz.func20 (host_clean.calls k X ab _ _ u ak ad af eN eO ci eP eQ eR _ ?side1 (rL_ al) lX.out) ?_; (case side1 => refine (Kd.R_reads' (e := 47) (base := w.heap.size) (ok := fun k_ => (((w.heap.size ≤ k_)) ∧ True)) (n := u.length) (c := aa) ?_).2.2; exact (by (with_reducible repeat apply pR); exact (Kd.R_mono (f6R a (Kd.R_types al.out l.out (by decide)) (fun _ hk => hk.2)) (fun _ h_ => h_.1)))); rintro e o3 ⟨oD, rfl, aA, hb⟩; refine ⟨_, rfl, ?_⟩; replace s := Z (Kd.V_elder' (by (with_reducible repeat apply pV); exact (Kd.V_mono (f6V a (Kd.V_mono s.out (fun k_ hk => (⟨hk, hk.2⟩ : _ ∧ k_ ≠ a))) (fun _ hk => hk.2)) (fun _ h_ => h_.1))) (Kd.R_base aA) hb); replace ap := Z (Kd.R_below (by (with_reducible repeat apply pR); exact (Kd.R_mono (f6R a (Kd.R_types ap.out l.out (by decide)) (fun _ hk => hk.2)) (fun _ h_ => h_.1))) hb); replace aJ := Z (Kd.V_elder' (by (with_reducible repeat apply pV); exact (Kd.V_mono (f6V a (Kd.V_mono aJ.out (fun k_ hk => (⟨hk, hk.2⟩ : _ ∧ k_ ≠ a))) (fun _ hk => hk.2)) (fun _ h_ => h_.1))) (Kd.R_base aA) hb); have a4 := Z (Kd.R_lower (Kd.R_new' (Kd.R_newM (M := fun k_ => (w.heap.size ≤ k_)) aA (below_size bl_) (fun k_ h_ => h_)) (Kd.R_lt (by (with_reducible repeat apply pR); exact (Kd.R_mono (f6R a (Kd.R_types al.out l.out (by decide)) (fun _ hk => hk.2)) (fun _ h_ => h_.1))))) (below_size bl_)); replace al := Z (Kd.R_elder' (by (with_reducible repeat apply pR); exact (Kd.R_mono (f6R a (Kd.R_types al.out l.out (by decide)) (fun _ hk => hk.2)) (fun _ h_ => h_.1))) (Kd.R_base aA) hb); replace b := Z (blk_below (g := F) (o := .cells #[.int .i64 G, .int .i64 J, .slice av x.length aw, .int .i64 O, .bool P, .bool Q] 24 (0, 0)) (blk_off b.out ax.out off2_) hb); replace d := Z (blk_below (g := I) (o := .cells #[.int .i64 y, .bool am, .bool aj, .bool ar, .slice aU ac.length aV] 29 (0, 0)) (blk_off d.out aq.out off2_) hb); replace j := Z (blk_below (g := q) (o := .cells zS_ 24 (0, 0)) (blk_off j.out r.out off2_) hb); replace l := Z (blk_below (g := a) (o := .cells #[.int .i64 X, .int .i64 ab, .slice an u.length aa, .int .i64 ak, .bool ad, .bool af] 24 (0, 0)) (put6 l.out) hb); replace HB := bs_ hb; (try clear hb); (try clear hk); (try clear aA); obtain ⟨hh, hq, h1⟩ := Kd.R_slice a4.out; subst h1) | ((with_reducible refine gF_ 19 rfl ?_); refine gd_ (some 63) Tryz.func19 (host_unlocked.calls eN eO (fun k_ => some k_ = (.slice hh ci.length hq : Value).ownBlock) _ _ ci eP eQ eR br bC bL bV cc cj _ (Kd.R_V (Kd.R_tight rfl (Kd.R_types (Kd.R_types (Kd.R_types (Kd.R_types (Kd.R_apart' (a4.out) (Kd.R_typed ap.out) (by decide)) b.out (by decide)) d.out (by decide)) j.out (by decide)) l.out (by decide)))) fc.out) ?_; rintro e o4 ⟨oE, rfl, aA, hb⟩; refine ⟨_, rfl, ?_⟩; replace s := vb' s hb; replace aJ := vb' aJ hb; have fi := Z (Kd.V_lower (Kd.V_mono (ok' := fun k_ => (au k_ ∨ w.heap.size ≤ k_) ∧ some k_ ≠ (bE : Value).ownBlock ∧ some k_ ≠ (.slice an u.length aa : Value).ownBlock ∧ k_ ≠ F ∧ k_ ≠ I ∧ k_ ≠ q ∧ k_ ≠ a) aA (fun k_ hk_ => ⟨Or.elim hk_ (fun hs_ => (.inr (((Kd.R_types (Kd.R_types (Kd.R_types (Kd.R_types (Kd.R_apart' (a4.out) (Kd.R_typed ap.out) (by decide)) b.out (by decide)) d.out (by decide)) j.out (by decide)) l.out (by decide)).1 k_ hs_.symm).1.1.1.1.1.1.1))) (fun hn_ => (ir_ hn_)), Or.elim hk_ (fun hs_ => ((Kd.R_types (Kd.R_types (Kd.R_types (Kd.R_types (Kd.R_apart' (a4.out) (Kd.R_typed ap.out) (by decide)) b.out (by decide)) d.out (by decide)) j.out (by decide)) l.out (by decide)).1 k_ hs_.symm).1.1.1.1.2) (fun hn_ => (Kd.fresh' (Kd.R_lt (by (with_reducible repeat apply pR); exact ap.out)) k_ hn_)), Or.elim hk_ (fun hs_ => ((Kd.R_types (Kd.R_types (Kd.R_types (Kd.R_types (Kd.R_apart' (a4.out) (Kd.R_typed ap.out) (by decide)) b.out (by decide)) d.out (by decide)) j.out (by decide)) l.out (by decide)).1 k_ hs_.symm).1.1.1.1.1.2) (fun hn_ => (Kd.fresh' (Kd.R_lt (by (with_reducible repeat apply pR); exact al.out)) k_ hn_)), Or.elim hk_ (fun hs_ => ((Kd.R_types (Kd.R_types (Kd.R_types (Kd.R_types (Kd.R_apart' (a4.out) (Kd.R_typed ap.out) (by decide)) b.out (by decide)) d.out (by decide)) j.out (by decide)) l.out (by decide)).1 k_ hs_.symm).1.1.1.2) (fun hn_ => (fb b.out k_ hn_)), Or.elim hk_ (fun hs_ => ((Kd.R_types (Kd.R_types (Kd.R_types (Kd.R_types (Kd.R_apart' (a4.out) (Kd.R_typed ap.out) (by decide)) b.out (by decide)) d.out (by decide)) j.out (by decide)) l.out (by decide)).1 k_ hs_.symm).1.1.2) (fun hn_ => (fb d.out k_ hn_)), Or.elim hk_ (fun hs_ => ((Kd.R_types (Kd.R_types (Kd.R_types (Kd.R_types (Kd.R_apart' (a4.out) (Kd.R_typed ap.out) (by decide)) b.out (by decide)) d.out (by decide)) j.out (by decide)) l.out (by decide)).1 k_ hs_.symm).1.2) (fun hn_ => (fb j.out k_ hn_)), Or.elim hk_ (fun hs_ => ((Kd.R_types (Kd.R_types (Kd.R_types (Kd.R_types (Kd.R_apart' (a4.out) (Kd.R_typed ap.out) (by decide)) b.out (by decide)) d.out (by decide)) j.out (by decide)) l.out (by decide)).1 k_ hs_.symm).2) (fun hn_ => (fb l.out k_ hn_))⟩)) (below_size bl_)); replace ap := rb' ap hb; replace al := rb' al hb; replace a4 := rb' a4 hb; replace b := kb' b hb; replace d := kb' d hb; replace j := kb' j hb; replace l := kb' l hb; replace HB := bs_ hb; (try clear hb); (try clear hk); (try clear aA); have de := cells6 l.out; obtain ⟨ca, cb, h2⟩ := Kd.V_slice fi.out; subst h2; have nw := ns_ aW; have nx := ns_ aR; have dk := cells6 j.out))
    refine bodyPost_ret (results_ct rfl _ _ q 24 #[.int .i64 br, .int .i64 bC, .slice ca bL.length cb, .int .i64 bV, .bool cc, .bool cj] (0, 0) _ rfl (put6 (by (with_reducible repeat apply pK); refine blk_far ?_ r.out _; (with_reducible repeat apply pK); refine blk_far ?_ r.out _; (with_reducible repeat apply pK); refine blk_far ?_ r.out _; (with_reducible repeat apply pK); refine blk_far ?_ r.out _; (with_reducible repeat apply pK); refine blk_far ?_ r.out _; (with_reducible repeat apply pK); refine blk_far ?_ r.out _; (with_reducible repeat apply pK); exact j.out)) Tryz.underlying24 rfl (by kernel_rfl)) rfl ?_
    exact ⟨_, _, er_, by (with_reducible repeat apply pV); exact Kd.V_mono (f6V q (f6V a (Kd.V_mono (Kd.V_mono fi.out (fun k_ hk => (⟨hk, hk.2.2.2.2.2.2⟩ : _ ∧ k_ ≠ a))) (fun k_ hk => (⟨hk, hk.1.2.2.2.2.2.1⟩ : _ ∧ k_ ≠ q))) im_) im_) im_, Kd.R_V (Kd.R_nil _ _ _ 0 _), bl_⟩
   rw [if_neg b2] at H
   obtain ⟨eL, eM⟩ := eF_ b2
   obtain ⟨rfl, rfl, rfl, rfl, rfl, rfl, rfl, rfl⟩ := ij8_ H
   have ny := ns_ ax
   have nz := ns_ aq
   have nA := ns_ r
   have dr := cells6 l.out
   have nB := ns_ aW
   have nC := ns_ aR
   have dy := cells6 j.out
   go_wp2
   refine bodyPost_ret (results_ct rfl _ _ q 24 #[.int .i64 X, .int .i64 ab, .slice an u.length aa, .int .i64 ak, .bool ad, .bool af] (0, 0) _ rfl (put6 (by (with_reducible repeat apply pK); refine blk_far ?_ r.out _; (with_reducible repeat apply pK); refine blk_far ?_ r.out _; (with_reducible repeat apply pK); refine blk_far ?_ r.out _; (with_reducible repeat apply pK); refine blk_far ?_ r.out _; (with_reducible repeat apply pK); refine blk_far ?_ r.out _; (with_reducible repeat apply pK); refine blk_far ?_ r.out _; (with_reducible repeat apply pK); exact j.out)) Tryz.underlying24 rfl (by kernel_rfl)) rfl ?_
   exact ⟨_, _, er_, Kd.V_mono (Kd.R_V (by (with_reducible repeat apply pR); exact Kd.R_mono (f6R q (f6R a (Kd.R_types (Kd.R_types al.out l.out (by decide)) j.out (by decide)) im_) im_) (fun _ hk => hk.1.1.1))) (fun k_ hk => by first | exact ⟨(.inr (hk.1)), hk.2⟩ | exact (.inr (hk))), Kd.R_V (Kd.R_nil _ _ _ 0 _), bl_⟩
  rw [if_pos b0] at H
  obtain ⟨bw, eI⟩ := eT_ b0
  clear b0
  (first | rw [bw] | (simp only [i64_w, i32_w]; rw [bw]) | skip)
  obtain ⟨cq, H⟩ := gt_ H
  have fl := decide_eq_true cq
  have fm : decide (0 < u.length) = true := decide_eq_true (by omega)
  clear cq
  obtain ⟨fa, b9⟩ : ∃ y_ : List (S47), y_ = (List.replicate u.length z47) := ⟨_, rfl⟩
  rw [← b9] at H
  try replace H := sb_ H
  have hG := Z b9
  clear b9
  have H' := Z H
  clear H
  have nq := ns_ ax
  have nr := ns_ aq
  have ns := ns_ r
  have cJ := cells6 l.out
  obtain ⟨bc, ebc⟩ : ∃ w_, w_ = ((((((bR.setCell ⟨a, 0, none⟩ (.int .i64 X)).setCell ⟨a, 1, none⟩ (.int .i64 ab)).setCell ⟨a, 2, none⟩ (.slice an u.length aa)).setCell ⟨a, 3, none⟩ (.int .i64 ak)).setCell ⟨a, 4, none⟩ (.bool ad)).setCell ⟨a, 5, none⟩ (.bool af)) := ⟨_, rfl⟩
  have z : Aside0 (Kd.V k47 47 bc w.heap.size (fun k_ => (au k_ ∨ w.heap.size ≤ k_) ∧ some k_ ≠ (bE : Value).ownBlock ∧ some k_ ≠ (.slice an u.length aa : Value).ownBlock ∧ k_ ≠ F ∧ k_ ≠ I ∧ k_ ≠ q ∧ k_ ≠ a) (.slice av x.length aw) x) := ⟨by rw [ebc]; (with_reducible repeat apply pV); exact Kd.V_mono (f6V a (Kd.V_mono s.out (fun k_ hk => (⟨hk, hk.2⟩ : _ ∧ k_ ≠ a))) im_) im_⟩
  have A : Aside0 (Kd.R (Kd.int .u8) 5 bc w.heap.size (fun k_ => (w.heap.size ≤ k_)) bE e6) := ⟨by rw [ebc]; (with_reducible repeat apply pR); exact Kd.R_mono (f6R a (Kd.R_types ap.out l.out (by decide)) im_) im_⟩
  have B : Aside0 (Kd.V k177 177 bc w.heap.size (fun k_ => (au k_ ∨ w.heap.size ≤ k_) ∧ some k_ ≠ (bE : Value).ownBlock ∧ some k_ ≠ (.slice an u.length aa : Value).ownBlock ∧ k_ ≠ F ∧ k_ ≠ I ∧ k_ ≠ q ∧ k_ ≠ a) hy ch) := ⟨by rw [ebc]; (with_reducible repeat apply pV); exact Kd.V_mono (f6V a (Kd.V_mono aJ.out (fun k_ hk => (⟨hk, hk.2⟩ : _ ∧ k_ ≠ a))) im_) im_⟩
  have D : Aside0 (Kd.R k47 47 bc w.heap.size (fun k_ => (w.heap.size ≤ k_)) (.slice an u.length aa) u) := ⟨by rw [ebc]; (with_reducible repeat apply pR); exact Kd.R_mono (f6R a (Kd.R_types al.out l.out (by decide)) im_) im_⟩
  have E : Aside0 (bc.heap[F]? = some (.cells #[.int .i64 G, .int .i64 J, .slice av x.length aw, .int .i64 O, .bool P, .bool Q] 24 (0, 0))) := ⟨by rw [ebc]; exact blk_off b.out ax.out off2_⟩
  have U : Aside0 (bc.heap[I]? = some (.cells #[.int .i64 y, .bool am, .bool aj, .bool ar, .slice aU ac.length aV] 29 (0, 0))) := ⟨by rw [ebc]; exact blk_off d.out aq.out off2_⟩
  have W : Aside0 (bc.heap[q]? = some (.cells zS_ 24 (0, 0))) := ⟨by rw [ebc]; exact blk_off j.out r.out off2_⟩
  have ae : Aside0 (bc.heap[a]? = some (.cells #[.int .i64 X, .int .i64 ab, .slice an u.length aa, .int .i64 ak, .bool ad, .bool af] 24 (0, 0))) := ⟨by rw [ebc]; exact put6 l.out⟩
  have ao : Aside0 (Below w.heap.size w bc) := ⟨by rw [ebc]; exact bl_⟩
  (try clear s)
  (try clear ap)
  (try clear aJ)
  (try clear al)
  (try clear b)
  (try clear d)
  (try clear j)
  (try clear l)
  (try clear HB)
  rw [← ebc]
  clear ebc
  have s := z
  have ap := A
  have aJ := B
  have al := D
  have b := E
  have d := U
  have j := W
  have l := ae
  have HB := ao
  clear z A B D E U W ae ao
  have cP := cells6 l.out
  have p27 : 0 ≤ (0 : Int) := (by omega)
  have cg : (0 : Int) < ((u.length : Int) : Int) := od_
  have hv : (0 < u.length) = True := eq_true (by omega)
  obtain ⟨aH, ox, hs, ht, h7, ow, hm⟩ := Kd.R_form al.out (by omega)
  (first | cases hs | (injection hs with ea_ en_ ec_; (first | subst ea_ | (injection ea_ with ea_; subst ea_)); subst ec_; clear en_))
  have hX := Z ht
  have ot := Z hm
  clear ht h7 hm
  obtain ⟨ov, hN, hu, bz, bA⟩ := Kd.R_elem al.out z47 (0 : Int) p27 cg
  obtain rfl := k47_openM hu
  have b3 : bc.cell? ⟨aH, (0 : Int).toNat * 6, none⟩ = some (.bool ((rd_T47 u 0).f0)) := bz 0 _ rfl
  have b4 : bc.cell? ⟨aH, (0 : Int).toNat * 6 + 1, none⟩ = some (.bool ((rd_T47 u 0).f1.f0)) := bz 1 _ rfl
  have b5 : bc.cell? ⟨aH, (0 : Int).toNat * 6 + 2, none⟩ = some (.bool ((rd_T47 u 0).f1.f1)) := bz 2 _ rfl
  have b6 : bc.cell? ⟨aH, (0 : Int).toNat * 6 + 3, none⟩ = some (.int .i64 ((rd_T47 u 0).f1.f2)) := bz 3 _ rfl
  have b7 : bc.cell? ⟨aH, (0 : Int).toNat * 6 + 4, none⟩ = some (.bool ((rd_T47 u 0).f1.f3)) := bz 4 _ rfl
  have b8 : bc.cell? ⟨aH, (0 : Int).toNat * 6 + 5, none⟩ = some (.int .u8 ((rd_T47 u 0).f2)) := bz 5 _ rfl
  have eU : bc.frozen? ⟨aH, (0 : Int).toNat * 6, none⟩ = false := bA 0
  have eV : bc.frozen? ⟨aH, (0 : Int).toNat * 6 + 1, none⟩ = false := bA 1
  have eW : bc.frozen? ⟨aH, (0 : Int).toNat * 6 + 2, none⟩ = false := bA 2
  have eX : bc.frozen? ⟨aH, (0 : Int).toNat * 6 + 3, none⟩ = false := bA 3
  have eY : bc.frozen? ⟨aH, (0 : Int).toNat * 6 + 4, none⟩ = false := bA 4
  have eZ : bc.frozen? ⟨aH, (0 : Int).toNat * 6 + 5, none⟩ = false := bA 5
  clear hN bz bA hu
  (try rw [show ((0 : Int)).toNat = 0 from rfl] at b3)
  (try simp only [Nat.reduceMul, Nat.zero_mul, Nat.zero_add, Nat.reduceAdd] at b3)
  (try rw [show ((0 : Int)).toNat = 0 from rfl] at eU)
  (try simp only [Nat.reduceMul, Nat.zero_mul, Nat.zero_add, Nat.reduceAdd] at eU)
  (try rw [show ((0 : Int)).toNat = 0 from rfl] at b4)
  (try simp only [Nat.reduceMul, Nat.zero_mul, Nat.zero_add, Nat.reduceAdd] at b4)
  (try rw [show ((0 : Int)).toNat = 0 from rfl] at eV)
  (try simp only [Nat.reduceMul, Nat.zero_mul, Nat.zero_add, Nat.reduceAdd] at eV)
  (try rw [show ((0 : Int)).toNat = 0 from rfl] at b5)
  (try simp only [Nat.reduceMul, Nat.zero_mul, Nat.zero_add, Nat.reduceAdd] at b5)
  (try rw [show ((0 : Int)).toNat = 0 from rfl] at eW)
  (try simp only [Nat.reduceMul, Nat.zero_mul, Nat.zero_add, Nat.reduceAdd] at eW)
  (try rw [show ((0 : Int)).toNat = 0 from rfl] at b6)
  (try simp only [Nat.reduceMul, Nat.zero_mul, Nat.zero_add, Nat.reduceAdd] at b6)
  (try rw [show ((0 : Int)).toNat = 0 from rfl] at eX)
  (try simp only [Nat.reduceMul, Nat.zero_mul, Nat.zero_add, Nat.reduceAdd] at eX)
  (try rw [show ((0 : Int)).toNat = 0 from rfl] at b7)
  (try simp only [Nat.reduceMul, Nat.zero_mul, Nat.zero_add, Nat.reduceAdd] at b7)
  (try rw [show ((0 : Int)).toNat = 0 from rfl] at eY)
  (try simp only [Nat.reduceMul, Nat.zero_mul, Nat.zero_add, Nat.reduceAdd] at eY)
  (try rw [show ((0 : Int)).toNat = 0 from rfl] at b8)
  (try simp only [Nat.reduceMul, Nat.zero_mul, Nat.zero_add, Nat.reduceAdd] at b8)
  (try rw [show ((0 : Int)).toNat = 0 from rfl] at eZ)
  (try simp only [Nat.reduceMul, Nat.zero_mul, Nat.zero_add, Nat.reduceAdd] at eZ)
  replace p27 := eq_true p27
  replace cg := eq_true cg
  have hp := Z (show Kd.R k47 47 bc w.heap.size (fun k_ => (w.heap.size ≤ k_)) (.slice (some ⟨aH, 0, none⟩) u.length aa) u from (by (with_reducible repeat apply pR); exact al.out))
  have e2 := clear_all hp.out
  have hY := Z (clear_run hp.out)
  go_wp2_with (first | ((with_reducible refine gD_ 34 rfl ?_); refine Kd.event_run (v := .slice (some ⟨aH, 0, none⟩) u.length aa) (w1 := bc) rfl ?hr ?_; (case hr => go_simp; first | done | rfl); refine Kd.event_run (v := .tuple #[]) (w1 := bc.setCells aH 0 (zl u.length)) rfl ?hr ?_; (case hr => (have hz_ := hY.out; go_simp; first | done | rfl)); obtain ⟨hV, hw⟩ : ∃ w_ : World, w_ = bc.setCells aH 0 (zl u.length) := ⟨_, rfl⟩; rw [← hw]; have hg : bc.grownBy hV (some aH) := (by rw [hw]; exact e2.2); have hp_ : Kd.R k47 47 hV w.heap.size (fun k_ => (w.heap.size ≤ k_)) (.slice (some ⟨aH, 0, none⟩) u.length aa) fa := (by rw [hw, hG.out]; exact e2.1); clear e2; replace s := Z (Kd.V_afterv (v := (.slice (some ⟨aH, 0, none⟩) u.length aa)) (v1 := (.slice (some ⟨aH, 0, none⟩) u.length aa)) (ok := (fun k_ => (au k_ ∨ w.heap.size ≤ k_) ∧ some k_ ≠ (bE : Value).ownBlock ∧ k_ ≠ F ∧ k_ ≠ I ∧ k_ ≠ q ∧ k_ ≠ a)) (by (with_reducible repeat apply pV); exact Kd.V_mono s.out (fun _ hk => ⟨⟨hk.1, ⟨hk.2.1, ⟨hk.2.2.2.1, ⟨hk.2.2.2.2.1, ⟨hk.2.2.2.2.2.1, hk.2.2.2.2.2.2⟩⟩⟩⟩⟩, hk.2.2.1⟩)) hg (.inl rfl)); replace b := gw_ ⟨vK b.out⟩ hg (Kd.R_ne al.out b.out (by decide)); replace d := gw_ ⟨vK d.out⟩ hg (Kd.R_ne al.out d.out (by decide)); replace j := gw_ ⟨vK j.out⟩ hg (Kd.R_ne al.out j.out (by decide)); replace ap := Z (Kd.R_over' (v := (.slice (some ⟨aH, 0, none⟩) u.length aa)) (by (with_reducible repeat apply pR); exact ap.out) (Kd.R_typed al.out) (by decide) hg); replace aJ := Z (Kd.V_afterv (v := (.slice (some ⟨aH, 0, none⟩) u.length aa)) (v1 := (.slice (some ⟨aH, 0, none⟩) u.length aa)) (ok := (fun k_ => (au k_ ∨ w.heap.size ≤ k_) ∧ some k_ ≠ (bE : Value).ownBlock ∧ k_ ≠ F ∧ k_ ≠ I ∧ k_ ≠ q ∧ k_ ≠ a)) (by (with_reducible repeat apply pV); exact Kd.V_mono aJ.out (fun _ hk => ⟨⟨hk.1, ⟨hk.2.1, ⟨hk.2.2.2.1, ⟨hk.2.2.2.2.1, ⟨hk.2.2.2.2.2.1, hk.2.2.2.2.2.2⟩⟩⟩⟩⟩, hk.2.2.1⟩)) hg (.inl rfl)); replace l := gw_ ⟨vK l.out⟩ hg (Kd.R_ne al.out l.out (by decide)); replace al := Z (hp_); replace HB := Z (HB.out.grown hg HB.out.size (fun k_ e_ => by injection e_ with e_; rw [← e_]; exact hX.out)); clear hg hw hp_; have cV := cells6 l.out))
  go_meet
  case rel => exact ⟨_, (fa), (0), (.slice (some ⟨aH, 0, none⟩) u.length aa), H', ⟨by first | omega | exact Nat.le_refl _⟩, ⟨by (with_reducible repeat apply pV); exact Kd.V_mono (Kd.V_far (p := ⟨a, 3, none⟩) (Kd.V_mono s.out (fun k_ hk => (⟨hk, hk.1.2.2.2.2.2⟩ : _ ∧ k_ ≠ a))) im_ (.int .i64 0)) im_⟩, ⟨by (with_reducible repeat apply pR); exact Kd.R_mono (Kd.R_far (p := ⟨a, 3, none⟩) (Kd.R_types al.out l.out (by decide)) im_ (.int .i64 0)) im_⟩, ⟨blk_off b.out ax.out off2_⟩, ⟨blk_off d.out aq.out off2_⟩, ⟨blk_off j.out r.out off2_⟩, ⟨by (with_reducible repeat apply pK); refine blk_put (cs := #[.int .i64 X, .int .i64 ab, .slice (some ⟨aH, 0, none⟩) u.length aa, .int .i64 ak, .bool ad, .bool af]) ?_ 3 _ rfl; (with_reducible repeat apply pK); exact l.out⟩, ⟨bl_⟩⟩
 clear hl
 try clear cr
 try clear cy
 try clear cE
 try clear cf
 obtain ⟨kq, a0, a1, GC, HA, hR, GA, GB, b, d, j, l, HB⟩ := hcut
 cases kq with
 | zero => exact absurd HA.out (by simp [host_Do.j0])
 | succ ft =>
  have H := HA.out
  clear HA
  simp only [host_Do.j0] at H
  have e1 := Z H
  clear H
  have nD := ns_ a2
  have nE := ns_ aR
  have nF := ns_ aq
  have fu := cells5 d.out
  go_upto_if 38 with (fail)
  go_cut [] (fun wc => ∃ (kq : Nat) (aD : Int) (aE : Int) (Y : List (S47)) (ai : Int) (aF : Bool) (aG : Bool) (GC : Value), Aside0 (host_Do.j1 kq G J x O P Q y am aj ar ac aD aE Y ai aF aG = some (r1, r2, r3, r4, r5, r6, r7, r8)) ∧ Aside0 (kq ≤ ft) ∧ Aside0 (Kd.V k47 47 wc w.heap.size (fun k_ => (au k_ ∨ w.heap.size ≤ k_) ∧ some k_ ≠ (GC : Value).ownBlock ∧ k_ ≠ F ∧ k_ ≠ I ∧ k_ ≠ q ∧ k_ ≠ a) (.slice av x.length aw) x) ∧ Aside0 (Kd.R k47 47 wc w.heap.size (fun k_ => (w.heap.size ≤ k_)) GC Y) ∧ Aside0 (wc.heap[F]? = some (.cells #[.int .i64 G, .int .i64 J, (.slice av x.length aw), .int .i64 O, .bool P, .bool Q] 24 (0, 0))) ∧ Aside0 (wc.heap[I]? = some (.cells #[.int .i64 y, .bool am, .bool aj, .bool ar, (.slice aU ac.length aV)] 29 (0, 0))) ∧ Aside0 (wc.heap[q]? = some (.cells zS_ 24 (0, 0))) ∧ Aside0 (wc.heap[a]? = some (.cells #[.int .i64 aD, .int .i64 aE, GC, .int .i64 ai, .bool aF, .bool aG] 24 (0, 0))) ∧ Aside0 (Below w.heap.size w wc))
  case first =>
   have H := e1.out
   clear e1
   by_cases eT : ar = true
   ·subst eT
    rw [if_pos rfl] at H
    replace H := bn_ H
    obtain ⟨⟨ck, cl, cd, cm, cn, co⟩, lZ, H⟩ := H
    try dsimp only at H
    have H' := Z H
    clear H
    have nG := ns_ ax
    have nH := ns_ aq
    have nI := ns_ r
    have fz := cells6 l.out
    obtain ⟨hW, hZ, h3⟩ := Kd.R_slice GB.out
    subst h3
    go_wp2_with (first | ((with_reducible refine gF_ 17 rfl ?_); refine gd_ (some 40) Tryz.func17 (host_Reset.calls X ab _ _ a0 a1 ad af true ck cl cd cm cn co _ (rC_ GB) (rL_ GB) lZ.out) ?_; rintro e o5 ⟨oF, rfl, aA, hb⟩; refine ⟨_, rfl, ?_⟩; replace GA := Z (Kd.V_elder' (vV GA.out) (Kd.R_base aA) hb); have fj := Z (Kd.R_lower (Kd.R_new' (Kd.R_newM (M := fun k_ => (w.heap.size ≤ k_)) aA (below_size bl_) (fun k_ h_ => h_)) (Kd.R_lt (by (with_reducible repeat apply pR); exact GB.out))) (below_size bl_)); replace GB := Z (Kd.R_elder' (by (with_reducible repeat apply pR); exact GB.out) (Kd.R_base aA) hb); replace b := kb' b hb; replace d := kb' d hb; replace j := kb' j hb; replace l := kb' l hb; replace HB := bs_ hb; (try clear hb); (try clear hk); (try clear aA); have fF := cells6 l.out; obtain ⟨e0, e3, h4⟩ := Kd.R_slice fj.out; subst h4))
    go_meet
    case rel => exact ⟨_, (ck), (cl), (cd), (cm), (cn), (co), (.slice e0 cd.length e3), H', ⟨by have := hR.out; first | omega | exact Nat.le_refl _⟩, ⟨by (with_reducible repeat apply pV); exact Kd.V_mono (f6V a (Kd.V_mono GA.out (fun k_ hk => (⟨hk, hk.1.2.2.2.2.2⟩ : _ ∧ k_ ≠ a))) im_) im_⟩, ⟨by (with_reducible repeat apply pR); exact Kd.R_mono (f6R a (Kd.R_types fj.out l.out (by decide)) im_) im_⟩, ⟨blk_off b.out ax.out off2_⟩, ⟨blk_off d.out aq.out off2_⟩, ⟨blk_off j.out r.out off2_⟩, ⟨put6 l.out⟩, ⟨bl_⟩⟩
   replace eT := Bool.eq_false_iff.mpr eT
   subst eT
   rw [iF_] at H
   have H' := Z H
   clear H
   go_wp2
   go_meet
   case rel => exact ⟨_, (X), (ab), (a0), (a1), (ad), (af), (GC), H', ⟨by have := hR.out; first | omega | exact Nat.le_refl _⟩, ⟨vV GA.out⟩, ⟨vR_ GB.out⟩, ⟨vK b.out⟩, ⟨vK d.out⟩, ⟨vK j.out⟩, ⟨vK l.out⟩, ⟨bl_⟩⟩
  clear e1
  try clear cr
  try clear cy
  try clear cE
  try clear fu
  try clear cf
  obtain ⟨kq, aD, aE, Y, ai, aF, aG, GC, HA, ou, GA, GB, b, d, j, l, HB⟩ := hcut
  cases kq with
  | zero => exact absurd HA.out (by simp [host_Do.j1])
  | succ e4 =>
   have H := HA.out
   clear HA
   simp only [host_Do.j1] at H
   replace H := bn_ H
   obtain ⟨⟨aB, aI, az, aL, aO, aP, e8, e9, bW⟩, hc, H⟩ := H
   try dsimp only at H
   rcases e9 with _ | e5
   rotate_left
   ·rw [if_neg (show ¬ (some e5).isNone = true by simp)] at H
    try dsimp only [Option.getD_some] at H
    try simp only [errW_none, errW_some]
    obtain ⟨rfl, rfl, rfl, rfl, rfl, rfl, rfl, rfl⟩ := ij8_ H
    have mB := ns_ ax
    have mC := ns_ aq
    have mD := ns_ r
    have iV := cells6 l.out
    have mE := ns_ a2
    have mF := ns_ aR
    have jb := cells5 d.out
    obtain ⟨fe, fp, hL⟩ := Kd.R_slice GB.out
    subst hL
    go_wp2_with (first | ((with_reducible refine gF_ 18 rfl ?_); refine gd_ (some 47) Tryz.func18 (paint_All.calls e4 aD aE (fun k_ => some k_ = (.slice fe Y.length fp : Value).ownBlock) _ _ Y ai aF aG ai _ _ ac aB aI az aL aO aP e8 (some e5) bW _ (Kd.R_V (Kd.R_tight rfl (Kd.R_types (Kd.R_types (Kd.R_types (Kd.R_types (GB.out) b.out (by decide)) d.out (by decide)) j.out (by decide)) l.out (by decide)))) (cB_ bZ HB) bY.out hc.out) ?_; rintro e oK ⟨hz, eS, rfl, aA, bq, hb⟩; refine ⟨_, rfl, ?_⟩; replace GA := vb' GA hb; have ay := Z (Kd.V_lower (Kd.V_mono (ok' := fun k_ => (au k_ ∨ w.heap.size ≤ k_) ∧ k_ ≠ F ∧ k_ ≠ I ∧ k_ ≠ q ∧ k_ ≠ a) aA (fun k_ hk_ => ⟨Or.elim hk_ (fun hs_ => (.inr (((Kd.R_types (Kd.R_types (Kd.R_types (Kd.R_types (GB.out) b.out (by decide)) d.out (by decide)) j.out (by decide)) l.out (by decide)).1 k_ hs_.symm).1.1.1.1))) (fun hn_ => (ir_ hn_)), Or.elim hk_ (fun hs_ => ((Kd.R_types (Kd.R_types (Kd.R_types (Kd.R_types (GB.out) b.out (by decide)) d.out (by decide)) j.out (by decide)) l.out (by decide)).1 k_ hs_.symm).1.1.1.2) (fun hn_ => (fb b.out k_ hn_)), Or.elim hk_ (fun hs_ => ((Kd.R_types (Kd.R_types (Kd.R_types (Kd.R_types (GB.out) b.out (by decide)) d.out (by decide)) j.out (by decide)) l.out (by decide)).1 k_ hs_.symm).1.1.2) (fun hn_ => (fb d.out k_ hn_)), Or.elim hk_ (fun hs_ => ((Kd.R_types (Kd.R_types (Kd.R_types (Kd.R_types (GB.out) b.out (by decide)) d.out (by decide)) j.out (by decide)) l.out (by decide)).1 k_ hs_.symm).1.2) (fun hn_ => (fb j.out k_ hn_)), Or.elim hk_ (fun hs_ => ((Kd.R_types (Kd.R_types (Kd.R_types (Kd.R_types (GB.out) b.out (by decide)) d.out (by decide)) j.out (by decide)) l.out (by decide)).1 k_ hs_.symm).2) (fun hn_ => (fb l.out k_ hn_))⟩)) (below_size bl_)); have aC := Z (Kd.V_lower (Kd.V_mono (ok' := fun k_ => (au k_ ∨ w.heap.size ≤ k_) ∧ k_ ≠ F ∧ k_ ≠ I ∧ k_ ≠ q ∧ k_ ≠ a) bq (fun k_ hk_ => ⟨Or.elim hk_ (fun hs_ => (.inr (((Kd.R_types (Kd.R_types (Kd.R_types (Kd.R_types (GB.out) b.out (by decide)) d.out (by decide)) j.out (by decide)) l.out (by decide)).1 k_ hs_.symm).1.1.1.1))) (fun hn_ => (ir_ hn_)), Or.elim hk_ (fun hs_ => ((Kd.R_types (Kd.R_types (Kd.R_types (Kd.R_types (GB.out) b.out (by decide)) d.out (by decide)) j.out (by decide)) l.out (by decide)).1 k_ hs_.symm).1.1.1.2) (fun hn_ => (fb b.out k_ hn_)), Or.elim hk_ (fun hs_ => ((Kd.R_types (Kd.R_types (Kd.R_types (Kd.R_types (GB.out) b.out (by decide)) d.out (by decide)) j.out (by decide)) l.out (by decide)).1 k_ hs_.symm).1.1.2) (fun hn_ => (fb d.out k_ hn_)), Or.elim hk_ (fun hs_ => ((Kd.R_types (Kd.R_types (Kd.R_types (Kd.R_types (GB.out) b.out (by decide)) d.out (by decide)) j.out (by decide)) l.out (by decide)).1 k_ hs_.symm).1.2) (fun hn_ => (fb j.out k_ hn_)), Or.elim hk_ (fun hs_ => ((Kd.R_types (Kd.R_types (Kd.R_types (Kd.R_types (GB.out) b.out (by decide)) d.out (by decide)) j.out (by decide)) l.out (by decide)).1 k_ hs_.symm).2) (fun hn_ => (fb l.out k_ hn_))⟩)) (below_size bl_)); replace GB := rb' GB hb; replace b := kb' b hb; replace d := kb' d hb; replace j := kb' j hb; replace l := kb' l hb; replace HB := bs_ hb; (try clear hb); (try clear hk); (try clear aA); (try clear bq); (try simp only [errW_none, errW_some])) | ((with_reducible refine gD_ 9 rfl ?_); refine bx_ 9 24 zS_ ?_; intro L hg oL hbox hb; replace GA := ve' GA hg hb; replace GB := rb' GB hb; replace ay := ve' ay hg hb; replace aC := ve' aC hg hb; have aQ := Z hbox; have fh := ln' w hg; replace HB := bs_ hb; have a5 := nl' b hg; replace b := kb' b hb; have a6 := nl' d hg; replace d := kb' d hb; have ah := nl' j hg; replace j := kb' j hb; have a7 := nl' l hg; replace l := kb' l hb; clear hb hbox hg; have mG := ns_ a5; have mH := ns_ a6; have mI := ns_ ah; have mJ := ns_ a7; have jg := cells6 aQ.out; obtain ⟨ff, fq, hM⟩ := Kd.V_slice ay.out; subst hM; have mK := ns_ aW; have jm := cells6 b.out; have js := cells6 j.out))
    refine bodyPost_ret (results_ct rfl _ _ q 24 #[.int .i64 G, .int .i64 J, .slice av x.length aw, .int .i64 O, .bool P, .bool Q] (0, 0) _ rfl (put6 (by (with_reducible repeat apply pK); refine blk_far ?_ ah.out _; (with_reducible repeat apply pK); refine blk_far ?_ ah.out _; (with_reducible repeat apply pK); refine blk_far ?_ ah.out _; (with_reducible repeat apply pK); refine blk_far ?_ ah.out _; (with_reducible repeat apply pK); refine blk_far ?_ ah.out _; (with_reducible repeat apply pK); refine blk_far ?_ ah.out _; (with_reducible repeat apply pK); exact j.out)) Tryz.underlying24 rfl (by kernel_rfl)) rfl ?_
    exact ⟨_, _, er_, by (with_reducible repeat apply pV); exact Kd.V_mono (f6V q (f6V L (Kd.V_mono (Kd.V_mono GA.out (fun k_ hk => (⟨hk, hk.2⟩ : _ ∧ k_ ≠ L))) (fun k_ hk => (⟨hk, hk.1.1.2.2.2.2.1⟩ : _ ∧ k_ ≠ q))) im_) im_) im_, by (with_reducible repeat apply pV); exact Kd.V_mono (f6V q (f6V L (Kd.V_mono (Kd.V_mono aC.out (fun k_ hk => (⟨hk, hk.2⟩ : _ ∧ k_ ≠ L))) (fun k_ hk => (⟨hk, hk.1.1.2.2.2.1⟩ : _ ∧ k_ ≠ q))) im_) im_) im_, bl_⟩
   rw [if_pos (show (none : Option Er).isNone = true by rfl)] at H
   try dsimp only [Option.getD_some] at H
   try simp only [errW_none, errW_some]
   by_cases fn : aj = true
   ·subst fn
    rw [if_pos rfl] at H
    replace H := bn_ H
    obtain ⟨⟨bs, bD, bM, bX, ce, cp⟩, l0, H⟩ := H
    try dsimp only at H
    obtain ⟨rfl, rfl, rfl, rfl, rfl, rfl, rfl, rfl⟩ := ij8_ H
    have nJ := ns_ ax
    have nK := ns_ aq
    have nL := ns_ r
    have lA := cells6 l.out
    have nM := ns_ a2
    have nN := ns_ aR
    have lG := cells5 d.out
    obtain ⟨bT, bU, h5⟩ := Kd.R_slice GB.out
    subst h5
    go_wp2_with (first | ((with_reducible refine gF_ 18 rfl ?_); refine gd_ (some 47) Tryz.func18 (paint_All.calls e4 aD aE (fun k_ => some k_ = (.slice bT Y.length bU : Value).ownBlock) _ _ Y ai aF aG ai _ _ ac aB aI az aL aO aP e8 none bW _ (Kd.R_V (Kd.R_tight rfl (Kd.R_types (Kd.R_types (Kd.R_types (Kd.R_types (GB.out) b.out (by decide)) d.out (by decide)) j.out (by decide)) l.out (by decide)))) (cB_ bZ HB) bY.out hc.out) ?_; rintro e o6 ⟨hz, eS, rfl, aA, bq, hb⟩; refine ⟨_, rfl, ?_⟩; replace GA := vb' GA hb; have ay := Z (Kd.V_lower (Kd.V_mono (ok' := fun k_ => (au k_ ∨ w.heap.size ≤ k_) ∧ k_ ≠ F ∧ k_ ≠ I ∧ k_ ≠ q ∧ k_ ≠ a) aA (fun k_ hk_ => ⟨Or.elim hk_ (fun hs_ => (.inr (((Kd.R_types (Kd.R_types (Kd.R_types (Kd.R_types (GB.out) b.out (by decide)) d.out (by decide)) j.out (by decide)) l.out (by decide)).1 k_ hs_.symm).1.1.1.1))) (fun hn_ => (ir_ hn_)), Or.elim hk_ (fun hs_ => ((Kd.R_types (Kd.R_types (Kd.R_types (Kd.R_types (GB.out) b.out (by decide)) d.out (by decide)) j.out (by decide)) l.out (by decide)).1 k_ hs_.symm).1.1.1.2) (fun hn_ => (fb b.out k_ hn_)), Or.elim hk_ (fun hs_ => ((Kd.R_types (Kd.R_types (Kd.R_types (Kd.R_types (GB.out) b.out (by decide)) d.out (by decide)) j.out (by decide)) l.out (by decide)).1 k_ hs_.symm).1.1.2) (fun hn_ => (fb d.out k_ hn_)), Or.elim hk_ (fun hs_ => ((Kd.R_types (Kd.R_types (Kd.R_types (Kd.R_types (GB.out) b.out (by decide)) d.out (by decide)) j.out (by decide)) l.out (by decide)).1 k_ hs_.symm).1.2) (fun hn_ => (fb j.out k_ hn_)), Or.elim hk_ (fun hs_ => ((Kd.R_types (Kd.R_types (Kd.R_types (Kd.R_types (GB.out) b.out (by decide)) d.out (by decide)) j.out (by decide)) l.out (by decide)).1 k_ hs_.symm).2) (fun hn_ => (fb l.out k_ hn_))⟩)) (below_size bl_)); have aC := Z (Kd.V_lower (Kd.V_mono (ok' := fun k_ => (au k_ ∨ w.heap.size ≤ k_) ∧ k_ ≠ F ∧ k_ ≠ I ∧ k_ ≠ q ∧ k_ ≠ a) bq (fun k_ hk_ => ⟨Or.elim hk_ (fun hs_ => (.inr (((Kd.R_types (Kd.R_types (Kd.R_types (Kd.R_types (GB.out) b.out (by decide)) d.out (by decide)) j.out (by decide)) l.out (by decide)).1 k_ hs_.symm).1.1.1.1))) (fun hn_ => (ir_ hn_)), Or.elim hk_ (fun hs_ => ((Kd.R_types (Kd.R_types (Kd.R_types (Kd.R_types (GB.out) b.out (by decide)) d.out (by decide)) j.out (by decide)) l.out (by decide)).1 k_ hs_.symm).1.1.1.2) (fun hn_ => (fb b.out k_ hn_)), Or.elim hk_ (fun hs_ => ((Kd.R_types (Kd.R_types (Kd.R_types (Kd.R_types (GB.out) b.out (by decide)) d.out (by decide)) j.out (by decide)) l.out (by decide)).1 k_ hs_.symm).1.1.2) (fun hn_ => (fb d.out k_ hn_)), Or.elim hk_ (fun hs_ => ((Kd.R_types (Kd.R_types (Kd.R_types (Kd.R_types (GB.out) b.out (by decide)) d.out (by decide)) j.out (by decide)) l.out (by decide)).1 k_ hs_.symm).1.2) (fun hn_ => (fb j.out k_ hn_)), Or.elim hk_ (fun hs_ => ((Kd.R_types (Kd.R_types (Kd.R_types (Kd.R_types (GB.out) b.out (by decide)) d.out (by decide)) j.out (by decide)) l.out (by decide)).1 k_ hs_.symm).2) (fun hn_ => (fb l.out k_ hn_))⟩)) (below_size bl_)); replace GB := rb' GB hb; replace b := kb' b hb; replace d := kb' d hb; replace j := kb' j hb; replace l := kb' l hb; replace HB := bs_ hb; (try clear hb); (try clear hk); (try clear aA); (try clear bq); (try simp only [errW_none, errW_some])) | ((with_reducible refine gD_ 9 rfl ?_); refine bx_ 9 24 zS_ ?_; intro L hg nf hbox hb; replace GA := ve' GA hg hb; replace GB := rb' GB hb; replace ay := ve' ay hg hb; replace aC := ve' aC hg hb; have aQ := Z hbox; have fh := ln' w hg; replace HB := bs_ hb; have a5 := nl' b hg; replace b := kb' b hb; have a6 := nl' d hg; replace d := kb' d hb; have ah := nl' j hg; replace j := kb' j hb; have a7 := nl' l hg; replace l := kb' l hb; clear hb hbox hg; have nO := ns_ a5; have nP := ns_ a6; have nQ := ns_ ah; have nR := ns_ a7; have fL := cells6 aQ.out; obtain ⟨bF, bG, h6⟩ := Kd.V_slice ay.out; subst h6) | ((with_reducible refine gate_store (t := 24) (p := 9) rfl ?_); (with_reducible refine gateW_ nf ?_); refine sx_ 24 9 ((((((nf.setCell ⟨L, 0, none⟩ (.int .i64 aB)).setCell ⟨L, 1, none⟩ (.int .i64 aI)).setCell ⟨L, 2, none⟩ (.slice bF az.length bG)).setCell ⟨L, 3, none⟩ (.int .i64 aL)).setCell ⟨L, 4, none⟩ (.bool aO)).setCell ⟨L, 5, none⟩ (.bool aP)) ?_ rfl rfl rfl (by refine stS_ rfl ?_ ?_ aQ.out <;> rfl); intro bN hw; have z : Aside0 (Kd.V k47 47 bN w.heap.size (fun k_ => (au k_ ∨ w.heap.size ≤ k_) ∧ some k_ ≠ (.slice bT Y.length bU : Value).ownBlock ∧ k_ ≠ F ∧ k_ ≠ I ∧ k_ ≠ q ∧ k_ ≠ a ∧ k_ ≠ L) (.slice av x.length aw) x) := ⟨(by rw [hw]; exact (by (with_reducible repeat apply pV); exact V_off GA.out (fun k_ hk => hk.2) off2_ (fun _ hk => ⟨hk.1.1, ⟨hk.1.2.1, ⟨hk.1.2.2.1, ⟨hk.1.2.2.2.1, ⟨hk.1.2.2.2.2.1, ⟨hk.1.2.2.2.2.2, hk.2⟩⟩⟩⟩⟩⟩)))⟩; have A : Aside0 (Kd.R k47 47 bN w.heap.size (fun k_ => (w.heap.size ≤ k_)) (.slice bT Y.length bU) Y) := ⟨(by rw [hw]; exact (by (with_reducible repeat apply pR); exact R_off GB.out aQ.out (by decide) off2_))⟩; have B : Aside0 (Kd.V k47 47 bN w.heap.size (fun k_ => (au k_ ∨ w.heap.size ≤ k_) ∧ k_ ≠ F ∧ k_ ≠ I ∧ k_ ≠ q ∧ k_ ≠ a ∧ k_ ≠ L) (.slice bF az.length bG) az) := ⟨(by rw [hw]; exact (by (with_reducible repeat apply pV); exact V_off ay.out (fun k_ hk => hk.2) off2_ (fun _ hk => ⟨hk.1.1, ⟨hk.1.2.1, ⟨hk.1.2.2.1, ⟨hk.1.2.2.2.1, ⟨hk.1.2.2.2.2, hk.2⟩⟩⟩⟩⟩)))⟩; have D : Aside0 (Kd.V k177 177 bN w.heap.size (fun k_ => (au k_ ∨ w.heap.size ≤ k_) ∧ k_ ≠ F ∧ k_ ≠ I ∧ k_ ≠ q ∧ k_ ≠ a ∧ k_ ≠ L) eS bW) := ⟨(by rw [hw]; exact (by (with_reducible repeat apply pV); exact V_off aC.out (fun k_ hk => hk.2) off2_ (fun _ hk => ⟨hk.1.1, ⟨hk.1.2.1, ⟨hk.1.2.2.1, ⟨hk.1.2.2.2.1, ⟨hk.1.2.2.2.2, hk.2⟩⟩⟩⟩⟩)))⟩; have E : Aside0 (bN.heap[F]? = some (.cells #[.int .i64 G, .int .i64 J, .slice av x.length aw, .int .i64 O, .bool P, .bool Q] 24 (0, 0))) := ⟨by rw [hw]; exact (blk_off b.out a5.out off2_)⟩; have U : Aside0 (bN.heap[I]? = some (.cells #[.int .i64 y, .bool am, .bool true, .bool ar, .slice aU ac.length aV] 29 (0, 0))) := ⟨by rw [hw]; exact (blk_off d.out a6.out off2_)⟩; have W : Aside0 (bN.heap[q]? = some (.cells zS_ 24 (0, 0))) := ⟨by rw [hw]; exact (blk_off j.out ah.out off2_)⟩; have ae : Aside0 (bN.heap[a]? = some (.cells #[.int .i64 aD, .int .i64 aE, .slice bT Y.length bU, .int .i64 ai, .bool aF, .bool aG] 24 (0, 0))) := ⟨by rw [hw]; exact (blk_off l.out a7.out off2_)⟩; have ao : Aside0 (bN.heap[L]? = some (.cells #[.int .i64 aB, .int .i64 aI, .slice bF az.length bG, .int .i64 aL, .bool aO, .bool aP] 24 (0, 0))) := ⟨by rw [hw]; exact (put6 aQ.out)⟩; have aM : Aside0 (Below w.heap.size w bN) := ⟨by rw [hw]; exact bl_⟩; clear hw GA GB ay aC b d j l aQ HB; have GA := z; have GB := A; have ay := B; have aC := D; have b := E; have d := U; have j := W; have l := ae; have aQ := ao; have HB := aM; clear z A B D E U W ae ao aM; (try clear fL); (try skip); (try skip); (try skip); (try skip); (try skip); (try skip); (try skip); (try skip); (try skip); (try skip); (try skip); have fR := cells6 aQ.out; have fX := cells6 l.out) | ((with_reducible refine gate_store (t := 24) (p := 8) rfl ?_); (with_reducible refine gateW_ bN ?_); refine sx_ 24 8 ((((((bN.setCell ⟨a, 0, none⟩ (.int .i64 aB)).setCell ⟨a, 1, none⟩ (.int .i64 aI)).setCell ⟨a, 2, none⟩ (.slice bF az.length bG)).setCell ⟨a, 3, none⟩ (.int .i64 aL)).setCell ⟨a, 4, none⟩ (.bool aO)).setCell ⟨a, 5, none⟩ (.bool aP)) ?_ rfl rfl rfl (by refine stS_ rfl ?_ ?_ l.out <;> rfl); intro bS hw; have z : Aside0 (Kd.V k47 47 bS w.heap.size (fun k_ => (au k_ ∨ w.heap.size ≤ k_) ∧ some k_ ≠ (.slice bT Y.length bU : Value).ownBlock ∧ k_ ≠ F ∧ k_ ≠ I ∧ k_ ≠ q ∧ k_ ≠ a ∧ k_ ≠ L) (.slice av x.length aw) x) := ⟨(by rw [hw]; exact (by (with_reducible repeat apply pV); exact V_off GA.out (fun k_ hk => hk.2.2.2.2.2.1) off2_ (fun _ hk => ⟨hk.1, ⟨hk.2.1, ⟨hk.2.2.1, ⟨hk.2.2.2.1, ⟨hk.2.2.2.2.1, ⟨hk.2.2.2.2.2.1, hk.2.2.2.2.2.2⟩⟩⟩⟩⟩⟩)))⟩; have A : Aside0 (Kd.R k47 47 bS w.heap.size (fun k_ => (w.heap.size ≤ k_)) (.slice bT Y.length bU) Y) := ⟨(by rw [hw]; exact (by (with_reducible repeat apply pR); exact R_off GB.out l.out (by decide) off2_))⟩; have B : Aside0 (Kd.V k47 47 bS w.heap.size (fun k_ => (au k_ ∨ w.heap.size ≤ k_) ∧ k_ ≠ F ∧ k_ ≠ I ∧ k_ ≠ q ∧ k_ ≠ a ∧ k_ ≠ L) (.slice bF az.length bG) az) := ⟨(by rw [hw]; exact (by (with_reducible repeat apply pV); exact V_off ay.out (fun k_ hk => hk.2.2.2.2.1) off2_ (fun _ hk => ⟨hk.1, ⟨hk.2.1, ⟨hk.2.2.1, ⟨hk.2.2.2.1, ⟨hk.2.2.2.2.1, hk.2.2.2.2.2⟩⟩⟩⟩⟩)))⟩; have D : Aside0 (Kd.V k177 177 bS w.heap.size (fun k_ => (au k_ ∨ w.heap.size ≤ k_) ∧ k_ ≠ F ∧ k_ ≠ I ∧ k_ ≠ q ∧ k_ ≠ a ∧ k_ ≠ L) eS bW) := ⟨(by rw [hw]; exact (by (with_reducible repeat apply pV); exact V_off aC.out (fun k_ hk => hk.2.2.2.2.1) off2_ (fun _ hk => ⟨hk.1, ⟨hk.2.1, ⟨hk.2.2.1, ⟨hk.2.2.2.1, ⟨hk.2.2.2.2.1, hk.2.2.2.2.2⟩⟩⟩⟩⟩)))⟩; have E : Aside0 (bS.heap[F]? = some (.cells #[.int .i64 G, .int .i64 J, .slice av x.length aw, .int .i64 O, .bool P, .bool Q] 24 (0, 0))) := ⟨by rw [hw]; exact (blk_off b.out ax.out off2_)⟩; have U : Aside0 (bS.heap[I]? = some (.cells #[.int .i64 y, .bool am, .bool true, .bool ar, .slice aU ac.length aV] 29 (0, 0))) := ⟨by rw [hw]; exact (blk_off d.out aq.out off2_)⟩; have W : Aside0 (bS.heap[q]? = some (.cells zS_ 24 (0, 0))) := ⟨by rw [hw]; exact (blk_off j.out r.out off2_)⟩; have ae : Aside0 (bS.heap[a]? = some (.cells #[.int .i64 aB, .int .i64 aI, .slice bF az.length bG, .int .i64 aL, .bool aO, .bool aP] 24 (0, 0))) := ⟨by rw [hw]; exact (put6 l.out)⟩; have ao : Aside0 (bS.heap[L]? = some (.cells #[.int .i64 aB, .int .i64 aI, .slice bF az.length bG, .int .i64 aL, .bool aO, .bool aP] 24 (0, 0))) := ⟨by rw [hw]; exact (blk_off aQ.out a7.out.symm off2_)⟩; have aM : Aside0 (Below w.heap.size w bS) := ⟨by rw [hw]; exact bl_⟩; clear hw GA GB ay aC b d j l aQ HB; have GA := z; have GB := A; have ay := B; have aC := D; have b := E; have d := U; have j := W; have l := ae; have aQ := ao; have HB := aM; clear z A B D E U W ae ao aM; (try clear fR); (try skip); (try skip); (try skip); (try skip); (try skip); (try skip); (try skip); (try skip); (try skip); (try skip); (try skip); (try clear fX); (try skip); (try skip); (try skip); (try skip); (try skip); (try skip); (try skip); (try skip); (try skip); (try skip); (try skip); have gd := cells5 d.out; have gi := cells6 l.out) | ((with_reducible refine gF_ 19 rfl ?_); refine gd_ (some 60) Tryz.func19 (host_unlocked.calls aB aI (fun k_ => ((au k_ ∨ w.heap.size ≤ k_) ∧ (k_ ≠ F ∧ (k_ ≠ I ∧ (k_ ≠ q ∧ (k_ ≠ a ∧ k_ ≠ L)))))) _ _ az aL aO aP bs bD bM bX ce cp _ ay.out l0.out) ?_; rintro e oH ⟨oG, rfl, aA, hb⟩; refine ⟨_, rfl, ?_⟩; replace GA := vb' GA hb; replace GB := rb' GB hb; replace ay := vb' ay hb; replace aC := vb' aC hb; have fk := Z (Kd.V_lower (Kd.V_mono (ok' := fun k_ => (au k_ ∨ w.heap.size ≤ k_) ∧ k_ ≠ F ∧ k_ ≠ I ∧ k_ ≠ q ∧ k_ ≠ a ∧ k_ ≠ L) aA (fun k_ hk_ => hk_.elim (fun hs_ => ⟨hs_.1, hs_.2.1, hs_.2.2.1, hs_.2.2.2.1, hs_.2.2.2.2.1, hs_.2.2.2.2.2⟩) (fun hn_ => ⟨(ir_ hn_), (fb b.out k_ hn_), (fb d.out k_ hn_), (fb j.out k_ hn_), (fb l.out k_ hn_), (fb aQ.out k_ hn_)⟩))) (below_size bl_)); replace b := kb' b hb; replace d := kb' d hb; replace j := kb' j hb; replace l := kb' l hb; replace aQ := kb' aQ hb; replace HB := bs_ hb; (try clear hb); (try clear hk); (try clear aA); (try clear gd); (try skip); (try skip); (try skip); (try skip); (try skip); (try skip); (try skip); (try skip); (try skip); (try clear gi); (try skip); (try skip); (try skip); (try skip); (try skip); (try skip); (try skip); (try skip); (try skip); (try skip); (try skip); have h8 := cells6 l.out; obtain ⟨bO, bQ, hH⟩ := Kd.V_slice fk.out; subst hH; have mq := ns_ aW; have ie := cells6 j.out))
    refine bodyPost_ret (results_ct rfl _ _ q 24 #[.int .i64 bs, .int .i64 bD, .slice bO bM.length bQ, .int .i64 bX, .bool ce, .bool cp] (0, 0) _ rfl (put6 (by (with_reducible repeat apply pK); refine blk_far ?_ r.out _; (with_reducible repeat apply pK); refine blk_far ?_ r.out _; (with_reducible repeat apply pK); refine blk_far ?_ r.out _; (with_reducible repeat apply pK); refine blk_far ?_ r.out _; (with_reducible repeat apply pK); refine blk_far ?_ r.out _; (with_reducible repeat apply pK); refine blk_far ?_ r.out _; (with_reducible repeat apply pK); exact j.out)) Tryz.underlying24 rfl (by kernel_rfl)) rfl ?_
    exact ⟨_, _, er_, by (with_reducible repeat apply pV); exact Kd.V_mono (f6V q (f6V a (Kd.V_mono (Kd.V_mono fk.out (fun k_ hk => (⟨hk, hk.2.2.2.2.1⟩ : _ ∧ k_ ≠ a))) (fun k_ hk => (⟨hk, hk.1.2.2.2.1⟩ : _ ∧ k_ ≠ q))) im_) im_) im_, Kd.R_V (Kd.R_nil _ _ _ 0 _), bl_⟩
   replace fn := Bool.eq_false_iff.mpr fn
   subst fn
   rw [iF_] at H
   obtain ⟨rfl, rfl, rfl, rfl, rfl, rfl, rfl, rfl⟩ := ij8_ H
   have mr := ns_ ax
   have ms := ns_ aq
   have mt := ns_ r
   have il := cells6 l.out
   have mu := ns_ a2
   have mv := ns_ aR
   have it := cells5 d.out
   obtain ⟨fd, fo, hI⟩ := Kd.R_slice GB.out
   subst hI
   go_wp2_with (first | ((with_reducible refine gF_ 18 rfl ?_); refine gd_ (some 47) Tryz.func18 (paint_All.calls e4 aD aE (fun k_ => some k_ = (.slice fd Y.length fo : Value).ownBlock) _ _ Y ai aF aG ai _ _ ac aB aI az aL aO aP e8 none bW _ (Kd.R_V (Kd.R_tight rfl (Kd.R_types (Kd.R_types (Kd.R_types (Kd.R_types (GB.out) b.out (by decide)) d.out (by decide)) j.out (by decide)) l.out (by decide)))) (cB_ bZ HB) bY.out hc.out) ?_; rintro e oI ⟨hz, eS, rfl, aA, bq, hb⟩; refine ⟨_, rfl, ?_⟩; replace GA := vb' GA hb; have ay := Z (Kd.V_lower (Kd.V_mono (ok' := fun k_ => (au k_ ∨ w.heap.size ≤ k_) ∧ k_ ≠ F ∧ k_ ≠ I ∧ k_ ≠ q ∧ k_ ≠ a) aA (fun k_ hk_ => ⟨Or.elim hk_ (fun hs_ => (.inr (((Kd.R_types (Kd.R_types (Kd.R_types (Kd.R_types (GB.out) b.out (by decide)) d.out (by decide)) j.out (by decide)) l.out (by decide)).1 k_ hs_.symm).1.1.1.1))) (fun hn_ => (ir_ hn_)), Or.elim hk_ (fun hs_ => ((Kd.R_types (Kd.R_types (Kd.R_types (Kd.R_types (GB.out) b.out (by decide)) d.out (by decide)) j.out (by decide)) l.out (by decide)).1 k_ hs_.symm).1.1.1.2) (fun hn_ => (fb b.out k_ hn_)), Or.elim hk_ (fun hs_ => ((Kd.R_types (Kd.R_types (Kd.R_types (Kd.R_types (GB.out) b.out (by decide)) d.out (by decide)) j.out (by decide)) l.out (by decide)).1 k_ hs_.symm).1.1.2) (fun hn_ => (fb d.out k_ hn_)), Or.elim hk_ (fun hs_ => ((Kd.R_types (Kd.R_types (Kd.R_types (Kd.R_types (GB.out) b.out (by decide)) d.out (by decide)) j.out (by decide)) l.out (by decide)).1 k_ hs_.symm).1.2) (fun hn_ => (fb j.out k_ hn_)), Or.elim hk_ (fun hs_ => ((Kd.R_types (Kd.R_types (Kd.R_types (Kd.R_types (GB.out) b.out (by decide)) d.out (by decide)) j.out (by decide)) l.out (by decide)).1 k_ hs_.symm).2) (fun hn_ => (fb l.out k_ hn_))⟩)) (below_size bl_)); have aC := Z (Kd.V_lower (Kd.V_mono (ok' := fun k_ => (au k_ ∨ w.heap.size ≤ k_) ∧ k_ ≠ F ∧ k_ ≠ I ∧ k_ ≠ q ∧ k_ ≠ a) bq (fun k_ hk_ => ⟨Or.elim hk_ (fun hs_ => (.inr (((Kd.R_types (Kd.R_types (Kd.R_types (Kd.R_types (GB.out) b.out (by decide)) d.out (by decide)) j.out (by decide)) l.out (by decide)).1 k_ hs_.symm).1.1.1.1))) (fun hn_ => (ir_ hn_)), Or.elim hk_ (fun hs_ => ((Kd.R_types (Kd.R_types (Kd.R_types (Kd.R_types (GB.out) b.out (by decide)) d.out (by decide)) j.out (by decide)) l.out (by decide)).1 k_ hs_.symm).1.1.1.2) (fun hn_ => (fb b.out k_ hn_)), Or.elim hk_ (fun hs_ => ((Kd.R_types (Kd.R_types (Kd.R_types (Kd.R_types (GB.out) b.out (by decide)) d.out (by decide)) j.out (by decide)) l.out (by decide)).1 k_ hs_.symm).1.1.2) (fun hn_ => (fb d.out k_ hn_)), Or.elim hk_ (fun hs_ => ((Kd.R_types (Kd.R_types (Kd.R_types (Kd.R_types (GB.out) b.out (by decide)) d.out (by decide)) j.out (by decide)) l.out (by decide)).1 k_ hs_.symm).1.2) (fun hn_ => (fb j.out k_ hn_)), Or.elim hk_ (fun hs_ => ((Kd.R_types (Kd.R_types (Kd.R_types (Kd.R_types (GB.out) b.out (by decide)) d.out (by decide)) j.out (by decide)) l.out (by decide)).1 k_ hs_.symm).2) (fun hn_ => (fb l.out k_ hn_))⟩)) (below_size bl_)); replace GB := rb' GB hb; replace b := kb' b hb; replace d := kb' d hb; replace j := kb' j hb; replace l := kb' l hb; replace HB := bs_ hb; (try clear hb); (try clear hk); (try clear aA); (try clear bq); (try simp only [errW_none, errW_some])) | ((with_reducible refine gD_ 9 rfl ?_); refine bx_ 9 24 zS_ ?_; intro L hg oJ hbox hb; replace GA := ve' GA hg hb; replace GB := rb' GB hb; replace ay := ve' ay hg hb; replace aC := ve' aC hg hb; have aQ := Z hbox; have fh := ln' w hg; replace HB := bs_ hb; have a5 := nl' b hg; replace b := kb' b hb; have a6 := nl' d hg; replace d := kb' d hb; have ah := nl' j hg; replace j := kb' j hb; have a7 := nl' l hg; replace l := kb' l hb; clear hb hbox hg; have mw := ns_ a5; have mx := ns_ a6; have my := ns_ ah; have mz := ns_ a7; have iy := cells6 aQ.out; obtain ⟨bt, bx, hJ⟩ := Kd.V_slice ay.out; subst hJ; have iE := cells6 l.out; have iK := cells5 d.out; have mA := ns_ aW; have iP := cells6 j.out))
   refine bodyPost_ret (results_ct rfl _ _ q 24 #[.int .i64 aB, .int .i64 aI, .slice bt az.length bx, .int .i64 aL, .bool aO, .bool aP] (0, 0) _ rfl (put6 (by (with_reducible repeat apply pK); refine blk_far ?_ r.out _; (with_reducible repeat apply pK); refine blk_far ?_ r.out _; (with_reducible repeat apply pK); refine blk_far ?_ r.out _; (with_reducible repeat apply pK); refine blk_far ?_ r.out _; (with_reducible repeat apply pK); refine blk_far ?_ r.out _; (with_reducible repeat apply pK); refine blk_far ?_ r.out _; (with_reducible repeat apply pK); refine blk_far ?_ ah.out _; (with_reducible repeat apply pK); refine blk_far ?_ ah.out _; (with_reducible repeat apply pK); refine blk_far ?_ ah.out _; (with_reducible repeat apply pK); refine blk_far ?_ ah.out _; (with_reducible repeat apply pK); refine blk_far ?_ ah.out _; (with_reducible repeat apply pK); refine blk_far ?_ ah.out _; (with_reducible repeat apply pK); exact j.out)) Tryz.underlying24 rfl (by kernel_rfl)) rfl ?_
   exact ⟨_, _, er_, by (with_reducible repeat apply pV); exact Kd.V_mono (f6V q (f6V a (f6V L (Kd.V_mono (Kd.V_mono (Kd.V_mono ay.out (fun k_ hk => (⟨hk, hk.2⟩ : _ ∧ k_ ≠ L))) (fun k_ hk => (⟨hk, hk.1.1.2.2.2.2⟩ : _ ∧ k_ ≠ a))) (fun k_ hk => (⟨hk, hk.1.1.1.2.2.2.1⟩ : _ ∧ k_ ≠ q))) im_) im_) im_) im_, Kd.R_V (Kd.R_nil _ _ _ 0 _), bl_⟩
end Go.Proofs.YtphboakgkmjpbaaGreatDoor.P
