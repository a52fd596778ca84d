/- pp.py and press2.py (wip/tools) wrote this text. -/
import Derived.Test.YtggecanpjkpkiaaDoorPx0
import Derived.Test.YtggecanpjkpkiaaDoorPxS
import Derived.Test.YtggecanpjkpkiaaDoorPx9
import Derived.Test.YtggecanpjkpkiaaDoorPx20
import Derived.Test.YtggecanpjkpkiaaDoorPx21
import Derived.Test.YtggecanpjkpkiaaDoorPx31
import Derived.Test.YtggecanpjkpkiaaDoorPx32
import Derived.Test.YtggecanpjkpkiaaDoorPx33
namespace Go.Proofs.YtggecanpjkpkiaaDoor.P
open Go.RowKit Go.Proofs.YtggecanpjkpkiaaDoorW.PrintWords Go.Proofs.YtggecanpjkpkiaaDoorW.PrintLast Go.Proofs.YtggecanpjkpkiaaDoorW.PrintMore
attribute [local go_sem] max2_int min2_int max_two min_two max_three min_three max_four min_four
attribute [local go_sem] Instr.field asAgg
set_option linter.unusedVariables false
set_option linter.unusedSimpArgs false

/-! ### keys_plain: function 65 -/
def keys_plain.j0 : Nat → Bool → Int → Int → List (S35) → Int → Bool → Bool → Int → Int → Option (Int × Int × (List (S35)) × Int × Bool × Bool × Option Er × (List (S164)))
 | 0, _, _, _, _, _, _, _, _, _ => none
 | k + 1, l, b, c, d, e, g, h, i, j => if l = true then ((keys_set.f k b c d e g h i).bind fun a => (some (a.1, a.2.1, a.2.2.1, a.2.2.2.1, a.2.2.2.2.1, a.2.2.2.2.2.1, a.2.2.2.2.2.2.1, a.2.2.2.2.2.2.2))) else (some (b, c, d, e, g, h, some (Er.num 1), ([] : List (S164))))
def keys_plain.f (k : Nat) (h : Int) (i : Int) (n : List (S35)) (j : Int) (l : Bool) (m : Bool) (g : Int) (o : Int) : Option (Int × Int × (List (S35)) × Int × Bool × Bool × Option Er × (List (S164))) := (move_Moves.f g).bind fun p => (if p = true then ((move_Do.f k h i n j l m g).bind fun a => (some (a.1, a.2.1, a.2.2.1, a.2.2.2.1, a.2.2.2.2.1, a.2.2.2.2.2.1, a.2.2.2.2.2.2.1, a.2.2.2.2.2.2.2))) else ((wipe_Wipes.f g).bind fun q => (if q = true then ((wipe_Do.f k h i n j l m g).bind fun b => (some (b.1, b.2.1, b.2.2.1, b.2.2.2.1, b.2.2.2.2.1, b.2.2.2.2.2.1, b.2.2.2.2.2.2.1, b.2.2.2.2.2.2.2))) else (if g = 11 then ((edit_Type.f k h i n j l m 30).bind fun c => (some (c.1, c.2.1, c.2.2.1, c.2.2.2.1, c.2.2.2.2.1, c.2.2.2.2.2.1, c.2.2.2.2.2.2.1, c.2.2.2.2.2.2.2))) else (if g = 1 then ((edit_Type.f k h i n j l m o).bind fun d => (some (d.1, d.2.1, d.2.2.1, d.2.2.2.1, d.2.2.2.2.1, d.2.2.2.2.2.1, d.2.2.2.2.2.2.1, d.2.2.2.2.2.2.2))) else (if g = 10 then ((keys_dup.f k h i n j l m).bind fun e => (some (e.1, e.2.1, e.2.2.1, e.2.2.2.1, e.2.2.2.2.1, e.2.2.2.2.2.1, e.2.2.2.2.2.2.1, e.2.2.2.2.2.2.2))) else (if g = 15 then (keys_plain.j0 k (g == 15) h i n j l m g o) else (keys_plain.j0 k (g == 16) h i n j l m g o))))))))
theorem keys_plain.mono_l : ∀ k, (∀ b c d e f g i j l, LeO (keys_plain.j0 k b c d e f g i j l) (keys_plain.j0 (k + 1) b c d e f g i j l))
 | 0 => fun _ _ _ _ _ _ _ _ _ r h => by simp [keys_plain.j0] at h
 | k + 1 => by
  have a := keys_plain.mono_l k
  ·intro b c d e f g i j l
   unfold keys_plain.j0
   repeat' first
   | (with_reducible exact a _ _ _ _ _ _ _ _ _)
   | (with_reducible exact edit_Type.mono _ _ _ _ _ _ _ _)
   | (with_reducible exact keys_dup.mono _ _ _ _ _ _ _)
   | (with_reducible exact keys_set.mono _ _ _ _ _ _ _ _)
   | (with_reducible exact move_Do.mono _ _ _ _ _ _ _ _)
   | (with_reducible exact wipe_Do.mono _ _ _ _ _ _ _ _)
   | (with_reducible exact LeO.refl _)
   | (with_reducible exact LeO.none _)
   | (with_reducible refine LeO.ite ?_ ?_)
   | (with_reducible refine LeO.bind ?_ (fun _ => ?_))
   | exact a _ _ _ _ _ _ _ _ _
   | exact edit_Type.mono _ _ _ _ _ _ _ _
   | exact keys_dup.mono _ _ _ _ _ _ _
   | exact keys_set.mono _ _ _ _ _ _ _ _
   | exact move_Do.mono _ _ _ _ _ _ _ _
   | exact wipe_Do.mono _ _ _ _ _ _ _ _
   | exact LeO.none _
   | refine LeO.ite ?_ ?_
   | refine LeO.bind ?_ (fun _ => ?_)
theorem keys_plain.mono : ∀ a0 a1 b c a4 d e g k, LeO (keys_plain.f k a0 a1 b c a4 d e g) (keys_plain.f (k + 1) a0 a1 b c a4 d e g) := by
 intro a0 a1 b c a4 d e g k
 have a := keys_plain.mono_l k
 unfold keys_plain.f
 repeat' first
   | (with_reducible exact a _ _ _ _ _ _ _ _ _)
   | (with_reducible exact edit_Type.mono _ _ _ _ _ _ _ _)
   | (with_reducible exact keys_dup.mono _ _ _ _ _ _ _)
   | (with_reducible exact keys_set.mono _ _ _ _ _ _ _ _)
   | (with_reducible exact move_Do.mono _ _ _ _ _ _ _ _)
   | (with_reducible exact wipe_Do.mono _ _ _ _ _ _ _ _)
   | (with_reducible exact LeO.refl _)
   | (with_reducible exact LeO.none _)
   | (with_reducible refine LeO.ite ?_ ?_)
   | (with_reducible refine LeO.bind ?_ (fun _ => ?_))
   | exact a _ _ _ _ _ _ _ _ _
   | exact edit_Type.mono _ _ _ _ _ _ _ _
   | exact keys_dup.mono _ _ _ _ _ _ _
   | exact keys_set.mono _ _ _ _ _ _ _ _
   | exact move_Do.mono _ _ _ _ _ _ _ _
   | exact wipe_Do.mono _ _ _ _ _ _ _ _
   | exact LeO.none _
   | refine LeO.ite ?_ ?_
   | refine LeO.bind ?_ (fun _ => ?_)
set_option maxHeartbeats 8000000 in
set_option maxRecDepth 100000 in
theorem keys_plain.calls (k : Nat) (u : Int) (x : Int) (F : Nat → Prop) (M : Option Addr) (O : Nat) (j : List (S35)) (y : Int) (z : Bool) (A : Bool) (g : Int) (R : Int) (r1 : Int) (r2 : Int) (r3 : List (S35)) (r4 : Int) (r5 : Bool) (r6 : Bool) (r7 : Option Er) (r8 : List (S164)) (w : World) (eO : Kd.V k35 35 w w.heap.size (fun k_ => F k_) (.slice M j.length O) j) (h : keys_plain.f k u x j y z A g R = some (r1, r2, r3, r4, r5, r6, r7, r8)) :
  Calls Tryd.prog 65 #[.agg #[.int .i64 u, .int .i64 x, .slice M j.length O, .int .i64 y, .bool z, .bool A], .agg #[.int .i64 g, .int .u8 R]] w fun e w' => ∃ eR eS : Value, e = .returned (.tuple #[.agg #[.int .i64 r1, .int .i64 r2, eR, .int .i64 r4, .bool r5, .bool r6], errW eS r7]) ∧ Kd.V k35 35 w' w.heap.size (fun k_ => (F k_ ∨ w.heap.size ≤ k_)) eR r3 ∧ Kd.V k164 164 w' w.heap.size (fun k_ => (F k_ ∨ w.heap.size ≤ k_)) eS r8 ∧ Below w.heap.size w w' := by
 have g4 := Tryd.underlying24
 have g7 := Tryd.underlying58
 have g5 := Tryd.underlying28
 have g6 := Tryd.underlying52
 have d := Z (show Kd.V k35 35 w w.heap.size (fun k_ => (F k_ ∨ w.heap.size ≤ k_)) (.slice M j.length O) j from Kd.V_mono eO (fun k_ hk => .inl hk))
 have HB := Z (Below.refl w.heap.size w)
 have H : ((move_Moves.f g).bind fun bh => (if bh = true then ((move_Do.f k u x j y z A g).bind fun J => (some (J.1, J.2.1, J.2.2.1, J.2.2.2.1, J.2.2.2.2.1, J.2.2.2.2.2.1, J.2.2.2.2.2.2.1, J.2.2.2.2.2.2.2))) else ((wipe_Wipes.f g).bind fun al => (if al = true then ((wipe_Do.f k u x j y z A g).bind fun B => (some (B.1, B.2.1, B.2.2.1, B.2.2.2.1, B.2.2.2.2.1, B.2.2.2.2.2.1, B.2.2.2.2.2.2.1, B.2.2.2.2.2.2.2))) else (if g = 11 then ((edit_Type.f k u x j y z A 30).bind fun C => (some (C.1, C.2.1, C.2.2.1, C.2.2.2.1, C.2.2.2.2.1, C.2.2.2.2.2.1, C.2.2.2.2.2.2.1, C.2.2.2.2.2.2.2))) else (if g = 1 then ((edit_Type.f k u x j y z A R).bind fun D => (some (D.1, D.2.1, D.2.2.1, D.2.2.2.1, D.2.2.2.2.1, D.2.2.2.2.2.1, D.2.2.2.2.2.2.1, D.2.2.2.2.2.2.2))) else (if g = 10 then ((keys_dup.f k u x j y z A).bind fun E => (some (E.1, E.2.1, E.2.2.1, E.2.2.2.1, E.2.2.2.2.1, E.2.2.2.2.2.1, E.2.2.2.2.2.2.1, E.2.2.2.2.2.2.2))) else (if g = 15 then (keys_plain.j0 k (g == 15) u x j y z A g R) else (keys_plain.j0 k (g == 16) u x j y z A g R))))))))) = some (r1, r2, r3, r4, r5, r6, r7, r8) := h
 clear h
 replace H := Option.bind_eq_some_iff.mp H
 obtain ⟨bh, eP, H⟩ := H
 replace H : (if bh = true then ((move_Do.f k u x j y z A g).bind fun J => (some (J.1, J.2.1, J.2.2.1, J.2.2.2.1, J.2.2.2.2.1, J.2.2.2.2.2.1, J.2.2.2.2.2.2.1, J.2.2.2.2.2.2.2))) else ((wipe_Wipes.f g).bind fun al => (if al = true then ((wipe_Do.f k u x j y z A g).bind fun B => (some (B.1, B.2.1, B.2.2.1, B.2.2.2.1, B.2.2.2.2.1, B.2.2.2.2.2.1, B.2.2.2.2.2.2.1, B.2.2.2.2.2.2.2))) else (if g = 11 then ((edit_Type.f k u x j y z A 30).bind fun C => (some (C.1, C.2.1, C.2.2.1, C.2.2.2.1, C.2.2.2.2.1, C.2.2.2.2.2.1, C.2.2.2.2.2.2.1, C.2.2.2.2.2.2.2))) else (if g = 1 then ((edit_Type.f k u x j y z A R).bind fun D => (some (D.1, D.2.1, D.2.2.1, D.2.2.2.1, D.2.2.2.2.1, D.2.2.2.2.2.1, D.2.2.2.2.2.2.1, D.2.2.2.2.2.2.2))) else (if g = 10 then ((keys_dup.f k u x j y z A).bind fun E => (some (E.1, E.2.1, E.2.2.1, E.2.2.2.1, E.2.2.2.2.1, E.2.2.2.2.2.1, E.2.2.2.2.2.2.1, E.2.2.2.2.2.2.2))) else (if g = 15 then (keys_plain.j0 k (g == 15) u x j y z A g R) else (keys_plain.j0 k (g == 16) u x j y z A g R)))))))) = some (r1, r2, r3, r4, r5, r6, r7, r8) := H
 have A3 := Z eP
 clear eP
 by_cases c4 : bh = true
 ·subst c4
  have H1 : ((move_Do.f k u x j y z A g).bind fun J => (some (J.1, J.2.1, J.2.2.1, J.2.2.2.1, J.2.2.2.2.1, J.2.2.2.2.2.1, J.2.2.2.2.2.2.1, J.2.2.2.2.2.2.2))) = some (r1, r2, r3, r4, r5, r6, r7, r8) := by rw [if_pos rfl] at H; exact H
  clear H
  have H := H1
  clear H1
  replace H := Option.bind_eq_some_iff.mp H
  obtain ⟨⟨aC, aD, aE, aF, aG, aH, bP, bQ⟩, eQ, H⟩ := H
  replace H : (some (aC, aD, aE, aF, aG, aH, bP, bQ)) = some (r1, r2, r3, r4, r5, r6, r7, r8) := H
  have A5 := Z eQ
  clear eQ
  simp only [Option.some.injEq, Prod.mk.injEq] at H
  obtain ⟨rfl, rfl, rfl, rfl, rfl, rfl, rfl, rfl⟩ := H
  go_enter Tryd.func65, Tryd.ntmps65
  go_wp2_with (first | ((with_reducible refine gate_dst (N := 2) rfl ?_); refine bx_ 2 24 #[.int .i64 u, .int .i64 x, .slice M j.length O, .int .i64 y, .bool z, .bool A] ?_; intro m hg w6 hbox hb; replace d := Z (ve d.out hg hb); have b := Z (hbox); have ay := Z (ln_ hg : w.heap.size ≤ m); have av := Z (ln_ hg : w.heap.size ≤ m); replace HB := Z (below_step bl_ hb); clear hb hbox hg) | ((with_reducible refine gate_dst (N := 3) rfl ?_); refine bx_ 3 58 #[.int .i64 g, .int .u8 R] ?_; intro l hg w7 hbox hb; replace d := Z (ve d.out hg hb); have c := Z (hbox); have az := Z (ln_ hg : w.heap.size ≤ l); have aw := Z (ln_ hg : w.heap.size ≤ l); replace HB := Z (below_step bl_ hb); have G := Z (nl b.out hg); have P := Z (ng b.out hg); replace b := Z (kb b.out hb); clear hb hbox hg) | ((with_reducible refine gate_dst (N := 4) rfl ?_); refine bx_ 4 24 #[.int .i64 0, .int .i64 0, .slice none 0 0, .int .i64 0, .bool false, .bool false] ?_; intro a hg w8 hbox hb; replace d := Z (ve d.out hg hb); have i := Z (hbox); have aA := Z (ln_ hg : w.heap.size ≤ a); have ax := Z (ln_ hg : w.heap.size ≤ a); replace HB := Z (below_step bl_ hb); have S := Z (nl b.out hg); have T := Z (ng b.out hg); replace b := Z (kb b.out hb); have Q := Z (nl c.out hg); have I := Z (ng c.out hg); replace c := Z (kb c.out hb); clear hb hbox hg; have g2 := P.out; have g3 := G.out; have fW := Q.out; have gs := I.out; obtain ⟨b2, b3, dp, dq⟩ := cells2 c.out) | ((with_reducible refine gate_callee (f := 85) rfl ?_); refine goesL_ (some 9) rfl rfl Tryd.func85 (by kernel_rfl) rfl #[.int .i64 g] rfl ag_ ?_; (with_reducible refine (move_Moves.calls g true _ A3.out).mono ?_); rintro e w' ⟨rfl, ⟨nd, rfl⟩⟩; refine ⟨_, rfl, ?_⟩; (try (rw [drewN_self w8]; generalize hq_ : World.drewN w8 _ = w8; replace d := Z (qV hq_ d.out); replace b := Z (qM hq_ b.out); replace c := Z (qM hq_ c.out); replace i := Z (qM hq_ i.out); replace HB := Z (qB hq_ HB.out); clear hq_)); (try obtain ⟨W, X, Y, aa⟩ := cells2 c.out); have fX := S.out; have gt := T.out; obtain ⟨b4, b5, b6, b7, b8, b9, dr, ds, dt, du, dv, dw⟩ := cells6 b.out) | ((with_reducible refine gate_callee (f := 86) rfl ?_); refine goesL_ (some 13) rfl rfl Tryd.func86 (by kernel_rfl) rfl #[.agg #[.int .i64 u, .int .i64 x, .slice M j.length O, .int .i64 y, .bool z, .bool A], .int .i64 g] rfl ag_ ?_; (with_reducible refine (move_Do.calls k u x (fun k_ => ((((F k_ ∨ w.heap.size ≤ k_) ∧ k_ ≠ m) ∧ k_ ≠ l) ∧ k_ ≠ a)) _ _ j y z A g aC aD aE aF aG aH bP bQ _ ?side1 A5.out).mono ?_); (case side1 => exact d.out); rintro e hx ⟨gO, gP, rfl, ad, ae, hb⟩; refine ⟨_, rfl, ?_⟩; replace d := Z (vb d.out hb); have bj := Z (Kd.V_lower (Kd.V_mono (ok' := fun k_ => (F k_ ∨ w.heap.size ≤ k_) ∧ k_ ≠ m ∧ k_ ≠ l ∧ k_ ≠ a) ad (fun k_ hk_ => hk_.elim (fun hs_ => ⟨hs_.1.1.1, hs_.1.1.2, hs_.1.2, hs_.2⟩) (fun hn_ => ⟨(ir_ hn_), (fb b.out k_ hn_), (fb c.out k_ hn_), (fb i.out k_ hn_)⟩))) (below_size bl_)); have eH := Z (Kd.V_lower (Kd.V_mono (ok' := fun k_ => (F k_ ∨ w.heap.size ≤ k_) ∧ k_ ≠ m ∧ k_ ≠ l ∧ k_ ≠ a) ae (fun k_ hk_ => hk_.elim (fun hs_ => ⟨hs_.1.1.1, hs_.1.1.2, hs_.1.2, hs_.2⟩) (fun hn_ => ⟨(ir_ hn_), (fb b.out k_ hn_), (fb c.out k_ hn_), (fb i.out k_ hn_)⟩))) (below_size bl_)); replace b := Z (kb b.out hb); replace c := Z (kb c.out hb); replace i := Z (kb i.out hb); replace HB := Z (below_step bl_ hb); (try clear hb); (try clear bq); (try clear hk); (try clear hi); (try clear ad); (try clear ae); (try simp only [errW_none, errW_some]); obtain ⟨ca, cb, cc, cd, ce, cf, dx, dy, dz, dA, dB, dC⟩ := cells6 i.out; obtain ⟨bt, bB, eT⟩ := Kd.V_slice bj.out; subst eT))
  refine bodyPost_ret (results_ct rfl _ _ a 24 #[.int .i64 aC, .int .i64 aD, .slice bt aE.length bB, .int .i64 aF, .bool aG, .bool aH] (0, 0) _ rfl (put6 i.out) Tryd.underlying24 rfl (by kernel_rfl)) rfl ?_
  exact ⟨_, _, er_, by (with_reducible repeat apply pV); exact Kd.V_mono (f6V a (Kd.V_mono bj.out (fun k_ hk => (⟨hk, hk.2.2.2⟩ : _ ∧ k_ ≠ a))) (fun _ hk => hk.2)) (fun _ hk => hk.1.1), by (with_reducible repeat apply pV); exact Kd.V_mono (f6V a (Kd.V_mono eH.out (fun k_ hk => (⟨hk, hk.2.2.2⟩ : _ ∧ k_ ≠ a))) (fun _ hk => hk.2)) (fun _ hk => hk.1.1), bl_⟩
 ·replace c4 := Bool.eq_false_iff.mpr c4
  subst c4
  have H1 : ((wipe_Wipes.f g).bind fun al => (if al = true then ((wipe_Do.f k u x j y z A g).bind fun B => (some (B.1, B.2.1, B.2.2.1, B.2.2.2.1, B.2.2.2.2.1, B.2.2.2.2.2.1, B.2.2.2.2.2.2.1, B.2.2.2.2.2.2.2))) else (if g = 11 then ((edit_Type.f k u x j y z A 30).bind fun C => (some (C.1, C.2.1, C.2.2.1, C.2.2.2.1, C.2.2.2.2.1, C.2.2.2.2.2.1, C.2.2.2.2.2.2.1, C.2.2.2.2.2.2.2))) else (if g = 1 then ((edit_Type.f k u x j y z A R).bind fun D => (some (D.1, D.2.1, D.2.2.1, D.2.2.2.1, D.2.2.2.2.1, D.2.2.2.2.2.1, D.2.2.2.2.2.2.1, D.2.2.2.2.2.2.2))) else (if g = 10 then ((keys_dup.f k u x j y z A).bind fun E => (some (E.1, E.2.1, E.2.2.1, E.2.2.2.1, E.2.2.2.2.1, E.2.2.2.2.2.1, E.2.2.2.2.2.2.1, E.2.2.2.2.2.2.2))) else (if g = 15 then (keys_plain.j0 k (g == 15) u x j y z A g R) else (keys_plain.j0 k (g == 16) u x j y z A g R))))))) = some (r1, r2, r3, r4, r5, r6, r7, r8) := by rw [if_neg (show ¬ (false = true) by decide)] at H; exact H
  clear H
  have H := H1
  clear H1
  replace H := Option.bind_eq_some_iff.mp H
  obtain ⟨al, eB, H⟩ := H
  replace H : (if al = true then ((wipe_Do.f k u x j y z A g).bind fun B => (some (B.1, B.2.1, B.2.2.1, B.2.2.2.1, B.2.2.2.2.1, B.2.2.2.2.2.1, B.2.2.2.2.2.2.1, B.2.2.2.2.2.2.2))) else (if g = 11 then ((edit_Type.f k u x j y z A 30).bind fun C => (some (C.1, C.2.1, C.2.2.1, C.2.2.2.1, C.2.2.2.2.1, C.2.2.2.2.2.1, C.2.2.2.2.2.2.1, C.2.2.2.2.2.2.2))) else (if g = 1 then ((edit_Type.f k u x j y z A R).bind fun D => (some (D.1, D.2.1, D.2.2.1, D.2.2.2.1, D.2.2.2.2.1, D.2.2.2.2.2.1, D.2.2.2.2.2.2.1, D.2.2.2.2.2.2.2))) else (if g = 10 then ((keys_dup.f k u x j y z A).bind fun E => (some (E.1, E.2.1, E.2.2.1, E.2.2.2.1, E.2.2.2.2.1, E.2.2.2.2.2.1, E.2.2.2.2.2.2.1, E.2.2.2.2.2.2.2))) else (if g = 15 then (keys_plain.j0 k (g == 15) u x j y z A g R) else (keys_plain.j0 k (g == 16) u x j y z A g R)))))) = some (r1, r2, r3, r4, r5, r6, r7, r8) := H
  have bi := Z eB
  clear eB
  by_cases bp : al = true
  ·subst bp
   have H1 : ((wipe_Do.f k u x j y z A g).bind fun B => (some (B.1, B.2.1, B.2.2.1, B.2.2.2.1, B.2.2.2.2.1, B.2.2.2.2.2.1, B.2.2.2.2.2.2.1, B.2.2.2.2.2.2.2))) = some (r1, r2, r3, r4, r5, r6, r7, r8) := by rw [if_pos rfl] at H; exact H
   clear H
   have H := H1
   clear H1
   replace H := Option.bind_eq_some_iff.mp H
   obtain ⟨⟨aI, aJ, aK, aL, aM, aN, bR, bS⟩, eC, H⟩ := H
   replace H : (some (aI, aJ, aK, aL, aM, aN, bR, bS)) = some (r1, r2, r3, r4, r5, r6, r7, r8) := H
   have fQ := Z eC
   clear eC
   simp only [Option.some.injEq, Prod.mk.injEq] at H
   obtain ⟨rfl, rfl, rfl, rfl, rfl, rfl, rfl, rfl⟩ := H
   go_enter Tryd.func65, Tryd.ntmps65
   go_wp2_with (first | ((with_reducible refine gate_dst (N := 2) rfl ?_); refine bx_ 2 24 #[.int .i64 u, .int .i64 x, .slice M j.length O, .int .i64 y, .bool z, .bool A] ?_; intro m hg hy hbox hb; replace d := Z (ve d.out hg hb); have b := Z (hbox); have ay := Z (ln_ hg : w.heap.size ≤ m); have av := Z (ln_ hg : w.heap.size ≤ m); replace HB := Z (below_step bl_ hb); clear hb hbox hg) | ((with_reducible refine gate_dst (N := 3) rfl ?_); refine bx_ 3 58 #[.int .i64 g, .int .u8 R] ?_; intro l hg hz hbox hb; replace d := Z (ve d.out hg hb); have c := Z (hbox); have az := Z (ln_ hg : w.heap.size ≤ l); have aw := Z (ln_ hg : w.heap.size ≤ l); replace HB := Z (below_step bl_ hb); have G := Z (nl b.out hg); have P := Z (ng b.out hg); replace b := Z (kb b.out hb); clear hb hbox hg) | ((with_reducible refine gate_dst (N := 4) rfl ?_); refine bx_ 4 24 #[.int .i64 0, .int .i64 0, .slice none 0 0, .int .i64 0, .bool false, .bool false] ?_; intro a hg ai hbox hb; replace d := Z (ve d.out hg hb); have i := Z (hbox); have aA := Z (ln_ hg : w.heap.size ≤ a); have ax := Z (ln_ hg : w.heap.size ≤ a); replace HB := Z (below_step bl_ hb); have S := Z (nl b.out hg); have T := Z (ng b.out hg); replace b := Z (kb b.out hb); have Q := Z (nl c.out hg); have I := Z (ng c.out hg); replace c := Z (kb c.out hb); clear hb hbox hg; have fY := P.out; have gu := G.out; have fZ := Q.out; have gv := I.out; obtain ⟨cg, ch, dD, dE⟩ := cells2 c.out) | ((with_reducible refine gate_callee (f := 85) rfl ?_); refine goesL_ (some 9) rfl rfl Tryd.func85 (by kernel_rfl) rfl #[.int .i64 g] rfl ag_ ?_; (with_reducible refine (move_Moves.calls g false _ A3.out).mono ?_); rintro e w' ⟨rfl, ⟨nd, rfl⟩⟩; refine ⟨_, rfl, ?_⟩; (try (rw [drewN_self ai]; generalize hq_ : World.drewN ai _ = ai; replace d := Z (qV hq_ d.out); replace b := Z (qM hq_ b.out); replace c := Z (qM hq_ c.out); replace i := Z (qM hq_ i.out); replace HB := Z (qB hq_ HB.out); clear hq_)); (try obtain ⟨W, X, Y, aa⟩ := cells2 c.out)) | ((with_reducible refine gate_callee (f := 29) rfl ?_); refine goesL_ (some 19) rfl rfl Tryd.func29 (by kernel_rfl) rfl #[.int .i64 g] rfl ag_ ?_; (with_reducible refine (wipe_Wipes.calls g true _ bi.out).mono ?_); rintro e w' ⟨rfl, ⟨nd, rfl⟩⟩; refine ⟨_, rfl, ?_⟩; (try (rw [drewN_self ai]; generalize hq_ : World.drewN ai _ = ai; replace d := Z (qV hq_ d.out); replace b := Z (qM hq_ b.out); replace c := Z (qM hq_ c.out); replace i := Z (qM hq_ i.out); replace HB := Z (qB hq_ HB.out); clear hq_)); (try obtain ⟨W, X, Y, aa⟩ := cells2 c.out); have ga := S.out; have gw := T.out; obtain ⟨ci, cj, ck, cl, cm, cn, dF, dG, dH, dI, dJ, dK⟩ := cells6 b.out) | ((with_reducible refine gate_callee (f := 19) rfl ?_); refine goesL_ (some 23) rfl rfl Tryd.func19 (by kernel_rfl) rfl #[.agg #[.int .i64 u, .int .i64 x, .slice M j.length O, .int .i64 y, .bool z, .bool A], .int .i64 g] rfl ag_ ?_; (with_reducible refine (wipe_Do.calls k u x (fun k_ => ((((F k_ ∨ w.heap.size ≤ k_) ∧ k_ ≠ m) ∧ k_ ≠ l) ∧ k_ ≠ a)) _ _ j y z A g aI aJ aK aL aM aN bR bS _ ?side1 fQ.out).mono ?_); (case side1 => exact d.out); rintro e hA ⟨gQ, gR, rfl, ad, ae, hb⟩; refine ⟨_, rfl, ?_⟩; replace d := Z (vb d.out hb); have bk := Z (Kd.V_lower (Kd.V_mono (ok' := fun k_ => (F k_ ∨ w.heap.size ≤ k_) ∧ k_ ≠ m ∧ k_ ≠ l ∧ k_ ≠ a) ad (fun k_ hk_ => hk_.elim (fun hs_ => ⟨hs_.1.1.1, hs_.1.1.2, hs_.1.2, hs_.2⟩) (fun hn_ => ⟨(ir_ hn_), (fb b.out k_ hn_), (fb c.out k_ hn_), (fb i.out k_ hn_)⟩))) (below_size bl_)); have eI := Z (Kd.V_lower (Kd.V_mono (ok' := fun k_ => (F k_ ∨ w.heap.size ≤ k_) ∧ k_ ≠ m ∧ k_ ≠ l ∧ k_ ≠ a) ae (fun k_ hk_ => hk_.elim (fun hs_ => ⟨hs_.1.1.1, hs_.1.1.2, hs_.1.2, hs_.2⟩) (fun hn_ => ⟨(ir_ hn_), (fb b.out k_ hn_), (fb c.out k_ hn_), (fb i.out k_ hn_)⟩))) (below_size bl_)); replace b := Z (kb b.out hb); replace c := Z (kb c.out hb); replace i := Z (kb i.out hb); replace HB := Z (below_step bl_ hb); (try clear hb); (try clear bq); (try clear hk); (try clear hi); (try clear ad); (try clear ae); (try simp only [errW_none, errW_some]); obtain ⟨co, cp, cq, cr, ct, cu, dL, dM, dN, dO, dP, dQ⟩ := cells6 i.out; obtain ⟨bu, bC, eU⟩ := Kd.V_slice bk.out; subst eU))
   refine bodyPost_ret (results_ct rfl _ _ a 24 #[.int .i64 aI, .int .i64 aJ, .slice bu aK.length bC, .int .i64 aL, .bool aM, .bool aN] (0, 0) _ rfl (put6 i.out) Tryd.underlying24 rfl (by kernel_rfl)) rfl ?_
   exact ⟨_, _, er_, by (with_reducible repeat apply pV); exact Kd.V_mono (f6V a (Kd.V_mono bk.out (fun k_ hk => (⟨hk, hk.2.2.2⟩ : _ ∧ k_ ≠ a))) (fun _ hk => hk.2)) (fun _ hk => hk.1.1), by (with_reducible repeat apply pV); exact Kd.V_mono (f6V a (Kd.V_mono eI.out (fun k_ hk => (⟨hk, hk.2.2.2⟩ : _ ∧ k_ ≠ a))) (fun _ hk => hk.2)) (fun _ hk => hk.1.1), bl_⟩
  ·replace bp := Bool.eq_false_iff.mpr bp
   subst bp
   have H1 : (if g = 11 then ((edit_Type.f k u x j y z A 30).bind fun C => (some (C.1, C.2.1, C.2.2.1, C.2.2.2.1, C.2.2.2.2.1, C.2.2.2.2.2.1, C.2.2.2.2.2.2.1, C.2.2.2.2.2.2.2))) else (if g = 1 then ((edit_Type.f k u x j y z A R).bind fun D => (some (D.1, D.2.1, D.2.2.1, D.2.2.2.1, D.2.2.2.2.1, D.2.2.2.2.2.1, D.2.2.2.2.2.2.1, D.2.2.2.2.2.2.2))) else (if g = 10 then ((keys_dup.f k u x j y z A).bind fun E => (some (E.1, E.2.1, E.2.2.1, E.2.2.2.1, E.2.2.2.2.1, E.2.2.2.2.2.1, E.2.2.2.2.2.2.1, E.2.2.2.2.2.2.2))) else (if g = 15 then (keys_plain.j0 k (g == 15) u x j y z A g R) else (keys_plain.j0 k (g == 16) u x j y z A g R))))) = some (r1, r2, r3, r4, r5, r6, r7, r8) := by rw [if_neg (show ¬ (false = true) by decide)] at H; exact H
   clear H
   have H := H1
   clear H1
   by_cases bd : g = 11
   ·rw [if_pos bd] at H
    have bH : (g == 11) = true := beq_iff_eq.mpr bd
    have bI : (g != 11) = false := bne_eq_false_iff_eq.mpr bd
    clear bd
    replace H := Option.bind_eq_some_iff.mp H
    obtain ⟨⟨aO, aP, aQ, aR, aS, aT, bT, bU⟩, eD, H⟩ := H
    replace H : (some (aO, aP, aQ, aR, aS, aT, bT, bU)) = some (r1, r2, r3, r4, r5, r6, r7, r8) := H
    have fR := Z eD
    clear eD
    simp only [Option.some.injEq, Prod.mk.injEq] at H
    obtain ⟨rfl, rfl, rfl, rfl, rfl, rfl, rfl, rfl⟩ := H
    go_enter Tryd.func65, Tryd.ntmps65
    go_wp2_with (first | ((with_reducible refine gate_dst (N := 2) rfl ?_); refine bx_ 2 24 #[.int .i64 u, .int .i64 x, .slice M j.length O, .int .i64 y, .bool z, .bool A] ?_; intro m hg hB hbox hb; replace d := Z (ve d.out hg hb); have b := Z (hbox); have ay := Z (ln_ hg : w.heap.size ≤ m); have av := Z (ln_ hg : w.heap.size ≤ m); replace HB := Z (below_step bl_ hb); clear hb hbox hg) | ((with_reducible refine gate_dst (N := 3) rfl ?_); refine bx_ 3 58 #[.int .i64 g, .int .u8 R] ?_; intro l hg hC hbox hb; replace d := Z (ve d.out hg hb); have c := Z (hbox); have az := Z (ln_ hg : w.heap.size ≤ l); have aw := Z (ln_ hg : w.heap.size ≤ l); replace HB := Z (below_step bl_ hb); have G := Z (nl b.out hg); have P := Z (ng b.out hg); replace b := Z (kb b.out hb); clear hb hbox hg) | ((with_reducible refine gate_dst (N := 4) rfl ?_); refine bx_ 4 24 #[.int .i64 0, .int .i64 0, .slice none 0 0, .int .i64 0, .bool false, .bool false] ?_; intro a hg ah hbox hb; replace d := Z (ve d.out hg hb); have i := Z (hbox); have aA := Z (ln_ hg : w.heap.size ≤ a); have ax := Z (ln_ hg : w.heap.size ≤ a); replace HB := Z (below_step bl_ hb); have S := Z (nl b.out hg); have T := Z (ng b.out hg); replace b := Z (kb b.out hb); have Q := Z (nl c.out hg); have I := Z (ng c.out hg); replace c := Z (kb c.out hb); clear hb hbox hg; have gb := P.out; have gx := G.out; have gc := Q.out; have gy := I.out; obtain ⟨cv, cw, dR, dS⟩ := cells2 c.out) | ((with_reducible refine gate_callee (f := 85) rfl ?_); refine goesL_ (some 9) rfl rfl Tryd.func85 (by kernel_rfl) rfl #[.int .i64 g] rfl ag_ ?_; (with_reducible refine (move_Moves.calls g false _ A3.out).mono ?_); rintro e w' ⟨rfl, ⟨nd, rfl⟩⟩; refine ⟨_, rfl, ?_⟩; (try (rw [drewN_self ah]; generalize hq_ : World.drewN ah _ = ah; replace d := Z (qV hq_ d.out); replace b := Z (qM hq_ b.out); replace c := Z (qM hq_ c.out); replace i := Z (qM hq_ i.out); replace HB := Z (qB hq_ HB.out); clear hq_)); (try obtain ⟨W, X, Y, aa⟩ := cells2 c.out)) | ((with_reducible refine gate_callee (f := 29) rfl ?_); refine goesL_ (some 19) rfl rfl Tryd.func29 (by kernel_rfl) rfl #[.int .i64 g] rfl ag_ ?_; (with_reducible refine (wipe_Wipes.calls g false _ bi.out).mono ?_); rintro e w' ⟨rfl, ⟨nd, rfl⟩⟩; refine ⟨_, rfl, ?_⟩; (try (rw [drewN_self ah]; generalize hq_ : World.drewN ah _ = ah; replace d := Z (qV hq_ d.out); replace b := Z (qM hq_ b.out); replace c := Z (qM hq_ c.out); replace i := Z (qM hq_ i.out); replace HB := Z (qB hq_ HB.out); clear hq_)); (try obtain ⟨W, X, Y, aa⟩ := cells2 c.out)) | ((with_reducible refine gate_store (t := 5) (p := 37) rfl ?_); refine sx_ 5 37 (ah.setCell ⟨l, 1, none⟩ (.int .u8 30)) ?_; intro br hw; replace d : Aside0 (Kd.V k35 35 br w.heap.size (fun k_ => (F k_ ∨ w.heap.size ≤ k_) ∧ k_ ≠ m ∧ k_ ≠ l ∧ k_ ≠ a) (.slice M j.length O) j) := ⟨(by rw [hw]; exact (by (with_reducible repeat apply pV); exact V_off d.out (fun k_ hk => hk.1.2) off2_ (fun _ hk => ⟨hk.1.1.1, ⟨hk.1.1.2, ⟨hk.1.2, hk.2⟩⟩⟩)))⟩; replace b := Z (sM hw (blk_off b.out G.out off2_)); replace c : Aside0 (br.heap[l]? = some (.cells #[.int .i64 g, .int .u8 30] 58 (0, 0))) := ⟨(by rw [hw]; exact (by (with_reducible repeat apply pK); refine blk_put (cs := #[.int .i64 g, .int .u8 R]) ?_ 1 _ rfl; (with_reducible repeat apply pK); exact c.out))⟩; replace i := Z (sM hw (blk_off i.out I.out off2_)); replace HB : Aside0 (Below w.heap.size w br) := ⟨by rw [hw]; exact bl_⟩; clear hw; have gd := S.out; have gz := T.out; obtain ⟨cx, cy, cz, cA, cB, cC, dT, dU, dV, dW, dX, dY⟩ := cells6 b.out; obtain ⟨cD, cE, dZ, d0⟩ := cells2 c.out) | ((with_reducible refine gate_callee (f := 31) rfl ?_); refine goesL_ (some 41) rfl rfl Tryd.func31 (by kernel_rfl) rfl #[.agg #[.int .i64 u, .int .i64 x, .slice M j.length O, .int .i64 y, .bool z, .bool A], .int .u8 30] rfl ag_ ?_; (with_reducible refine (edit_Type.calls k u x (fun k_ => ((F k_ ∨ w.heap.size ≤ k_) ∧ (k_ ≠ m ∧ (k_ ≠ l ∧ k_ ≠ a)))) _ _ j y z A 30 aO aP aQ aR aS aT bT bU _ ?side1 fR.out).mono ?_); (case side1 => exact d.out); rintro e hD ⟨gS, gT, rfl, ad, ae, hb⟩; refine ⟨_, rfl, ?_⟩; replace d := Z (vb d.out hb); have bl := Z (Kd.V_lower (Kd.V_mono (ok' := fun k_ => (F k_ ∨ w.heap.size ≤ k_) ∧ k_ ≠ m ∧ k_ ≠ l ∧ k_ ≠ a) ad (fun k_ hk_ => hk_.elim (fun hs_ => ⟨hs_.1, hs_.2.1, hs_.2.2.1, hs_.2.2.2⟩) (fun hn_ => ⟨(ir_ hn_), (fb b.out k_ hn_), (fb c.out k_ hn_), (fb i.out k_ hn_)⟩))) (below_size bl_)); have eJ := Z (Kd.V_lower (Kd.V_mono (ok' := fun k_ => (F k_ ∨ w.heap.size ≤ k_) ∧ k_ ≠ m ∧ k_ ≠ l ∧ k_ ≠ a) ae (fun k_ hk_ => hk_.elim (fun hs_ => ⟨hs_.1, hs_.2.1, hs_.2.2.1, hs_.2.2.2⟩) (fun hn_ => ⟨(ir_ hn_), (fb b.out k_ hn_), (fb c.out k_ hn_), (fb i.out k_ hn_)⟩))) (below_size bl_)); replace b := Z (kb b.out hb); replace c := Z (kb c.out hb); replace i := Z (kb i.out hb); replace HB := Z (below_step bl_ hb); (try clear hb); (try clear bq); (try clear hk); (try clear hi); (try clear ad); (try clear ae); (try simp only [errW_none, errW_some]); obtain ⟨cF, cG, cH, cI, cJ, cK, d1, d2, d3, d4, d5, d6⟩ := cells6 i.out; obtain ⟨bv, bD, eV⟩ := Kd.V_slice bl.out; subst eV))
    refine bodyPost_ret (results_ct rfl _ _ a 24 #[.int .i64 aO, .int .i64 aP, .slice bv aQ.length bD, .int .i64 aR, .bool aS, .bool aT] (0, 0) _ rfl (put6 i.out) Tryd.underlying24 rfl (by kernel_rfl)) rfl ?_
    exact ⟨_, _, er_, by (with_reducible repeat apply pV); exact Kd.V_mono (f6V a (Kd.V_mono bl.out (fun k_ hk => (⟨hk, hk.2.2.2⟩ : _ ∧ k_ ≠ a))) (fun _ hk => hk.2)) (fun _ hk => hk.1.1), by (with_reducible repeat apply pV); exact Kd.V_mono (f6V a (Kd.V_mono eJ.out (fun k_ hk => (⟨hk, hk.2.2.2⟩ : _ ∧ k_ ≠ a))) (fun _ hk => hk.2)) (fun _ hk => hk.1.1), bl_⟩
   ·rw [if_neg bd] at H
    have bH : (g == 11) = false := beq_eq_false_iff_ne.mpr bd
    have bI : (g != 11) = true := bne_iff_ne.mpr bd
    by_cases be : g = 1
    ·rw [if_pos be] at H
     have bJ : (g == 1) = true := beq_iff_eq.mpr be
     have bK : (g != 1) = false := bne_eq_false_iff_eq.mpr be
     clear be
     replace H := Option.bind_eq_some_iff.mp H
     obtain ⟨⟨aU, aV, aW, aX, aY, aZ, bV, bW⟩, eE, H⟩ := H
     replace H : (some (aU, aV, aW, aX, aY, aZ, bV, bW)) = some (r1, r2, r3, r4, r5, r6, r7, r8) := H
     have fS := Z eE
     clear eE
     simp only [Option.some.injEq, Prod.mk.injEq] at H
     obtain ⟨rfl, rfl, rfl, rfl, rfl, rfl, rfl, rfl⟩ := H
     go_enter Tryd.func65, Tryd.ntmps65
     go_wp2_with (first | ((with_reducible refine gate_dst (N := 2) rfl ?_); refine bx_ 2 24 #[.int .i64 u, .int .i64 x, .slice M j.length O, .int .i64 y, .bool z, .bool A] ?_; intro m hg hE hbox hb; replace d := Z (ve d.out hg hb); have b := Z (hbox); have ay := Z (ln_ hg : w.heap.size ≤ m); have av := Z (ln_ hg : w.heap.size ≤ m); replace HB := Z (below_step bl_ hb); clear hb hbox hg) | ((with_reducible refine gate_dst (N := 3) rfl ?_); refine bx_ 3 58 #[.int .i64 g, .int .u8 R] ?_; intro l hg hF hbox hb; replace d := Z (ve d.out hg hb); have c := Z (hbox); have az := Z (ln_ hg : w.heap.size ≤ l); have aw := Z (ln_ hg : w.heap.size ≤ l); replace HB := Z (below_step bl_ hb); have G := Z (nl b.out hg); have P := Z (ng b.out hg); replace b := Z (kb b.out hb); clear hb hbox hg) | ((with_reducible refine gate_dst (N := 4) rfl ?_); refine bx_ 4 24 #[.int .i64 0, .int .i64 0, .slice none 0 0, .int .i64 0, .bool false, .bool false] ?_; intro a hg aj hbox hb; replace d := Z (ve d.out hg hb); have i := Z (hbox); have aA := Z (ln_ hg : w.heap.size ≤ a); have ax := Z (ln_ hg : w.heap.size ≤ a); replace HB := Z (below_step bl_ hb); have S := Z (nl b.out hg); have T := Z (ng b.out hg); replace b := Z (kb b.out hb); have Q := Z (nl c.out hg); have I := Z (ng c.out hg); replace c := Z (kb c.out hb); clear hb hbox hg; have ge := P.out; have gA := G.out; have gf := Q.out; have gB := I.out; obtain ⟨cL, cM, d7, d8⟩ := cells2 c.out) | ((with_reducible refine gate_callee (f := 85) rfl ?_); refine goesL_ (some 9) rfl rfl Tryd.func85 (by kernel_rfl) rfl #[.int .i64 g] rfl ag_ ?_; (with_reducible refine (move_Moves.calls g false _ A3.out).mono ?_); rintro e w' ⟨rfl, ⟨nd, rfl⟩⟩; refine ⟨_, rfl, ?_⟩; (try (rw [drewN_self aj]; generalize hq_ : World.drewN aj _ = aj; replace d := Z (qV hq_ d.out); replace b := Z (qM hq_ b.out); replace c := Z (qM hq_ c.out); replace i := Z (qM hq_ i.out); replace HB := Z (qB hq_ HB.out); clear hq_)); (try obtain ⟨W, X, Y, aa⟩ := cells2 c.out)) | ((with_reducible refine gate_callee (f := 29) rfl ?_); refine goesL_ (some 19) rfl rfl Tryd.func29 (by kernel_rfl) rfl #[.int .i64 g] rfl ag_ ?_; (with_reducible refine (wipe_Wipes.calls g false _ bi.out).mono ?_); rintro e w' ⟨rfl, ⟨nd, rfl⟩⟩; refine ⟨_, rfl, ?_⟩; (try (rw [drewN_self aj]; generalize hq_ : World.drewN aj _ = aj; replace d := Z (qV hq_ d.out); replace b := Z (qM hq_ b.out); replace c := Z (qM hq_ c.out); replace i := Z (qM hq_ i.out); replace HB := Z (qB hq_ HB.out); clear hq_)); (try obtain ⟨W, X, Y, aa⟩ := cells2 c.out); have gg := S.out; have gC := T.out; obtain ⟨cN, cO, cP, cQ, cR, cS, d9, ea, eb, ec, ed, ee⟩ := cells6 b.out) | ((with_reducible refine gate_callee (f := 31) rfl ?_); refine goesL_ (some 41) rfl rfl Tryd.func31 (by kernel_rfl) rfl #[.agg #[.int .i64 u, .int .i64 x, .slice M j.length O, .int .i64 y, .bool z, .bool A], .int .u8 R] rfl ag_ ?_; (with_reducible refine (edit_Type.calls k u x (fun k_ => ((((F k_ ∨ w.heap.size ≤ k_) ∧ k_ ≠ m) ∧ k_ ≠ l) ∧ k_ ≠ a)) _ _ j y z A R aU aV aW aX aY aZ bV bW _ ?side1 fS.out).mono ?_); (case side1 => exact d.out); rintro e hG ⟨gU, gV, rfl, ad, ae, hb⟩; refine ⟨_, rfl, ?_⟩; replace d := Z (vb d.out hb); have bm := Z (Kd.V_lower (Kd.V_mono (ok' := fun k_ => (F k_ ∨ w.heap.size ≤ k_) ∧ k_ ≠ m ∧ k_ ≠ l ∧ k_ ≠ a) ad (fun k_ hk_ => hk_.elim (fun hs_ => ⟨hs_.1.1.1, hs_.1.1.2, hs_.1.2, hs_.2⟩) (fun hn_ => ⟨(ir_ hn_), (fb b.out k_ hn_), (fb c.out k_ hn_), (fb i.out k_ hn_)⟩))) (below_size bl_)); have eK := Z (Kd.V_lower (Kd.V_mono (ok' := fun k_ => (F k_ ∨ w.heap.size ≤ k_) ∧ k_ ≠ m ∧ k_ ≠ l ∧ k_ ≠ a) ae (fun k_ hk_ => hk_.elim (fun hs_ => ⟨hs_.1.1.1, hs_.1.1.2, hs_.1.2, hs_.2⟩) (fun hn_ => ⟨(ir_ hn_), (fb b.out k_ hn_), (fb c.out k_ hn_), (fb i.out k_ hn_)⟩))) (below_size bl_)); replace b := Z (kb b.out hb); replace c := Z (kb c.out hb); replace i := Z (kb i.out hb); replace HB := Z (below_step bl_ hb); (try clear hb); (try clear bq); (try clear hk); (try clear hi); (try clear ad); (try clear ae); (try simp only [errW_none, errW_some]); obtain ⟨cT, cU, cV, cW, cX, cY, ef, eg, eh, ei, ej, ek⟩ := cells6 i.out; obtain ⟨bw, bE, eW⟩ := Kd.V_slice bm.out; subst eW))
     refine bodyPost_ret (results_ct rfl _ _ a 24 #[.int .i64 aU, .int .i64 aV, .slice bw aW.length bE, .int .i64 aX, .bool aY, .bool aZ] (0, 0) _ rfl (put6 i.out) Tryd.underlying24 rfl (by kernel_rfl)) rfl ?_
     exact ⟨_, _, er_, by (with_reducible repeat apply pV); exact Kd.V_mono (f6V a (Kd.V_mono bm.out (fun k_ hk => (⟨hk, hk.2.2.2⟩ : _ ∧ k_ ≠ a))) (fun _ hk => hk.2)) (fun _ hk => hk.1.1), by (with_reducible repeat apply pV); exact Kd.V_mono (f6V a (Kd.V_mono eK.out (fun k_ hk => (⟨hk, hk.2.2.2⟩ : _ ∧ k_ ≠ a))) (fun _ hk => hk.2)) (fun _ hk => hk.1.1), bl_⟩
    ·rw [if_neg be] at H
     have bJ : (g == 1) = false := beq_eq_false_iff_ne.mpr be
     have bK : (g != 1) = true := bne_iff_ne.mpr be
     by_cases bf : g = 10
     ·rw [if_pos bf] at H
      have bL : (g == 10) = true := beq_iff_eq.mpr bf
      have bM : (g != 10) = false := bne_eq_false_iff_eq.mpr bf
      clear bf
      replace H := Option.bind_eq_some_iff.mp H
      obtain ⟨⟨a0, a1, a2, a3, a4, a5, bX, bY⟩, eF, H⟩ := H
      replace H : (some (a0, a1, a2, a3, a4, a5, bX, bY)) = some (r1, r2, r3, r4, r5, r6, r7, r8) := H
      have fT := Z eF
      clear eF
      simp only [Option.some.injEq, Prod.mk.injEq] at H
      obtain ⟨rfl, rfl, rfl, rfl, rfl, rfl, rfl, rfl⟩ := H
      go_enter Tryd.func65, Tryd.ntmps65
      go_wp2_with (first | ((with_reducible refine gate_dst (N := 2) rfl ?_); refine bx_ 2 24 #[.int .i64 u, .int .i64 x, .slice M j.length O, .int .i64 y, .bool z, .bool A] ?_; intro m hg hH hbox hb; replace d := Z (ve d.out hg hb); have b := Z (hbox); have ay := Z (ln_ hg : w.heap.size ≤ m); have av := Z (ln_ hg : w.heap.size ≤ m); replace HB := Z (below_step bl_ hb); clear hb hbox hg) | ((with_reducible refine gate_dst (N := 3) rfl ?_); refine bx_ 3 58 #[.int .i64 g, .int .u8 R] ?_; intro l hg hI hbox hb; replace d := Z (ve d.out hg hb); have c := Z (hbox); have az := Z (ln_ hg : w.heap.size ≤ l); have aw := Z (ln_ hg : w.heap.size ≤ l); replace HB := Z (below_step bl_ hb); have G := Z (nl b.out hg); have P := Z (ng b.out hg); replace b := Z (kb b.out hb); clear hb hbox hg) | ((with_reducible refine gate_dst (N := 4) rfl ?_); refine bx_ 4 24 #[.int .i64 0, .int .i64 0, .slice none 0 0, .int .i64 0, .bool false, .bool false] ?_; intro a hg ak hbox hb; replace d := Z (ve d.out hg hb); have i := Z (hbox); have aA := Z (ln_ hg : w.heap.size ≤ a); have ax := Z (ln_ hg : w.heap.size ≤ a); replace HB := Z (below_step bl_ hb); have S := Z (nl b.out hg); have T := Z (ng b.out hg); replace b := Z (kb b.out hb); have Q := Z (nl c.out hg); have I := Z (ng c.out hg); replace c := Z (kb c.out hb); clear hb hbox hg; have gh := P.out; have gD := G.out; have gi := Q.out; have gE := I.out; obtain ⟨cZ, c0, el, em⟩ := cells2 c.out) | ((with_reducible refine gate_callee (f := 85) rfl ?_); refine goesL_ (some 9) rfl rfl Tryd.func85 (by kernel_rfl) rfl #[.int .i64 g] rfl ag_ ?_; (with_reducible refine (move_Moves.calls g false _ A3.out).mono ?_); rintro e w' ⟨rfl, ⟨nd, rfl⟩⟩; refine ⟨_, rfl, ?_⟩; (try (rw [drewN_self ak]; generalize hq_ : World.drewN ak _ = ak; replace d := Z (qV hq_ d.out); replace b := Z (qM hq_ b.out); replace c := Z (qM hq_ c.out); replace i := Z (qM hq_ i.out); replace HB := Z (qB hq_ HB.out); clear hq_)); (try obtain ⟨W, X, Y, aa⟩ := cells2 c.out)) | ((with_reducible refine gate_callee (f := 29) rfl ?_); refine goesL_ (some 19) rfl rfl Tryd.func29 (by kernel_rfl) rfl #[.int .i64 g] rfl ag_ ?_; (with_reducible refine (wipe_Wipes.calls g false _ bi.out).mono ?_); rintro e w' ⟨rfl, ⟨nd, rfl⟩⟩; refine ⟨_, rfl, ?_⟩; (try (rw [drewN_self ak]; generalize hq_ : World.drewN ak _ = ak; replace d := Z (qV hq_ d.out); replace b := Z (qM hq_ b.out); replace c := Z (qM hq_ c.out); replace i := Z (qM hq_ i.out); replace HB := Z (qB hq_ HB.out); clear hq_)); (try obtain ⟨W, X, Y, aa⟩ := cells2 c.out); have gj := S.out; have gF := T.out; obtain ⟨da, db, dc, dd, de, df, en, eo, ep, eq, er, es⟩ := cells6 b.out) | ((with_reducible refine gate_callee (f := 87) rfl ?_); refine goesL_ (some 45) rfl rfl Tryd.func87 (by kernel_rfl) rfl #[.agg #[.int .i64 u, .int .i64 x, .slice M j.length O, .int .i64 y, .bool z, .bool A]] rfl ag_ ?_; (with_reducible refine (keys_dup.calls k u x (fun k_ => ((((F k_ ∨ w.heap.size ≤ k_) ∧ k_ ≠ m) ∧ k_ ≠ l) ∧ k_ ≠ a)) _ _ j y z A a0 a1 a2 a3 a4 a5 bX bY _ ?side1 fT.out).mono ?_); (case side1 => exact d.out); rintro e hJ ⟨gW, gX, rfl, ad, ae, hb⟩; refine ⟨_, rfl, ?_⟩; replace d := Z (vb d.out hb); have bn := Z (Kd.V_lower (Kd.V_mono (ok' := fun k_ => (F k_ ∨ w.heap.size ≤ k_) ∧ k_ ≠ m ∧ k_ ≠ l ∧ k_ ≠ a) ad (fun k_ hk_ => hk_.elim (fun hs_ => ⟨hs_.1.1.1, hs_.1.1.2, hs_.1.2, hs_.2⟩) (fun hn_ => ⟨(ir_ hn_), (fb b.out k_ hn_), (fb c.out k_ hn_), (fb i.out k_ hn_)⟩))) (below_size bl_)); have eL := Z (Kd.V_lower (Kd.V_mono (ok' := fun k_ => (F k_ ∨ w.heap.size ≤ k_) ∧ k_ ≠ m ∧ k_ ≠ l ∧ k_ ≠ a) ae (fun k_ hk_ => hk_.elim (fun hs_ => ⟨hs_.1.1.1, hs_.1.1.2, hs_.1.2, hs_.2⟩) (fun hn_ => ⟨(ir_ hn_), (fb b.out k_ hn_), (fb c.out k_ hn_), (fb i.out k_ hn_)⟩))) (below_size bl_)); replace b := Z (kb b.out hb); replace c := Z (kb c.out hb); replace i := Z (kb i.out hb); replace HB := Z (below_step bl_ hb); (try clear hb); (try clear bq); (try clear hk); (try clear hi); (try clear ad); (try clear ae); (try simp only [errW_none, errW_some]); obtain ⟨dg, dh, di, dj, dk, dl, et, eu, ev, ew, ex, ey⟩ := cells6 i.out; obtain ⟨bx, bF, eX⟩ := Kd.V_slice bn.out; subst eX))
      refine bodyPost_ret (results_ct rfl _ _ a 24 #[.int .i64 a0, .int .i64 a1, .slice bx a2.length bF, .int .i64 a3, .bool a4, .bool a5] (0, 0) _ rfl (put6 i.out) Tryd.underlying24 rfl (by kernel_rfl)) rfl ?_
      exact ⟨_, _, er_, by (with_reducible repeat apply pV); exact Kd.V_mono (f6V a (Kd.V_mono bn.out (fun k_ hk => (⟨hk, hk.2.2.2⟩ : _ ∧ k_ ≠ a))) (fun _ hk => hk.2)) (fun _ hk => hk.1.1), by (with_reducible repeat apply pV); exact Kd.V_mono (f6V a (Kd.V_mono eL.out (fun k_ hk => (⟨hk, hk.2.2.2⟩ : _ ∧ k_ ≠ a))) (fun _ hk => hk.2)) (fun _ hk => hk.1.1), bl_⟩
     ·rw [if_neg bf] at H
      have bL : (g == 10) = false := beq_eq_false_iff_ne.mpr bf
      have bM : (g != 10) = true := bne_iff_ne.mpr bf
      have bA := Z H
      clear H
      go_enter Tryd.func65, Tryd.ntmps65
      go_upto_if 34 with (first | ((with_reducible refine gate_dst (N := 2) rfl ?_); refine bx_ 2 24 #[.int .i64 u, .int .i64 x, .slice M j.length O, .int .i64 y, .bool z, .bool A] ?_; intro m hg hK hbox hb; replace d := Z (ve d.out hg hb); have b := Z (hbox); have ay := Z (ln_ hg : w.heap.size ≤ m); have av := Z (ln_ hg : w.heap.size ≤ m); replace HB := Z (below_step bl_ hb); clear hb hbox hg) | ((with_reducible refine gate_dst (N := 3) rfl ?_); refine bx_ 3 58 #[.int .i64 g, .int .u8 R] ?_; intro l hg hL hbox hb; replace d := Z (ve d.out hg hb); have c := Z (hbox); have az := Z (ln_ hg : w.heap.size ≤ l); have aw := Z (ln_ hg : w.heap.size ≤ l); replace HB := Z (below_step bl_ hb); have G := Z (nl b.out hg); have P := Z (ng b.out hg); replace b := Z (kb b.out hb); clear hb hbox hg) | ((with_reducible refine gate_dst (N := 4) rfl ?_); refine bx_ 4 24 #[.int .i64 0, .int .i64 0, .slice none 0 0, .int .i64 0, .bool false, .bool false] ?_; intro a hg hM hbox hb; replace d := Z (ve d.out hg hb); have i := Z (hbox); have aA := Z (ln_ hg : w.heap.size ≤ a); have ax := Z (ln_ hg : w.heap.size ≤ a); replace HB := Z (below_step bl_ hb); have S := Z (nl b.out hg); have T := Z (ng b.out hg); replace b := Z (kb b.out hb); have Q := Z (nl c.out hg); have I := Z (ng c.out hg); replace c := Z (kb c.out hb); clear hb hbox hg; have gk := P.out; have gG := G.out; have gl := Q.out; have gH := I.out; obtain ⟨dm, dn, ez, eA⟩ := cells2 c.out) | ((with_reducible refine gate_callee (f := 85) rfl ?_); refine goesL_ (some 9) rfl rfl Tryd.func85 (by kernel_rfl) rfl #[.int .i64 g] rfl ag_ ?_; (with_reducible refine (move_Moves.calls g false _ A3.out).mono ?_); rintro e w' ⟨rfl, ⟨nd, rfl⟩⟩; refine ⟨_, rfl, ?_⟩) | ((with_reducible refine gate_callee (f := 29) rfl ?_); refine goesL_ (some 19) rfl rfl Tryd.func29 (by kernel_rfl) rfl #[.int .i64 g] rfl ag_ ?_; (with_reducible refine (wipe_Wipes.calls g false _ bi.out).mono ?_); rintro e w' ⟨rfl, ⟨nd, rfl⟩⟩; refine ⟨_, rfl, ?_⟩))
      (try simp only [Act.put, sA, sB, sC])
      go_cut [34] (fun fV wc => ∃ (kq : Nat) (bc : Bool), fV = .bool bc ∧ Aside0 (keys_plain.j0 kq bc u x j y z A g R = some (r1, r2, r3, r4, r5, r6, r7, r8)) ∧ Aside0 (kq ≤ k) ∧ Aside0 (Kd.V k35 35 wc w.heap.size (fun k_ => (F k_ ∨ w.heap.size ≤ k_) ∧ k_ ≠ m ∧ k_ ≠ l ∧ k_ ≠ a) (.slice M j.length O) j) ∧ Aside0 (wc.heap[m]? = some (.cells #[.int .i64 u, .int .i64 x, (.slice M j.length O), .int .i64 y, .bool z, .bool A] 24 (0, 0))) ∧ Aside0 (wc.heap[l]? = some (.cells #[.int .i64 g, .int .u8 R] 58 (0, 0))) ∧ Aside0 (wc.heap[a]? = some (.cells #[.int .i64 0, .int .i64 0, (.slice none 0 0), .int .i64 0, .bool false, .bool false] 24 (0, 0))) ∧ Aside0 (Below w.heap.size w wc))
      case first =>
       have H := bA.out
       clear bA
       by_cases bg : g = 15
       ·rw [if_pos bg] at H
        have aB : (g == 15) = true := beq_iff_eq.mpr bg
        have bN : (g != 15) = false := bne_eq_false_iff_eq.mpr bg
        clear bg
        (first | rw [aB] | (simp only [i64_w, i32_w]; rw [aB]) | skip)
        have H' := Z H
        clear H
        go_wp2
        go_meet
        case rel => exact ⟨_, ((g == 15)), (dn_), H', ⟨by first | omega | exact Nat.le_refl _⟩, ⟨by (with_reducible repeat apply pV); exact Kd.V_mono d.out (fun _ hk => ⟨hk.1.1.1, ⟨hk.1.1.2, ⟨hk.1.2, hk.2⟩⟩⟩)⟩, ⟨vK b.out⟩, ⟨vK c.out⟩, ⟨vK i.out⟩, ⟨bl_⟩⟩
       ·rw [if_neg bg] at H
        have aB : (g == 15) = false := beq_eq_false_iff_ne.mpr bg
        have bN : (g != 15) = true := bne_iff_ne.mpr bg
        (first | rw [aB] | (simp only [i64_w, i32_w]; rw [aB]) | skip)
        have H' := Z H
        clear H
        go_wp2
        go_meet
        case rel => exact ⟨_, ((g == 16)), (dn_), H', ⟨by first | omega | exact Nat.le_refl _⟩, ⟨by (with_reducible repeat apply pV); exact Kd.V_mono d.out (fun _ hk => ⟨hk.1.1.1, ⟨hk.1.1.2, ⟨hk.1.2, hk.2⟩⟩⟩)⟩, ⟨vK b.out⟩, ⟨vK c.out⟩, ⟨vK i.out⟩, ⟨bl_⟩⟩
      case rest =>
       clear bA
       try clear c1
       try clear c2
       try clear p2
       try clear c3
       try clear c4
       try clear c5
       try clear c6
       try clear c7
       try clear c8
       try clear c9
       try clear c10
       try clear g8
       try clear bp
       try clear g9
       try clear ha
       try clear c24
       try clear hc
       try clear he
       try clear bd
       try clear bH
       try clear bI
       try clear hf
       try clear hh
       try clear hj
       try clear be
       try clear bJ
       try clear bK
       try clear hl
       try clear hm
       try clear hp
       try clear bf
       try clear bL
       try clear bM
       try clear hq
       try clear hs
       try clear ht
       try clear hu
       try clear hv
       try clear bg
       try clear aB
       try clear bN
       try clear b2
       try clear b3
       try clear b4
       try clear b5
       try clear b6
       try clear b7
       try clear b8
       try clear b9
       try clear ca
       try clear cb
       try clear cc
       try clear cd
       try clear ce
       try clear cf
       try clear cg
       try clear ch
       try clear ci
       try clear cj
       try clear ck
       try clear cl
       try clear cm
       try clear cn
       try clear co
       try clear cp
       try clear cq
       try clear cr
       try clear ct
       try clear cu
       try clear cv
       try clear cw
       try clear cx
       try clear cy
       try clear cz
       try clear cA
       try clear cB
       try clear cC
       try clear cD
       try clear cE
       try clear cF
       try clear cG
       try clear cH
       try clear cI
       try clear cJ
       try clear cK
       try clear cL
       try clear cM
       try clear cN
       try clear cO
       try clear cP
       try clear cQ
       try clear cR
       try clear cS
       try clear cT
       try clear cU
       try clear cV
       try clear cW
       try clear cX
       try clear cY
       try clear cZ
       try clear c0
       try clear da
       try clear db
       try clear dc
       try clear dd
       try clear de
       try clear df
       try clear dg
       try clear dh
       try clear di
       try clear dj
       try clear dk
       try clear dl
       try clear dm
       try clear dn
       try clear dp
       try clear dq
       try clear dr
       try clear ds
       try clear dt
       try clear du
       try clear dv
       try clear dw
       try clear dx
       try clear dy
       try clear dz
       try clear dA
       try clear dB
       try clear dC
       try clear dD
       try clear dE
       try clear dF
       try clear dG
       try clear dH
       try clear dI
       try clear dJ
       try clear dK
       try clear dL
       try clear dM
       try clear dN
       try clear dO
       try clear dP
       try clear dQ
       try clear dR
       try clear dS
       try clear dT
       try clear dU
       try clear dV
       try clear dW
       try clear dX
       try clear dY
       try clear dZ
       try clear d0
       try clear d1
       try clear d2
       try clear d3
       try clear d4
       try clear d5
       try clear d6
       try clear d7
       try clear d8
       try clear d9
       try clear ea
       try clear eb
       try clear ec
       try clear ed
       try clear ee
       try clear ef
       try clear eg
       try clear eh
       try clear ei
       try clear ej
       try clear ek
       try clear el
       try clear em
       try clear en
       try clear eo
       try clear ep
       try clear eq
       try clear er
       try clear es
       try clear et
       try clear eu
       try clear ev
       try clear ew
       try clear ex
       try clear ey
       try clear ez
       try clear eA
       obtain ⟨kq, bc, rfl, HA, g1, HO_1301002, b, c, i, HB⟩ := hcut
       cases kq with
       | zero => exact absurd HA.out (by simp [keys_plain.j0])
       | succ eN =>
        have H := HA.out
        clear HA
        simp only [keys_plain.j0] at H
        by_cases bO : bc = true
        ·subst bO
         have H1 : ((keys_set.f eN u x j y z A g).bind fun ac => (some (ac.1, ac.2.1, ac.2.2.1, ac.2.2.2.1, ac.2.2.2.2.1, ac.2.2.2.2.2.1, ac.2.2.2.2.2.2.1, ac.2.2.2.2.2.2.2))) = some (r1, r2, r3, r4, r5, r6, r7, r8) := by rw [if_pos rfl] at H; exact H
         clear H
         have H := H1
         clear H1
         replace H := Option.bind_eq_some_iff.mp H
         obtain ⟨⟨a6, a7, a8, a9, ba, bb, bZ, b0⟩, eG, H⟩ := H
         replace H : (some (a6, a7, a8, a9, ba, bb, bZ, b0)) = some (r1, r2, r3, r4, r5, r6, r7, r8) := H
         have fU := Z eG
         clear eG
         simp only [Option.some.injEq, Prod.mk.injEq] at H
         obtain ⟨rfl, rfl, rfl, rfl, rfl, rfl, rfl, rfl⟩ := H
         have gm := G.out
         have gI := P.out
         have gn := S.out
         have gJ := T.out
         obtain ⟨eZ, e0, e1, e2, e3, e4, fq, fr, fs, ft, fu, fv⟩ := cells6 b.out
         have go := Q.out
         have gK := I.out
         obtain ⟨e5, e6, fw, fx⟩ := cells2 c.out
         go_wp2_with (first | ((with_reducible refine gate_callee (f := 88) rfl ?_); refine goesL_ (some 51) rfl rfl Tryd.func88 (by kernel_rfl) rfl #[.agg #[.int .i64 u, .int .i64 x, .slice M j.length O, .int .i64 y, .bool z, .bool A], .int .i64 g] rfl ag_ ?_; (with_reducible refine (keys_set.calls eN u x (fun k_ => ((F k_ ∨ w.heap.size ≤ k_) ∧ (k_ ≠ m ∧ (k_ ≠ l ∧ k_ ≠ a)))) _ _ j y z A g a6 a7 a8 a9 ba bb bZ b0 _ ?side1 fU.out).mono ?_); (case side1 => exact HO_1301002.out); rintro e hN ⟨gY, gZ, rfl, ad, ae, hb⟩; refine ⟨_, rfl, ?_⟩; replace HO_1301002 := Z (vb HO_1301002.out hb); have bo := Z (Kd.V_lower (Kd.V_mono (ok' := fun k_ => (F k_ ∨ w.heap.size ≤ k_) ∧ k_ ≠ m ∧ k_ ≠ l ∧ k_ ≠ a) ad (fun k_ hk_ => hk_.elim (fun hs_ => ⟨hs_.1, hs_.2.1, hs_.2.2.1, hs_.2.2.2⟩) (fun hn_ => ⟨(ir_ hn_), (fb b.out k_ hn_), (fb c.out k_ hn_), (fb i.out k_ hn_)⟩))) (below_size bl_)); have eM := Z (Kd.V_lower (Kd.V_mono (ok' := fun k_ => (F k_ ∨ w.heap.size ≤ k_) ∧ k_ ≠ m ∧ k_ ≠ l ∧ k_ ≠ a) ae (fun k_ hk_ => hk_.elim (fun hs_ => ⟨hs_.1, hs_.2.1, hs_.2.2.1, hs_.2.2.2⟩) (fun hn_ => ⟨(ir_ hn_), (fb b.out k_ hn_), (fb c.out k_ hn_), (fb i.out k_ hn_)⟩))) (below_size bl_)); replace b := Z (kb b.out hb); replace c := Z (kb c.out hb); replace i := Z (kb i.out hb); replace HB := Z (below_step bl_ hb); (try clear hb); (try clear bq); (try clear hk); (try clear hi); (try clear ad); (try clear ae); (try simp only [errW_none, errW_some]); obtain ⟨e7, e8, e9, fa, fc, fd, fy, fz, fA, fB, fC, fD⟩ := cells6 i.out; obtain ⟨bz, bG, eY⟩ := Kd.V_slice bo.out; subst eY))
         refine bodyPost_ret (results_ct rfl _ _ a 24 #[.int .i64 a6, .int .i64 a7, .slice bz a8.length bG, .int .i64 a9, .bool ba, .bool bb] (0, 0) _ rfl (put6 i.out) Tryd.underlying24 rfl (by kernel_rfl)) rfl ?_
         exact ⟨_, _, er_, by (with_reducible repeat apply pV); exact Kd.V_mono (f6V a (Kd.V_mono bo.out (fun k_ hk => (⟨hk, hk.2.2.2⟩ : _ ∧ k_ ≠ a))) (fun _ hk => hk.2)) (fun _ hk => hk.1.1), by (with_reducible repeat apply pV); exact Kd.V_mono (f6V a (Kd.V_mono eM.out (fun k_ hk => (⟨hk, hk.2.2.2⟩ : _ ∧ k_ ≠ a))) (fun _ hk => hk.2)) (fun _ hk => hk.1.1), bl_⟩
        ·replace bO := Bool.eq_false_iff.mpr bO
         subst bO
         have H1 : (some (u, x, j, y, z, A, some (Er.num 1), ([] : List (S164)))) = some (r1, r2, r3, r4, r5, r6, r7, r8) := by rw [if_neg (show ¬ (false = true) by decide)] at H; exact H
         clear H
         have H := H1
         clear H1
         simp only [Option.some.injEq, Prod.mk.injEq] at H
         obtain ⟨rfl, rfl, rfl, rfl, rfl, rfl, rfl, rfl⟩ := H
         have gp := G.out
         have gL := P.out
         have gq := S.out
         have gM := T.out
         obtain ⟨fe, ff, fg, fh, fi, fj, fE, fF, fG, fH, fI, fJ⟩ := cells6 b.out
         have gr := I.out
         have gN := Q.out
         obtain ⟨fk, fl, fm, fn, fo, fp, fK, fL, fM, fN, fO, fP⟩ := cells6 i.out
         go_wp2
         refine bodyPost_ret (results_ct rfl _ _ a 24 #[.int .i64 u, .int .i64 x, .slice M j.length O, .int .i64 y, .bool z, .bool A] (0, 0) _ rfl (put6 i.out) Tryd.underlying24 rfl (by kernel_rfl)) rfl ?_
         exact ⟨_, _, er_, by (with_reducible repeat apply pV); exact Kd.V_mono (f6V a (Kd.V_mono HO_1301002.out (fun k_ hk => (⟨hk, hk.2.2.2⟩ : _ ∧ k_ ≠ a))) (fun _ hk => hk.2)) (fun _ hk => hk.1.1), Kd.R_V (Kd.R_nil _ _ _ 0 _), bl_⟩
end Go.Proofs.YtggecanpjkpkiaaDoor.P
