/- Printed walks of the law's functions, joined by joinpx.py: each function as a plain Lean function, and that Go's code comes to its answer. -/
import Derived.Test.YtggecanpjkpkiaaDoorJKeysKeeps1
import Derived.Test.YtggecanpjkpkiaaDoorJKeysKeeps8
import Derived.Test.YtggecanpjkpkiaaDoorJKeysKeeps7
import Derived.Test.YtggecanpjkpkiaaDoorPx33
import Derived.Test.YtggecanpjkpkiaaDoorJKeysKeeps9
import Derived.Test.YtggecanpjkpkiaaDoorJKeysKeeps5
import Derived.Test.YtggecanpjkpkiaaDoorPx3
import Derived.Test.YtggecanpjkpkiaaDoorJKeysKeeps3
namespace Go.Proofs.YtggecanpjkpkiaaDoor.P
open Go.RowKit Go.Proofs.YtggecanpjkpkiaaDoorW.PrintWords Go.Proofs.YtggecanpjkpkiaaDoorW.PrintLast Go.Proofs.YtggecanpjkpkiaaDoorW.PrintMore
attribute [local go_sem] max2_int min2_int max_two min_two max_three min_three max_four min_four
attribute [local go_sem] Instr.field asAgg
set_option linter.unusedVariables false
set_option linter.unusedSimpArgs false
set_option maxHeartbeats 8000000
set_option maxRecDepth 100000
def keys_plain.j0 : Nat → Bool → Int → Int → List (S35) → Int → Bool → Bool → Int → Int → Option (Int × Int × (List (S35)) × Int × Bool × Bool × Option Er × (List (S164)))
 | 0, _, _, _, _, _, _, _, _, _ => none
 | k + 1, l, b, c, d, e, g, h, i, j => if l = true then ((keys_set.f k b c d e g h i).bind fun a => (some (a.1, a.2.1, a.2.2.1, a.2.2.2.1, a.2.2.2.2.1, a.2.2.2.2.2.1, a.2.2.2.2.2.2.1, a.2.2.2.2.2.2.2))) else (some (b, c, d, e, g, h, some (Er.num 1), ([] : List (S164))))
def keys_plain.f (k : Nat) (h : Int) (i : Int) (n : List (S35)) (j : Int) (l : Bool) (m : Bool) (g : Int) (o : Int) : Option (Int × Int × (List (S35)) × Int × Bool × Bool × Option Er × (List (S164))) := (move_Moves.f g).bind fun p => (if p = true then ((move_Do.f k h i n j l m g).bind fun a => (some (a.1, a.2.1, a.2.2.1, a.2.2.2.1, a.2.2.2.2.1, a.2.2.2.2.2.1, a.2.2.2.2.2.2.1, a.2.2.2.2.2.2.2))) else ((wipe_Wipes.f g).bind fun q => (if q = true then ((wipe_Do.f k h i n j l m g).bind fun b => (some (b.1, b.2.1, b.2.2.1, b.2.2.2.1, b.2.2.2.2.1, b.2.2.2.2.2.1, b.2.2.2.2.2.2.1, b.2.2.2.2.2.2.2))) else (if g = 11 then ((edit_Type.f k h i n j l m 30).bind fun c => (some (c.1, c.2.1, c.2.2.1, c.2.2.2.1, c.2.2.2.2.1, c.2.2.2.2.2.1, c.2.2.2.2.2.2.1, c.2.2.2.2.2.2.2))) else (if g = 1 then ((edit_Type.f k h i n j l m o).bind fun d => (some (d.1, d.2.1, d.2.2.1, d.2.2.2.1, d.2.2.2.2.1, d.2.2.2.2.2.1, d.2.2.2.2.2.2.1, d.2.2.2.2.2.2.2))) else (if g = 10 then ((keys_dup.f k h i n j l m).bind fun e => (some (e.1, e.2.1, e.2.2.1, e.2.2.2.1, e.2.2.2.2.1, e.2.2.2.2.2.1, e.2.2.2.2.2.2.1, e.2.2.2.2.2.2.2))) else (if g = 15 then (keys_plain.j0 k (g == 15) h i n j l m g o) else (keys_plain.j0 k (g == 16) h i n j l m g o))))))))
theorem keys_plain.mono_l : ∀ k, (∀ b c d e f g i j l, LeO (keys_plain.j0 k b c d e f g i j l) (keys_plain.j0 (k + 1) b c d e f g i j l))
 | 0 => fun _ _ _ _ _ _ _ _ _ r h => by simp [keys_plain.j0] at h
 | k + 1 => by
  have a := keys_plain.mono_l k
  ·intro b c d e f g i j l
   unfold keys_plain.j0
   repeat' first
   | (with_reducible exact a _ _ _ _ _ _ _ _ _)
   | (with_reducible exact edit_Type.mono _ _ _ _ _ _ _ _)
   | (with_reducible exact keys_dup.mono _ _ _ _ _ _ _)
   | (with_reducible exact keys_set.mono _ _ _ _ _ _ _ _)
   | (with_reducible exact move_Do.mono _ _ _ _ _ _ _ _)
   | (with_reducible exact wipe_Do.mono _ _ _ _ _ _ _ _)
   | (with_reducible exact LeO.refl _)
   | (with_reducible exact LeO.none _)
   | (with_reducible refine LeO.ite ?_ ?_)
   | (with_reducible refine LeO.bind ?_ (fun _ => ?_))
   | exact a _ _ _ _ _ _ _ _ _
   | exact edit_Type.mono _ _ _ _ _ _ _ _
   | exact keys_dup.mono _ _ _ _ _ _ _
   | exact keys_set.mono _ _ _ _ _ _ _ _
   | exact move_Do.mono _ _ _ _ _ _ _ _
   | exact wipe_Do.mono _ _ _ _ _ _ _ _
   | exact LeO.none _
   | refine LeO.ite ?_ ?_
   | refine LeO.bind ?_ (fun _ => ?_)
theorem keys_plain.mono : ∀ a0 a1 b c a4 d e g k, LeO (keys_plain.f k a0 a1 b c a4 d e g) (keys_plain.f (k + 1) a0 a1 b c a4 d e g) := by
 intro a0 a1 b c a4 d e g k
 have a := keys_plain.mono_l k
 unfold keys_plain.f
 repeat' first
   | (with_reducible exact a _ _ _ _ _ _ _ _ _)
   | (with_reducible exact edit_Type.mono _ _ _ _ _ _ _ _)
   | (with_reducible exact keys_dup.mono _ _ _ _ _ _ _)
   | (with_reducible exact keys_set.mono _ _ _ _ _ _ _ _)
   | (with_reducible exact move_Do.mono _ _ _ _ _ _ _ _)
   | (with_reducible exact wipe_Do.mono _ _ _ _ _ _ _ _)
   | (with_reducible exact LeO.refl _)
   | (with_reducible exact LeO.none _)
   | (with_reducible refine LeO.ite ?_ ?_)
   | (with_reducible refine LeO.bind ?_ (fun _ => ?_))
   | exact a _ _ _ _ _ _ _ _ _
   | exact edit_Type.mono _ _ _ _ _ _ _ _
   | exact keys_dup.mono _ _ _ _ _ _ _
   | exact keys_set.mono _ _ _ _ _ _ _ _
   | exact move_Do.mono _ _ _ _ _ _ _ _
   | exact wipe_Do.mono _ _ _ _ _ _ _ _
   | exact LeO.none _
   | refine LeO.ite ?_ ?_
   | refine LeO.bind ?_ (fun _ => ?_)
theorem keys_plain.calls (k : Nat) (u : Int) (x : Int) (F : Nat → Prop) (M : Option Addr) (O : Nat) (j : List (S35)) (y : Int) (z : Bool) (A : Bool) (g : Int) (R : Int) (r1 : Int) (r2 : Int) (r3 : List (S35)) (r4 : Int) (r5 : Bool) (r6 : Bool) (r7 : Option Er) (r8 : List (S164)) (w : World) (eO : Kd.V k35 35 w w.heap.size (fun k_ => F k_) (.slice M j.length O) j) (h : keys_plain.f k u x j y z A g R = some (r1, r2, r3, r4, r5, r6, r7, r8)) :
  Calls Tryd.prog 65 #[.agg #[.int .i64 u, .int .i64 x, .slice M j.length O, .int .i64 y, .bool z, .bool A], .agg #[.int .i64 g, .int .u8 R]] w fun e w' => ∃ eR eS : Value, e = .returned (.tuple #[.agg #[.int .i64 r1, .int .i64 r2, eR, .int .i64 r4, .bool r5, .bool r6], errW eS r7]) ∧ Kd.V k35 35 w' w.heap.size (fun k_ => (F k_ ∨ w.heap.size ≤ k_)) eR r3 ∧ Kd.V k164 164 w' w.heap.size (fun k_ => (F k_ ∨ w.heap.size ≤ k_)) eS r8 ∧ Below w.heap.size w w' := by
 have g4 := Tryd.underlying24
 have g7 := Tryd.underlying58
 have g5 := Tryd.underlying28
 have g6 := Tryd.underlying52
 have d := Z (show Kd.V k35 35 w w.heap.size (fun k_ => (F k_ ∨ w.heap.size ≤ k_)) (.slice M j.length O) j from Kd.V_mono eO (fun k_ hk => .inl hk))
 have HB := Z (Below.refl w.heap.size w)
 have H : ((move_Moves.f g).bind fun bh => (if bh = true then ((move_Do.f k u x j y z A g).bind fun J => (some (J.1, J.2.1, J.2.2.1, J.2.2.2.1, J.2.2.2.2.1, J.2.2.2.2.2.1, J.2.2.2.2.2.2.1, J.2.2.2.2.2.2.2))) else ((wipe_Wipes.f g).bind fun al => (if al = true then ((wipe_Do.f k u x j y z A g).bind fun B => (some (B.1, B.2.1, B.2.2.1, B.2.2.2.1, B.2.2.2.2.1, B.2.2.2.2.2.1, B.2.2.2.2.2.2.1, B.2.2.2.2.2.2.2))) else (if g = 11 then ((edit_Type.f k u x j y z A 30).bind fun C => (some (C.1, C.2.1, C.2.2.1, C.2.2.2.1, C.2.2.2.2.1, C.2.2.2.2.2.1, C.2.2.2.2.2.2.1, C.2.2.2.2.2.2.2))) else (if g = 1 then ((edit_Type.f k u x j y z A R).bind fun D => (some (D.1, D.2.1, D.2.2.1, D.2.2.2.1, D.2.2.2.2.1, D.2.2.2.2.2.1, D.2.2.2.2.2.2.1, D.2.2.2.2.2.2.2))) else (if g = 10 then ((keys_dup.f k u x j y z A).bind fun E => (some (E.1, E.2.1, E.2.2.1, E.2.2.2.1, E.2.2.2.2.1, E.2.2.2.2.2.1, E.2.2.2.2.2.2.1, E.2.2.2.2.2.2.2))) else (if g = 15 then (keys_plain.j0 k (g == 15) u x j y z A g R) else (keys_plain.j0 k (g == 16) u x j y z A g R))))))))) = some (r1, r2, r3, r4, r5, r6, r7, r8) := h
 clear h
 replace H := Option.bind_eq_some_iff.mp H
 obtain ⟨bh, eP, H⟩ := H
 replace H : (if bh = true then ((move_Do.f k u x j y z A g).bind fun J => (some (J.1, J.2.1, J.2.2.1, J.2.2.2.1, J.2.2.2.2.1, J.2.2.2.2.2.1, J.2.2.2.2.2.2.1, J.2.2.2.2.2.2.2))) else ((wipe_Wipes.f g).bind fun al => (if al = true then ((wipe_Do.f k u x j y z A g).bind fun B => (some (B.1, B.2.1, B.2.2.1, B.2.2.2.1, B.2.2.2.2.1, B.2.2.2.2.2.1, B.2.2.2.2.2.2.1, B.2.2.2.2.2.2.2))) else (if g = 11 then ((edit_Type.f k u x j y z A 30).bind fun C => (some (C.1, C.2.1, C.2.2.1, C.2.2.2.1, C.2.2.2.2.1, C.2.2.2.2.2.1, C.2.2.2.2.2.2.1, C.2.2.2.2.2.2.2))) else (if g = 1 then ((edit_Type.f k u x j y z A R).bind fun D => (some (D.1, D.2.1, D.2.2.1, D.2.2.2.1, D.2.2.2.2.1, D.2.2.2.2.2.1, D.2.2.2.2.2.2.1, D.2.2.2.2.2.2.2))) else (if g = 10 then ((keys_dup.f k u x j y z A).bind fun E => (some (E.1, E.2.1, E.2.2.1, E.2.2.2.1, E.2.2.2.2.1, E.2.2.2.2.2.1, E.2.2.2.2.2.2.1, E.2.2.2.2.2.2.2))) else (if g = 15 then (keys_plain.j0 k (g == 15) u x j y z A g R) else (keys_plain.j0 k (g == 16) u x j y z A g R)))))))) = some (r1, r2, r3, r4, r5, r6, r7, r8) := H
 have A3 := Z eP
 clear eP
 by_cases c4 : bh = true
 ·subst c4
  have H1 : ((move_Do.f k u x j y z A g).bind fun J => (some (J.1, J.2.1, J.2.2.1, J.2.2.2.1, J.2.2.2.2.1, J.2.2.2.2.2.1, J.2.2.2.2.2.2.1, J.2.2.2.2.2.2.2))) = some (r1, r2, r3, r4, r5, r6, r7, r8) := by rw [if_pos rfl] at H; exact H
  clear H
  have H := H1
  clear H1
  replace H := Option.bind_eq_some_iff.mp H
  obtain ⟨⟨aC, aD, aE, aF, aG, aH, bP, bQ⟩, eQ, H⟩ := H
  replace H : (some (aC, aD, aE, aF, aG, aH, bP, bQ)) = some (r1, r2, r3, r4, r5, r6, r7, r8) := H
  have A5 := Z eQ
  clear eQ
  simp only [Option.some.injEq, Prod.mk.injEq] at H
  obtain ⟨rfl, rfl, rfl, rfl, rfl, rfl, rfl, rfl⟩ := H
  go_enter Tryd.func65, Tryd.ntmps65
  go_wp2_with (first | ((with_reducible refine gate_dst (N := 2) rfl ?_); refine bx_ 2 24 #[.int .i64 u, .int .i64 x, .slice M j.length O, .int .i64 y, .bool z, .bool A] ?_; intro m hg w6 hbox hb; replace d := Z (ve d.out hg hb); have b := Z (hbox); have ay := Z (ln_ hg : w.heap.size ≤ m); have av := ay; replace HB := bs_ hb; clear hb hbox hg) | ((with_reducible refine gate_dst (N := 3) rfl ?_); refine bx_ 3 58 #[.int .i64 g, .int .u8 R] ?_; intro l hg w7 hbox hb; replace d := Z (ve d.out hg hb); have c := Z (hbox); have az := Z (ln_ hg : w.heap.size ≤ l); have aw := az; replace HB := bs_ hb; have G := nl' b hg; have P := ng' b hg; replace b := kb' b hb; clear hb hbox hg) | ((with_reducible refine gate_dst (N := 4) rfl ?_); refine bx_ 4 24 #[.int .i64 0, .int .i64 0, .slice none 0 0, .int .i64 0, .bool false, .bool false] ?_; intro a hg w8 hbox hb; replace d := Z (ve d.out hg hb); have i := Z (hbox); have aA := Z (ln_ hg : w.heap.size ≤ a); have ax := aA; replace HB := bs_ hb; have S := nl' b hg; have T := ng' b hg; replace b := kb' b hb; have Q := nl' c hg; have I := ng' c hg; replace c := kb' c hb; clear hb hbox hg; have g2 := P.out; have g3 := G.out; have fW := Q.out; have gs := I.out; obtain ⟨b2, b3, dp, dq⟩ := cells2 c.out) | ((with_reducible refine gate_callee (f := 85) rfl ?_); refine goesL_ (some 9) rfl rfl Tryd.func85 (by kernel_rfl) rfl #[.int .i64 g] rfl ag_ ?_; (with_reducible refine (move_Moves.calls g true _ A3.out).mono ?_); rintro e w' ⟨rfl, ⟨nd, rfl⟩⟩; refine ⟨_, rfl, ?_⟩; (try (rw [drewN_self w8]; generalize hq_ : World.drewN w8 _ = w8; replace d := Z (qV hq_ d.out); replace b := Z (qM hq_ b.out); replace c := Z (qM hq_ c.out); replace i := Z (qM hq_ i.out); replace HB := Z (qB hq_ HB.out); clear hq_)); (try obtain ⟨W, X, Y, aa⟩ := cells2 c.out); have fX := S.out; have gt := T.out; obtain ⟨b4, b5, b6, b7, b8, b9, dr, ds, dt, du, dv, dw⟩ := cells6 b.out) | ((with_reducible refine gate_callee (f := 86) rfl ?_); refine goesL_ (some 13) rfl rfl Tryd.func86 (by kernel_rfl) rfl #[.agg #[.int .i64 u, .int .i64 x, .slice M j.length O, .int .i64 y, .bool z, .bool A], .int .i64 g] rfl ag_ ?_; (with_reducible refine (move_Do.calls k u x (fun k_ => ((((F k_ ∨ w.heap.size ≤ k_) ∧ k_ ≠ m) ∧ k_ ≠ l) ∧ k_ ≠ a)) _ _ j y z A g aC aD aE aF aG aH bP bQ _ ?side1 A5.out).mono ?_); (case side1 => exact d.out); rintro e hx ⟨gO, gP, rfl, ad, ae, hb⟩; refine ⟨_, rfl, ?_⟩; replace d := vb' d hb; have bj := Z (Kd.V_lower (Kd.V_mono (ok' := fun k_ => (F k_ ∨ w.heap.size ≤ k_) ∧ k_ ≠ m ∧ k_ ≠ l ∧ k_ ≠ a) ad (fun k_ hk_ => hk_.elim (fun hs_ => ⟨hs_.1.1.1, hs_.1.1.2, hs_.1.2, hs_.2⟩) (fun hn_ => ⟨(ir_ hn_), (fb b.out k_ hn_), (fb c.out k_ hn_), (fb i.out k_ hn_)⟩))) (below_size bl_)); have eH := Z (Kd.V_lower (Kd.V_mono (ok' := fun k_ => (F k_ ∨ w.heap.size ≤ k_) ∧ k_ ≠ m ∧ k_ ≠ l ∧ k_ ≠ a) ae (fun k_ hk_ => hk_.elim (fun hs_ => ⟨hs_.1.1.1, hs_.1.1.2, hs_.1.2, hs_.2⟩) (fun hn_ => ⟨(ir_ hn_), (fb b.out k_ hn_), (fb c.out k_ hn_), (fb i.out k_ hn_)⟩))) (below_size bl_)); replace b := kb' b hb; replace c := kb' c hb; replace i := kb' i hb; replace HB := bs_ hb; clear hb ad ae; (try simp only [errW_none, errW_some]); obtain ⟨ca, cb, cc, cd, ce, cf, dx, dy, dz, dA, dB, dC⟩ := cells6 i.out; obtain ⟨bt, bB, eT⟩ := Kd.V_slice bj.out; subst eT))
  refine bodyPost_ret (results_ct rfl _ _ a 24 #[.int .i64 aC, .int .i64 aD, .slice bt aE.length bB, .int .i64 aF, .bool aG, .bool aH] (0, 0) _ rfl (put6 i.out) Tryd.underlying24 rfl (by kernel_rfl)) rfl ?_
  exact ⟨_, _, er_, by (with_reducible repeat apply pV); exact Kd.V_mono (f6V a (Kd.V_mono bj.out (fun k_ hk => (⟨hk, hk.2.2.2⟩ : _ ∧ k_ ≠ a))) (fun _ hk => hk.2)) (fun _ hk => hk.1.1), by (with_reducible repeat apply pV); exact Kd.V_mono (f6V a (Kd.V_mono eH.out (fun k_ hk => (⟨hk, hk.2.2.2⟩ : _ ∧ k_ ≠ a))) (fun _ hk => hk.2)) (fun _ hk => hk.1.1), bl_⟩
 ·replace c4 := Bool.eq_false_iff.mpr c4
  subst c4
  have H1 : ((wipe_Wipes.f g).bind fun al => (if al = true then ((wipe_Do.f k u x j y z A g).bind fun B => (some (B.1, B.2.1, B.2.2.1, B.2.2.2.1, B.2.2.2.2.1, B.2.2.2.2.2.1, B.2.2.2.2.2.2.1, B.2.2.2.2.2.2.2))) else (if g = 11 then ((edit_Type.f k u x j y z A 30).bind fun C => (some (C.1, C.2.1, C.2.2.1, C.2.2.2.1, C.2.2.2.2.1, C.2.2.2.2.2.1, C.2.2.2.2.2.2.1, C.2.2.2.2.2.2.2))) else (if g = 1 then ((edit_Type.f k u x j y z A R).bind fun D => (some (D.1, D.2.1, D.2.2.1, D.2.2.2.1, D.2.2.2.2.1, D.2.2.2.2.2.1, D.2.2.2.2.2.2.1, D.2.2.2.2.2.2.2))) else (if g = 10 then ((keys_dup.f k u x j y z A).bind fun E => (some (E.1, E.2.1, E.2.2.1, E.2.2.2.1, E.2.2.2.2.1, E.2.2.2.2.2.1, E.2.2.2.2.2.2.1, E.2.2.2.2.2.2.2))) else (if g = 15 then (keys_plain.j0 k (g == 15) u x j y z A g R) else (keys_plain.j0 k (g == 16) u x j y z A g R))))))) = some (r1, r2, r3, r4, r5, r6, r7, r8) := by rw [if_neg (show ¬ (false = true) by decide)] at H; exact H
  clear H
  have H := H1
  clear H1
  replace H := Option.bind_eq_some_iff.mp H
  obtain ⟨al, eB, H⟩ := H
  replace H : (if al = true then ((wipe_Do.f k u x j y z A g).bind fun B => (some (B.1, B.2.1, B.2.2.1, B.2.2.2.1, B.2.2.2.2.1, B.2.2.2.2.2.1, B.2.2.2.2.2.2.1, B.2.2.2.2.2.2.2))) else (if g = 11 then ((edit_Type.f k u x j y z A 30).bind fun C => (some (C.1, C.2.1, C.2.2.1, C.2.2.2.1, C.2.2.2.2.1, C.2.2.2.2.2.1, C.2.2.2.2.2.2.1, C.2.2.2.2.2.2.2))) else (if g = 1 then ((edit_Type.f k u x j y z A R).bind fun D => (some (D.1, D.2.1, D.2.2.1, D.2.2.2.1, D.2.2.2.2.1, D.2.2.2.2.2.1, D.2.2.2.2.2.2.1, D.2.2.2.2.2.2.2))) else (if g = 10 then ((keys_dup.f k u x j y z A).bind fun E => (some (E.1, E.2.1, E.2.2.1, E.2.2.2.1, E.2.2.2.2.1, E.2.2.2.2.2.1, E.2.2.2.2.2.2.1, E.2.2.2.2.2.2.2))) else (if g = 15 then (keys_plain.j0 k (g == 15) u x j y z A g R) else (keys_plain.j0 k (g == 16) u x j y z A g R)))))) = some (r1, r2, r3, r4, r5, r6, r7, r8) := H
  have bi := Z eB
  clear eB
  by_cases bp : al = true
  ·subst bp
   have H1 : ((wipe_Do.f k u x j y z A g).bind fun B => (some (B.1, B.2.1, B.2.2.1, B.2.2.2.1, B.2.2.2.2.1, B.2.2.2.2.2.1, B.2.2.2.2.2.2.1, B.2.2.2.2.2.2.2))) = some (r1, r2, r3, r4, r5, r6, r7, r8) := by rw [if_pos rfl] at H; exact H
   clear H
   have H := H1
   clear H1
   replace H := Option.bind_eq_some_iff.mp H
   obtain ⟨⟨aI, aJ, aK, aL, aM, aN, bR, bS⟩, eC, H⟩ := H
   replace H : (some (aI, aJ, aK, aL, aM, aN, bR, bS)) = some (r1, r2, r3, r4, r5, r6, r7, r8) := H
   have fQ := Z eC
   clear eC
   simp only [Option.some.injEq, Prod.mk.injEq] at H
   obtain ⟨rfl, rfl, rfl, rfl, rfl, rfl, rfl, rfl⟩ := H
   go_enter Tryd.func65, Tryd.ntmps65
   go_wp2_with (first | ((with_reducible refine gate_dst (N := 2) rfl ?_); refine bx_ 2 24 #[.int .i64 u, .int .i64 x, .slice M j.length O, .int .i64 y, .bool z, .bool A] ?_; intro m hg hy hbox hb; replace d := Z (ve d.out hg hb); have b := Z (hbox); have ay := Z (ln_ hg : w.heap.size ≤ m); have av := ay; replace HB := bs_ hb; clear hb hbox hg) | ((with_reducible refine gate_dst (N := 3) rfl ?_); refine bx_ 3 58 #[.int .i64 g, .int .u8 R] ?_; intro l hg hz hbox hb; replace d := Z (ve d.out hg hb); have c := Z (hbox); have az := Z (ln_ hg : w.heap.size ≤ l); have aw := az; replace HB := bs_ hb; have G := nl' b hg; have P := ng' b hg; replace b := kb' b hb; clear hb hbox hg) | ((with_reducible refine gate_dst (N := 4) rfl ?_); refine bx_ 4 24 #[.int .i64 0, .int .i64 0, .slice none 0 0, .int .i64 0, .bool false, .bool false] ?_; intro a hg ai hbox hb; replace d := Z (ve d.out hg hb); have i := Z (hbox); have aA := Z (ln_ hg : w.heap.size ≤ a); have ax := aA; replace HB := bs_ hb; have S := nl' b hg; have T := ng' b hg; replace b := kb' b hb; have Q := nl' c hg; have I := ng' c hg; replace c := kb' c hb; clear hb hbox hg; have fY := P.out; have gu := G.out; have fZ := Q.out; have gv := I.out; obtain ⟨cg, ch, dD, dE⟩ := cells2 c.out) | ((with_reducible refine gate_callee (f := 85) rfl ?_); refine goesL_ (some 9) rfl rfl Tryd.func85 (by kernel_rfl) rfl #[.int .i64 g] rfl ag_ ?_; (with_reducible refine (move_Moves.calls g false _ A3.out).mono ?_); rintro e w' ⟨rfl, ⟨nd, rfl⟩⟩; refine ⟨_, rfl, ?_⟩; (try (rw [drewN_self ai]; generalize hq_ : World.drewN ai _ = ai; replace d := Z (qV hq_ d.out); replace b := Z (qM hq_ b.out); replace c := Z (qM hq_ c.out); replace i := Z (qM hq_ i.out); replace HB := Z (qB hq_ HB.out); clear hq_)); (try obtain ⟨W, X, Y, aa⟩ := cells2 c.out)) | ((with_reducible refine gate_callee (f := 29) rfl ?_); refine goesL_ (some 19) rfl rfl Tryd.func29 (by kernel_rfl) rfl #[.int .i64 g] rfl ag_ ?_; (with_reducible refine (wipe_Wipes.calls g true _ bi.out).mono ?_); rintro e w' ⟨rfl, ⟨nd, rfl⟩⟩; refine ⟨_, rfl, ?_⟩; (try (rw [drewN_self ai]; generalize hq_ : World.drewN ai _ = ai; replace d := Z (qV hq_ d.out); replace b := Z (qM hq_ b.out); replace c := Z (qM hq_ c.out); replace i := Z (qM hq_ i.out); replace HB := Z (qB hq_ HB.out); clear hq_)); (try obtain ⟨W, X, Y, aa⟩ := cells2 c.out); have ga := S.out; have gw := T.out; obtain ⟨ci, cj, ck, cl, cm, cn, dF, dG, dH, dI, dJ, dK⟩ := cells6 b.out) | ((with_reducible refine gate_callee (f := 19) rfl ?_); refine goesL_ (some 23) rfl rfl Tryd.func19 (by kernel_rfl) rfl #[.agg #[.int .i64 u, .int .i64 x, .slice M j.length O, .int .i64 y, .bool z, .bool A], .int .i64 g] rfl ag_ ?_; (with_reducible refine (wipe_Do.calls k u x (fun k_ => ((((F k_ ∨ w.heap.size ≤ k_) ∧ k_ ≠ m) ∧ k_ ≠ l) ∧ k_ ≠ a)) _ _ j y z A g aI aJ aK aL aM aN bR bS _ ?side1 fQ.out).mono ?_); (case side1 => exact d.out); rintro e hA ⟨gQ, gR, rfl, ad, ae, hb⟩; refine ⟨_, rfl, ?_⟩; replace d := vb' d hb; have bk := Z (Kd.V_lower (Kd.V_mono (ok' := fun k_ => (F k_ ∨ w.heap.size ≤ k_) ∧ k_ ≠ m ∧ k_ ≠ l ∧ k_ ≠ a) ad (fun k_ hk_ => hk_.elim (fun hs_ => ⟨hs_.1.1.1, hs_.1.1.2, hs_.1.2, hs_.2⟩) (fun hn_ => ⟨(ir_ hn_), (fb b.out k_ hn_), (fb c.out k_ hn_), (fb i.out k_ hn_)⟩))) (below_size bl_)); have eI := Z (Kd.V_lower (Kd.V_mono (ok' := fun k_ => (F k_ ∨ w.heap.size ≤ k_) ∧ k_ ≠ m ∧ k_ ≠ l ∧ k_ ≠ a) ae (fun k_ hk_ => hk_.elim (fun hs_ => ⟨hs_.1.1.1, hs_.1.1.2, hs_.1.2, hs_.2⟩) (fun hn_ => ⟨(ir_ hn_), (fb b.out k_ hn_), (fb c.out k_ hn_), (fb i.out k_ hn_)⟩))) (below_size bl_)); replace b := kb' b hb; replace c := kb' c hb; replace i := kb' i hb; replace HB := bs_ hb; clear hb ad ae; (try simp only [errW_none, errW_some]); obtain ⟨co, cp, cq, cr, ct, cu, dL, dM, dN, dO, dP, dQ⟩ := cells6 i.out; obtain ⟨bu, bC, eU⟩ := Kd.V_slice bk.out; subst eU))
   refine bodyPost_ret (results_ct rfl _ _ a 24 #[.int .i64 aI, .int .i64 aJ, .slice bu aK.length bC, .int .i64 aL, .bool aM, .bool aN] (0, 0) _ rfl (put6 i.out) Tryd.underlying24 rfl (by kernel_rfl)) rfl ?_
   exact ⟨_, _, er_, by (with_reducible repeat apply pV); exact Kd.V_mono (f6V a (Kd.V_mono bk.out (fun k_ hk => (⟨hk, hk.2.2.2⟩ : _ ∧ k_ ≠ a))) (fun _ hk => hk.2)) (fun _ hk => hk.1.1), by (with_reducible repeat apply pV); exact Kd.V_mono (f6V a (Kd.V_mono eI.out (fun k_ hk => (⟨hk, hk.2.2.2⟩ : _ ∧ k_ ≠ a))) (fun _ hk => hk.2)) (fun _ hk => hk.1.1), bl_⟩
  ·replace bp := Bool.eq_false_iff.mpr bp
   subst bp
   have H1 : (if g = 11 then ((edit_Type.f k u x j y z A 30).bind fun C => (some (C.1, C.2.1, C.2.2.1, C.2.2.2.1, C.2.2.2.2.1, C.2.2.2.2.2.1, C.2.2.2.2.2.2.1, C.2.2.2.2.2.2.2))) else (if g = 1 then ((edit_Type.f k u x j y z A R).bind fun D => (some (D.1, D.2.1, D.2.2.1, D.2.2.2.1, D.2.2.2.2.1, D.2.2.2.2.2.1, D.2.2.2.2.2.2.1, D.2.2.2.2.2.2.2))) else (if g = 10 then ((keys_dup.f k u x j y z A).bind fun E => (some (E.1, E.2.1, E.2.2.1, E.2.2.2.1, E.2.2.2.2.1, E.2.2.2.2.2.1, E.2.2.2.2.2.2.1, E.2.2.2.2.2.2.2))) else (if g = 15 then (keys_plain.j0 k (g == 15) u x j y z A g R) else (keys_plain.j0 k (g == 16) u x j y z A g R))))) = some (r1, r2, r3, r4, r5, r6, r7, r8) := by rw [if_neg (show ¬ (false = true) by decide)] at H; exact H
   clear H
   have H := H1
   clear H1
   by_cases bd : g = 11
   ·rw [if_pos bd] at H
    obtain ⟨bH, bI⟩ := eT_ bd
    clear bd
    replace H := Option.bind_eq_some_iff.mp H
    obtain ⟨⟨aO, aP, aQ, aR, aS, aT, bT, bU⟩, eD, H⟩ := H
    replace H : (some (aO, aP, aQ, aR, aS, aT, bT, bU)) = some (r1, r2, r3, r4, r5, r6, r7, r8) := H
    have fR := Z eD
    clear eD
    simp only [Option.some.injEq, Prod.mk.injEq] at H
    obtain ⟨rfl, rfl, rfl, rfl, rfl, rfl, rfl, rfl⟩ := H
    go_enter Tryd.func65, Tryd.ntmps65
    go_wp2_with (first | ((with_reducible refine gate_dst (N := 2) rfl ?_); refine bx_ 2 24 #[.int .i64 u, .int .i64 x, .slice M j.length O, .int .i64 y, .bool z, .bool A] ?_; intro m hg hB hbox hb; replace d := Z (ve d.out hg hb); have b := Z (hbox); have ay := Z (ln_ hg : w.heap.size ≤ m); have av := ay; replace HB := bs_ hb; clear hb hbox hg) | ((with_reducible refine gate_dst (N := 3) rfl ?_); refine bx_ 3 58 #[.int .i64 g, .int .u8 R] ?_; intro l hg hC hbox hb; replace d := Z (ve d.out hg hb); have c := Z (hbox); have az := Z (ln_ hg : w.heap.size ≤ l); have aw := az; replace HB := bs_ hb; have G := nl' b hg; have P := ng' b hg; replace b := kb' b hb; clear hb hbox hg) | ((with_reducible refine gate_dst (N := 4) rfl ?_); refine bx_ 4 24 #[.int .i64 0, .int .i64 0, .slice none 0 0, .int .i64 0, .bool false, .bool false] ?_; intro a hg ah hbox hb; replace d := Z (ve d.out hg hb); have i := Z (hbox); have aA := Z (ln_ hg : w.heap.size ≤ a); have ax := aA; replace HB := bs_ hb; have S := nl' b hg; have T := ng' b hg; replace b := kb' b hb; have Q := nl' c hg; have I := ng' c hg; replace c := kb' c hb; clear hb hbox hg; have gb := P.out; have gx := G.out; have gc := Q.out; have gy := I.out; obtain ⟨cv, cw, dR, dS⟩ := cells2 c.out) | ((with_reducible refine gate_callee (f := 85) rfl ?_); refine goesL_ (some 9) rfl rfl Tryd.func85 (by kernel_rfl) rfl #[.int .i64 g] rfl ag_ ?_; (with_reducible refine (move_Moves.calls g false _ A3.out).mono ?_); rintro e w' ⟨rfl, ⟨nd, rfl⟩⟩; refine ⟨_, rfl, ?_⟩; (try (rw [drewN_self ah]; generalize hq_ : World.drewN ah _ = ah; replace d := Z (qV hq_ d.out); replace b := Z (qM hq_ b.out); replace c := Z (qM hq_ c.out); replace i := Z (qM hq_ i.out); replace HB := Z (qB hq_ HB.out); clear hq_)); (try obtain ⟨W, X, Y, aa⟩ := cells2 c.out)) | ((with_reducible refine gate_callee (f := 29) rfl ?_); refine goesL_ (some 19) rfl rfl Tryd.func29 (by kernel_rfl) rfl #[.int .i64 g] rfl ag_ ?_; (with_reducible refine (wipe_Wipes.calls g false _ bi.out).mono ?_); rintro e w' ⟨rfl, ⟨nd, rfl⟩⟩; refine ⟨_, rfl, ?_⟩; (try (rw [drewN_self ah]; generalize hq_ : World.drewN ah _ = ah; replace d := Z (qV hq_ d.out); replace b := Z (qM hq_ b.out); replace c := Z (qM hq_ c.out); replace i := Z (qM hq_ i.out); replace HB := Z (qB hq_ HB.out); clear hq_)); (try obtain ⟨W, X, Y, aa⟩ := cells2 c.out)) | ((with_reducible refine gate_store (t := 5) (p := 37) rfl ?_); refine sx_ 5 37 (ah.setCell ⟨l, 1, none⟩ (.int .u8 30)) ?_; intro br hw; replace d : Aside0 (Kd.V k35 35 br w.heap.size (fun k_ => (F k_ ∨ w.heap.size ≤ k_) ∧ k_ ≠ m ∧ k_ ≠ l ∧ k_ ≠ a) (.slice M j.length O) j) := ⟨(by rw [hw]; exact (by (with_reducible repeat apply pV); exact V_off d.out (fun k_ hk => hk.1.2) off2_ (fun _ hk => ⟨hk.1.1.1, ⟨hk.1.1.2, ⟨hk.1.2, hk.2⟩⟩⟩)))⟩; replace b := Z (sM hw (blk_off b.out G.out off2_)); replace c : Aside0 (br.heap[l]? = some (.cells #[.int .i64 g, .int .u8 30] 58 (0, 0))) := ⟨(by rw [hw]; exact (by (with_reducible repeat apply pK); refine blk_put (cs := #[.int .i64 g, .int .u8 R]) ?_ 1 _ rfl; (with_reducible repeat apply pK); exact c.out))⟩; replace i := Z (sM hw (blk_off i.out I.out off2_)); replace HB : Aside0 (Below w.heap.size w br) := ⟨by rw [hw]; exact bl_⟩; clear hw; have gd := S.out; have gz := T.out; obtain ⟨cx, cy, cz, cA, cB, cC, dT, dU, dV, dW, dX, dY⟩ := cells6 b.out; obtain ⟨cD, cE, dZ, d0⟩ := cells2 c.out) | ((with_reducible refine gate_callee (f := 31) rfl ?_); refine goesL_ (some 41) rfl rfl Tryd.func31 (by kernel_rfl) rfl #[.agg #[.int .i64 u, .int .i64 x, .slice M j.length O, .int .i64 y, .bool z, .bool A], .int .u8 30] rfl ag_ ?_; (with_reducible refine (edit_Type.calls k u x (fun k_ => ((F k_ ∨ w.heap.size ≤ k_) ∧ (k_ ≠ m ∧ (k_ ≠ l ∧ k_ ≠ a)))) _ _ j y z A 30 aO aP aQ aR aS aT bT bU _ ?side1 fR.out).mono ?_); (case side1 => exact d.out); rintro e hD ⟨gS, gT, rfl, ad, ae, hb⟩; refine ⟨_, rfl, ?_⟩; replace d := vb' d hb; have bl := Z (Kd.V_lower (Kd.V_mono (ok' := fun k_ => (F k_ ∨ w.heap.size ≤ k_) ∧ k_ ≠ m ∧ k_ ≠ l ∧ k_ ≠ a) ad (fun k_ hk_ => hk_.elim (fun hs_ => ⟨hs_.1, hs_.2.1, hs_.2.2.1, hs_.2.2.2⟩) (fun hn_ => ⟨(ir_ hn_), (fb b.out k_ hn_), (fb c.out k_ hn_), (fb i.out k_ hn_)⟩))) (below_size bl_)); have eJ := Z (Kd.V_lower (Kd.V_mono (ok' := fun k_ => (F k_ ∨ w.heap.size ≤ k_) ∧ k_ ≠ m ∧ k_ ≠ l ∧ k_ ≠ a) ae (fun k_ hk_ => hk_.elim (fun hs_ => ⟨hs_.1, hs_.2.1, hs_.2.2.1, hs_.2.2.2⟩) (fun hn_ => ⟨(ir_ hn_), (fb b.out k_ hn_), (fb c.out k_ hn_), (fb i.out k_ hn_)⟩))) (below_size bl_)); replace b := kb' b hb; replace c := kb' c hb; replace i := kb' i hb; replace HB := bs_ hb; clear hb ad ae; (try simp only [errW_none, errW_some]); obtain ⟨cF, cG, cH, cI, cJ, cK, d1, d2, d3, d4, d5, d6⟩ := cells6 i.out; obtain ⟨bv, bD, eV⟩ := Kd.V_slice bl.out; subst eV))
    refine bodyPost_ret (results_ct rfl _ _ a 24 #[.int .i64 aO, .int .i64 aP, .slice bv aQ.length bD, .int .i64 aR, .bool aS, .bool aT] (0, 0) _ rfl (put6 i.out) Tryd.underlying24 rfl (by kernel_rfl)) rfl ?_
    exact ⟨_, _, er_, by (with_reducible repeat apply pV); exact Kd.V_mono (f6V a (Kd.V_mono bl.out (fun k_ hk => (⟨hk, hk.2.2.2⟩ : _ ∧ k_ ≠ a))) (fun _ hk => hk.2)) (fun _ hk => hk.1.1), by (with_reducible repeat apply pV); exact Kd.V_mono (f6V a (Kd.V_mono eJ.out (fun k_ hk => (⟨hk, hk.2.2.2⟩ : _ ∧ k_ ≠ a))) (fun _ hk => hk.2)) (fun _ hk => hk.1.1), bl_⟩
   ·rw [if_neg bd] at H
    obtain ⟨bH, bI⟩ := eF_ bd
    by_cases be : g = 1
    ·rw [if_pos be] at H
     obtain ⟨bJ, bK⟩ := eT_ be
     clear be
     replace H := Option.bind_eq_some_iff.mp H
     obtain ⟨⟨aU, aV, aW, aX, aY, aZ, bV, bW⟩, eE, H⟩ := H
     replace H : (some (aU, aV, aW, aX, aY, aZ, bV, bW)) = some (r1, r2, r3, r4, r5, r6, r7, r8) := H
     have fS := Z eE
     clear eE
     simp only [Option.some.injEq, Prod.mk.injEq] at H
     obtain ⟨rfl, rfl, rfl, rfl, rfl, rfl, rfl, rfl⟩ := H
     go_enter Tryd.func65, Tryd.ntmps65
     go_wp2_with (first | ((with_reducible refine gate_dst (N := 2) rfl ?_); refine bx_ 2 24 #[.int .i64 u, .int .i64 x, .slice M j.length O, .int .i64 y, .bool z, .bool A] ?_; intro m hg hE hbox hb; replace d := Z (ve d.out hg hb); have b := Z (hbox); have ay := Z (ln_ hg : w.heap.size ≤ m); have av := ay; replace HB := bs_ hb; clear hb hbox hg) | ((with_reducible refine gate_dst (N := 3) rfl ?_); refine bx_ 3 58 #[.int .i64 g, .int .u8 R] ?_; intro l hg hF hbox hb; replace d := Z (ve d.out hg hb); have c := Z (hbox); have az := Z (ln_ hg : w.heap.size ≤ l); have aw := az; replace HB := bs_ hb; have G := nl' b hg; have P := ng' b hg; replace b := kb' b hb; clear hb hbox hg) | ((with_reducible refine gate_dst (N := 4) rfl ?_); refine bx_ 4 24 #[.int .i64 0, .int .i64 0, .slice none 0 0, .int .i64 0, .bool false, .bool false] ?_; intro a hg aj hbox hb; replace d := Z (ve d.out hg hb); have i := Z (hbox); have aA := Z (ln_ hg : w.heap.size ≤ a); have ax := aA; replace HB := bs_ hb; have S := nl' b hg; have T := ng' b hg; replace b := kb' b hb; have Q := nl' c hg; have I := ng' c hg; replace c := kb' c hb; clear hb hbox hg; have ge := P.out; have gA := G.out; have gf := Q.out; have gB := I.out; obtain ⟨cL, cM, d7, d8⟩ := cells2 c.out) | ((with_reducible refine gate_callee (f := 85) rfl ?_); refine goesL_ (some 9) rfl rfl Tryd.func85 (by kernel_rfl) rfl #[.int .i64 g] rfl ag_ ?_; (with_reducible refine (move_Moves.calls g false _ A3.out).mono ?_); rintro e w' ⟨rfl, ⟨nd, rfl⟩⟩; refine ⟨_, rfl, ?_⟩; (try (rw [drewN_self aj]; generalize hq_ : World.drewN aj _ = aj; replace d := Z (qV hq_ d.out); replace b := Z (qM hq_ b.out); replace c := Z (qM hq_ c.out); replace i := Z (qM hq_ i.out); replace HB := Z (qB hq_ HB.out); clear hq_)); (try obtain ⟨W, X, Y, aa⟩ := cells2 c.out)) | ((with_reducible refine gate_callee (f := 29) rfl ?_); refine goesL_ (some 19) rfl rfl Tryd.func29 (by kernel_rfl) rfl #[.int .i64 g] rfl ag_ ?_; (with_reducible refine (wipe_Wipes.calls g false _ bi.out).mono ?_); rintro e w' ⟨rfl, ⟨nd, rfl⟩⟩; refine ⟨_, rfl, ?_⟩; (try (rw [drewN_self aj]; generalize hq_ : World.drewN aj _ = aj; replace d := Z (qV hq_ d.out); replace b := Z (qM hq_ b.out); replace c := Z (qM hq_ c.out); replace i := Z (qM hq_ i.out); replace HB := Z (qB hq_ HB.out); clear hq_)); (try obtain ⟨W, X, Y, aa⟩ := cells2 c.out); have gg := S.out; have gC := T.out; obtain ⟨cN, cO, cP, cQ, cR, cS, d9, ea, eb, ec, ed, ee⟩ := cells6 b.out) | ((with_reducible refine gate_callee (f := 31) rfl ?_); refine goesL_ (some 41) rfl rfl Tryd.func31 (by kernel_rfl) rfl #[.agg #[.int .i64 u, .int .i64 x, .slice M j.length O, .int .i64 y, .bool z, .bool A], .int .u8 R] rfl ag_ ?_; (with_reducible refine (edit_Type.calls k u x (fun k_ => ((((F k_ ∨ w.heap.size ≤ k_) ∧ k_ ≠ m) ∧ k_ ≠ l) ∧ k_ ≠ a)) _ _ j y z A R aU aV aW aX aY aZ bV bW _ ?side1 fS.out).mono ?_); (case side1 => exact d.out); rintro e hG ⟨gU, gV, rfl, ad, ae, hb⟩; refine ⟨_, rfl, ?_⟩; replace d := vb' d hb; have bm := Z (Kd.V_lower (Kd.V_mono (ok' := fun k_ => (F k_ ∨ w.heap.size ≤ k_) ∧ k_ ≠ m ∧ k_ ≠ l ∧ k_ ≠ a) ad (fun k_ hk_ => hk_.elim (fun hs_ => ⟨hs_.1.1.1, hs_.1.1.2, hs_.1.2, hs_.2⟩) (fun hn_ => ⟨(ir_ hn_), (fb b.out k_ hn_), (fb c.out k_ hn_), (fb i.out k_ hn_)⟩))) (below_size bl_)); have eK := Z (Kd.V_lower (Kd.V_mono (ok' := fun k_ => (F k_ ∨ w.heap.size ≤ k_) ∧ k_ ≠ m ∧ k_ ≠ l ∧ k_ ≠ a) ae (fun k_ hk_ => hk_.elim (fun hs_ => ⟨hs_.1.1.1, hs_.1.1.2, hs_.1.2, hs_.2⟩) (fun hn_ => ⟨(ir_ hn_), (fb b.out k_ hn_), (fb c.out k_ hn_), (fb i.out k_ hn_)⟩))) (below_size bl_)); replace b := kb' b hb; replace c := kb' c hb; replace i := kb' i hb; replace HB := bs_ hb; clear hb ad ae; (try simp only [errW_none, errW_some]); obtain ⟨cT, cU, cV, cW, cX, cY, ef, eg, eh, ei, ej, ek⟩ := cells6 i.out; obtain ⟨bw, bE, eW⟩ := Kd.V_slice bm.out; subst eW))
     refine bodyPost_ret (results_ct rfl _ _ a 24 #[.int .i64 aU, .int .i64 aV, .slice bw aW.length bE, .int .i64 aX, .bool aY, .bool aZ] (0, 0) _ rfl (put6 i.out) Tryd.underlying24 rfl (by kernel_rfl)) rfl ?_
     exact ⟨_, _, er_, by (with_reducible repeat apply pV); exact Kd.V_mono (f6V a (Kd.V_mono bm.out (fun k_ hk => (⟨hk, hk.2.2.2⟩ : _ ∧ k_ ≠ a))) (fun _ hk => hk.2)) (fun _ hk => hk.1.1), by (with_reducible repeat apply pV); exact Kd.V_mono (f6V a (Kd.V_mono eK.out (fun k_ hk => (⟨hk, hk.2.2.2⟩ : _ ∧ k_ ≠ a))) (fun _ hk => hk.2)) (fun _ hk => hk.1.1), bl_⟩
    ·rw [if_neg be] at H
     obtain ⟨bJ, bK⟩ := eF_ be
     by_cases bf : g = 10
     ·rw [if_pos bf] at H
      obtain ⟨bL, bM⟩ := eT_ bf
      clear bf
      replace H := Option.bind_eq_some_iff.mp H
      obtain ⟨⟨a0, a1, a2, a3, a4, a5, bX, bY⟩, eF, H⟩ := H
      replace H : (some (a0, a1, a2, a3, a4, a5, bX, bY)) = some (r1, r2, r3, r4, r5, r6, r7, r8) := H
      have fT := Z eF
      clear eF
      simp only [Option.some.injEq, Prod.mk.injEq] at H
      obtain ⟨rfl, rfl, rfl, rfl, rfl, rfl, rfl, rfl⟩ := H
      go_enter Tryd.func65, Tryd.ntmps65
      go_wp2_with (first | ((with_reducible refine gate_dst (N := 2) rfl ?_); refine bx_ 2 24 #[.int .i64 u, .int .i64 x, .slice M j.length O, .int .i64 y, .bool z, .bool A] ?_; intro m hg hH hbox hb; replace d := Z (ve d.out hg hb); have b := Z (hbox); have ay := Z (ln_ hg : w.heap.size ≤ m); have av := ay; replace HB := bs_ hb; clear hb hbox hg) | ((with_reducible refine gate_dst (N := 3) rfl ?_); refine bx_ 3 58 #[.int .i64 g, .int .u8 R] ?_; intro l hg hI hbox hb; replace d := Z (ve d.out hg hb); have c := Z (hbox); have az := Z (ln_ hg : w.heap.size ≤ l); have aw := az; replace HB := bs_ hb; have G := nl' b hg; have P := ng' b hg; replace b := kb' b hb; clear hb hbox hg) | ((with_reducible refine gate_dst (N := 4) rfl ?_); refine bx_ 4 24 #[.int .i64 0, .int .i64 0, .slice none 0 0, .int .i64 0, .bool false, .bool false] ?_; intro a hg ak hbox hb; replace d := Z (ve d.out hg hb); have i := Z (hbox); have aA := Z (ln_ hg : w.heap.size ≤ a); have ax := aA; replace HB := bs_ hb; have S := nl' b hg; have T := ng' b hg; replace b := kb' b hb; have Q := nl' c hg; have I := ng' c hg; replace c := kb' c hb; clear hb hbox hg; have gh := P.out; have gD := G.out; have gi := Q.out; have gE := I.out; obtain ⟨cZ, c0, el, em⟩ := cells2 c.out) | ((with_reducible refine gate_callee (f := 85) rfl ?_); refine goesL_ (some 9) rfl rfl Tryd.func85 (by kernel_rfl) rfl #[.int .i64 g] rfl ag_ ?_; (with_reducible refine (move_Moves.calls g false _ A3.out).mono ?_); rintro e w' ⟨rfl, ⟨nd, rfl⟩⟩; refine ⟨_, rfl, ?_⟩; (try (rw [drewN_self ak]; generalize hq_ : World.drewN ak _ = ak; replace d := Z (qV hq_ d.out); replace b := Z (qM hq_ b.out); replace c := Z (qM hq_ c.out); replace i := Z (qM hq_ i.out); replace HB := Z (qB hq_ HB.out); clear hq_)); (try obtain ⟨W, X, Y, aa⟩ := cells2 c.out)) | ((with_reducible refine gate_callee (f := 29) rfl ?_); refine goesL_ (some 19) rfl rfl Tryd.func29 (by kernel_rfl) rfl #[.int .i64 g] rfl ag_ ?_; (with_reducible refine (wipe_Wipes.calls g false _ bi.out).mono ?_); rintro e w' ⟨rfl, ⟨nd, rfl⟩⟩; refine ⟨_, rfl, ?_⟩; (try (rw [drewN_self ak]; generalize hq_ : World.drewN ak _ = ak; replace d := Z (qV hq_ d.out); replace b := Z (qM hq_ b.out); replace c := Z (qM hq_ c.out); replace i := Z (qM hq_ i.out); replace HB := Z (qB hq_ HB.out); clear hq_)); (try obtain ⟨W, X, Y, aa⟩ := cells2 c.out); have gj := S.out; have gF := T.out; obtain ⟨da, db, dc, dd, de, df, en, eo, ep, eq, er, es⟩ := cells6 b.out) | ((with_reducible refine gate_callee (f := 87) rfl ?_); refine goesL_ (some 45) rfl rfl Tryd.func87 (by kernel_rfl) rfl #[.agg #[.int .i64 u, .int .i64 x, .slice M j.length O, .int .i64 y, .bool z, .bool A]] rfl ag_ ?_; (with_reducible refine (keys_dup.calls k u x (fun k_ => ((((F k_ ∨ w.heap.size ≤ k_) ∧ k_ ≠ m) ∧ k_ ≠ l) ∧ k_ ≠ a)) _ _ j y z A a0 a1 a2 a3 a4 a5 bX bY _ ?side1 fT.out).mono ?_); (case side1 => exact d.out); rintro e hJ ⟨gW, gX, rfl, ad, ae, hb⟩; refine ⟨_, rfl, ?_⟩; replace d := vb' d hb; have bn := Z (Kd.V_lower (Kd.V_mono (ok' := fun k_ => (F k_ ∨ w.heap.size ≤ k_) ∧ k_ ≠ m ∧ k_ ≠ l ∧ k_ ≠ a) ad (fun k_ hk_ => hk_.elim (fun hs_ => ⟨hs_.1.1.1, hs_.1.1.2, hs_.1.2, hs_.2⟩) (fun hn_ => ⟨(ir_ hn_), (fb b.out k_ hn_), (fb c.out k_ hn_), (fb i.out k_ hn_)⟩))) (below_size bl_)); have eL := Z (Kd.V_lower (Kd.V_mono (ok' := fun k_ => (F k_ ∨ w.heap.size ≤ k_) ∧ k_ ≠ m ∧ k_ ≠ l ∧ k_ ≠ a) ae (fun k_ hk_ => hk_.elim (fun hs_ => ⟨hs_.1.1.1, hs_.1.1.2, hs_.1.2, hs_.2⟩) (fun hn_ => ⟨(ir_ hn_), (fb b.out k_ hn_), (fb c.out k_ hn_), (fb i.out k_ hn_)⟩))) (below_size bl_)); replace b := kb' b hb; replace c := kb' c hb; replace i := kb' i hb; replace HB := bs_ hb; clear hb ad ae; (try simp only [errW_none, errW_some]); obtain ⟨dg, dh, di, dj, dk, dl, et, eu, ev, ew, ex, ey⟩ := cells6 i.out; obtain ⟨bx, bF, eX⟩ := Kd.V_slice bn.out; subst eX))
      refine bodyPost_ret (results_ct rfl _ _ a 24 #[.int .i64 a0, .int .i64 a1, .slice bx a2.length bF, .int .i64 a3, .bool a4, .bool a5] (0, 0) _ rfl (put6 i.out) Tryd.underlying24 rfl (by kernel_rfl)) rfl ?_
      exact ⟨_, _, er_, by (with_reducible repeat apply pV); exact Kd.V_mono (f6V a (Kd.V_mono bn.out (fun k_ hk => (⟨hk, hk.2.2.2⟩ : _ ∧ k_ ≠ a))) (fun _ hk => hk.2)) (fun _ hk => hk.1.1), by (with_reducible repeat apply pV); exact Kd.V_mono (f6V a (Kd.V_mono eL.out (fun k_ hk => (⟨hk, hk.2.2.2⟩ : _ ∧ k_ ≠ a))) (fun _ hk => hk.2)) (fun _ hk => hk.1.1), bl_⟩
     ·rw [if_neg bf] at H
      obtain ⟨bL, bM⟩ := eF_ bf
      have bA := Z H
      clear H
      go_enter Tryd.func65, Tryd.ntmps65
      go_upto_if 34 with (first | ((with_reducible refine gate_dst (N := 2) rfl ?_); refine bx_ 2 24 #[.int .i64 u, .int .i64 x, .slice M j.length O, .int .i64 y, .bool z, .bool A] ?_; intro m hg hK hbox hb; replace d := Z (ve d.out hg hb); have b := Z (hbox); have ay := Z (ln_ hg : w.heap.size ≤ m); have av := ay; replace HB := bs_ hb; clear hb hbox hg) | ((with_reducible refine gate_dst (N := 3) rfl ?_); refine bx_ 3 58 #[.int .i64 g, .int .u8 R] ?_; intro l hg hL hbox hb; replace d := Z (ve d.out hg hb); have c := Z (hbox); have az := Z (ln_ hg : w.heap.size ≤ l); have aw := az; replace HB := bs_ hb; have G := nl' b hg; have P := ng' b hg; replace b := kb' b hb; clear hb hbox hg) | ((with_reducible refine gate_dst (N := 4) rfl ?_); refine bx_ 4 24 #[.int .i64 0, .int .i64 0, .slice none 0 0, .int .i64 0, .bool false, .bool false] ?_; intro a hg hM hbox hb; replace d := Z (ve d.out hg hb); have i := Z (hbox); have aA := Z (ln_ hg : w.heap.size ≤ a); have ax := aA; replace HB := bs_ hb; have S := nl' b hg; have T := ng' b hg; replace b := kb' b hb; have Q := nl' c hg; have I := ng' c hg; replace c := kb' c hb; clear hb hbox hg; have gk := P.out; have gG := G.out; have gl := Q.out; have gH := I.out; obtain ⟨dm, dn, ez, eA⟩ := cells2 c.out) | ((with_reducible refine gate_callee (f := 85) rfl ?_); refine goesL_ (some 9) rfl rfl Tryd.func85 (by kernel_rfl) rfl #[.int .i64 g] rfl ag_ ?_; (with_reducible refine (move_Moves.calls g false _ A3.out).mono ?_); rintro e w' ⟨rfl, ⟨nd, rfl⟩⟩; refine ⟨_, rfl, ?_⟩) | ((with_reducible refine gate_callee (f := 29) rfl ?_); refine goesL_ (some 19) rfl rfl Tryd.func29 (by kernel_rfl) rfl #[.int .i64 g] rfl ag_ ?_; (with_reducible refine (wipe_Wipes.calls g false _ bi.out).mono ?_); rintro e w' ⟨rfl, ⟨nd, rfl⟩⟩; refine ⟨_, rfl, ?_⟩))
      (try simp only [Act.put, sA, sB, sC])
      go_cut [34] (fun fV wc => ∃ (kq : Nat) (bc : Bool), fV = .bool bc ∧ Aside0 (keys_plain.j0 kq bc u x j y z A g R = some (r1, r2, r3, r4, r5, r6, r7, r8)) ∧ Aside0 (kq ≤ k) ∧ Aside0 (Kd.V k35 35 wc w.heap.size (fun k_ => (F k_ ∨ w.heap.size ≤ k_) ∧ k_ ≠ m ∧ k_ ≠ l ∧ k_ ≠ a) (.slice M j.length O) j) ∧ Aside0 (wc.heap[m]? = some (.cells #[.int .i64 u, .int .i64 x, (.slice M j.length O), .int .i64 y, .bool z, .bool A] 24 (0, 0))) ∧ Aside0 (wc.heap[l]? = some (.cells #[.int .i64 g, .int .u8 R] 58 (0, 0))) ∧ Aside0 (wc.heap[a]? = some (.cells #[.int .i64 0, .int .i64 0, (.slice none 0 0), .int .i64 0, .bool false, .bool false] 24 (0, 0))) ∧ Aside0 (Below w.heap.size w wc))
      case first =>
       have H := bA.out
       clear bA
       by_cases bg : g = 15
       ·rw [if_pos bg] at H
        obtain ⟨aB, bN⟩ := eT_ bg
        clear bg
        (first | rw [aB] | (simp only [i64_w, i32_w]; rw [aB]) | skip)
        have H' := Z H
        clear H
        go_wp2
        go_meet
        case rel => exact ⟨_, ((g == 15)), (dn_), H', ⟨by first | omega | exact Nat.le_refl _⟩, ⟨by (with_reducible repeat apply pV); exact Kd.V_mono d.out (fun _ hk => ⟨hk.1.1.1, ⟨hk.1.1.2, ⟨hk.1.2, hk.2⟩⟩⟩)⟩, ⟨vK b.out⟩, ⟨vK c.out⟩, ⟨vK i.out⟩, ⟨bl_⟩⟩
       ·rw [if_neg bg] at H
        obtain ⟨aB, bN⟩ := eF_ bg
        (first | rw [aB] | (simp only [i64_w, i32_w]; rw [aB]) | skip)
        have H' := Z H
        clear H
        go_wp2
        go_meet
        case rel => exact ⟨_, ((g == 16)), (dn_), H', ⟨by first | omega | exact Nat.le_refl _⟩, ⟨by (with_reducible repeat apply pV); exact Kd.V_mono d.out (fun _ hk => ⟨hk.1.1.1, ⟨hk.1.1.2, ⟨hk.1.2, hk.2⟩⟩⟩)⟩, ⟨vK b.out⟩, ⟨vK c.out⟩, ⟨vK i.out⟩, ⟨bl_⟩⟩
      case rest =>
       clear bA
       clear bd bH bI be bJ bK bf bL bM dm dn ez eA
       obtain ⟨kq, bc, rfl, HA, g1, HO_1331002, b, c, i, HB⟩ := hcut
       cases kq with
       | zero => exact absurd HA.out (by simp [keys_plain.j0])
       | succ eN =>
        have H := HA.out
        clear HA
        simp only [keys_plain.j0] at H
        by_cases bO : bc = true
        ·subst bO
         have H1 : ((keys_set.f eN u x j y z A g).bind fun ac => (some (ac.1, ac.2.1, ac.2.2.1, ac.2.2.2.1, ac.2.2.2.2.1, ac.2.2.2.2.2.1, ac.2.2.2.2.2.2.1, ac.2.2.2.2.2.2.2))) = some (r1, r2, r3, r4, r5, r6, r7, r8) := by rw [if_pos rfl] at H; exact H
         clear H
         have H := H1
         clear H1
         replace H := Option.bind_eq_some_iff.mp H
         obtain ⟨⟨a6, a7, a8, a9, ba, bb, bZ, b0⟩, eG, H⟩ := H
         replace H : (some (a6, a7, a8, a9, ba, bb, bZ, b0)) = some (r1, r2, r3, r4, r5, r6, r7, r8) := H
         have fU := Z eG
         clear eG
         simp only [Option.some.injEq, Prod.mk.injEq] at H
         obtain ⟨rfl, rfl, rfl, rfl, rfl, rfl, rfl, rfl⟩ := H
         have gm := G.out
         have gI := P.out
         have gn := S.out
         have gJ := T.out
         obtain ⟨eZ, e0, e1, e2, e3, e4, fq, fr, fs, ft, fu, fv⟩ := cells6 b.out
         have go := Q.out
         have gK := I.out
         obtain ⟨e5, e6, fw, fx⟩ := cells2 c.out
         go_wp2_with (first | ((with_reducible refine gate_callee (f := 88) rfl ?_); refine goesL_ (some 51) rfl rfl Tryd.func88 (by kernel_rfl) rfl #[.agg #[.int .i64 u, .int .i64 x, .slice M j.length O, .int .i64 y, .bool z, .bool A], .int .i64 g] rfl ag_ ?_; (with_reducible refine (keys_set.calls eN u x (fun k_ => ((F k_ ∨ w.heap.size ≤ k_) ∧ (k_ ≠ m ∧ (k_ ≠ l ∧ k_ ≠ a)))) _ _ j y z A g a6 a7 a8 a9 ba bb bZ b0 _ ?side1 fU.out).mono ?_); (case side1 => exact HO_1331002.out); rintro e hN ⟨gY, gZ, rfl, ad, ae, hb⟩; refine ⟨_, rfl, ?_⟩; replace HO_1331002 := vb' HO_1331002 hb; have bo := Z (Kd.V_lower (Kd.V_mono (ok' := fun k_ => (F k_ ∨ w.heap.size ≤ k_) ∧ k_ ≠ m ∧ k_ ≠ l ∧ k_ ≠ a) ad (fun k_ hk_ => hk_.elim (fun hs_ => ⟨hs_.1, hs_.2.1, hs_.2.2.1, hs_.2.2.2⟩) (fun hn_ => ⟨(ir_ hn_), (fb b.out k_ hn_), (fb c.out k_ hn_), (fb i.out k_ hn_)⟩))) (below_size bl_)); have eM := Z (Kd.V_lower (Kd.V_mono (ok' := fun k_ => (F k_ ∨ w.heap.size ≤ k_) ∧ k_ ≠ m ∧ k_ ≠ l ∧ k_ ≠ a) ae (fun k_ hk_ => hk_.elim (fun hs_ => ⟨hs_.1, hs_.2.1, hs_.2.2.1, hs_.2.2.2⟩) (fun hn_ => ⟨(ir_ hn_), (fb b.out k_ hn_), (fb c.out k_ hn_), (fb i.out k_ hn_)⟩))) (below_size bl_)); replace b := kb' b hb; replace c := kb' c hb; replace i := kb' i hb; replace HB := bs_ hb; clear hb ad ae; (try simp only [errW_none, errW_some]); obtain ⟨e7, e8, e9, fa, fc, fd, fy, fz, fA, fB, fC, fD⟩ := cells6 i.out; obtain ⟨bz, bG, eY⟩ := Kd.V_slice bo.out; subst eY))
         refine bodyPost_ret (results_ct rfl _ _ a 24 #[.int .i64 a6, .int .i64 a7, .slice bz a8.length bG, .int .i64 a9, .bool ba, .bool bb] (0, 0) _ rfl (put6 i.out) Tryd.underlying24 rfl (by kernel_rfl)) rfl ?_
         exact ⟨_, _, er_, by (with_reducible repeat apply pV); exact Kd.V_mono (f6V a (Kd.V_mono bo.out (fun k_ hk => (⟨hk, hk.2.2.2⟩ : _ ∧ k_ ≠ a))) (fun _ hk => hk.2)) (fun _ hk => hk.1.1), by (with_reducible repeat apply pV); exact Kd.V_mono (f6V a (Kd.V_mono eM.out (fun k_ hk => (⟨hk, hk.2.2.2⟩ : _ ∧ k_ ≠ a))) (fun _ hk => hk.2)) (fun _ hk => hk.1.1), bl_⟩
        ·replace bO := Bool.eq_false_iff.mpr bO
         subst bO
         have H1 : (some (u, x, j, y, z, A, some (Er.num 1), ([] : List (S164)))) = some (r1, r2, r3, r4, r5, r6, r7, r8) := by rw [if_neg (show ¬ (false = true) by decide)] at H; exact H
         clear H
         have H := H1
         clear H1
         simp only [Option.some.injEq, Prod.mk.injEq] at H
         obtain ⟨rfl, rfl, rfl, rfl, rfl, rfl, rfl, rfl⟩ := H
         have gp := G.out
         have gL := P.out
         have gq := S.out
         have gM := T.out
         obtain ⟨fe, ff, fg, fh, fi, fj, fE, fF, fG, fH, fI, fJ⟩ := cells6 b.out
         have gr := I.out
         have gN := Q.out
         obtain ⟨fk, fl, fm, fn, fo, fp, fK, fL, fM, fN, fO, fP⟩ := cells6 i.out
         go_wp2
         refine bodyPost_ret (results_ct rfl _ _ a 24 #[.int .i64 u, .int .i64 x, .slice M j.length O, .int .i64 y, .bool z, .bool A] (0, 0) _ rfl (put6 i.out) Tryd.underlying24 rfl (by kernel_rfl)) rfl ?_
         exact ⟨_, _, er_, by (with_reducible repeat apply pV); exact Kd.V_mono (f6V a (Kd.V_mono HO_1331002.out (fun k_ hk => (⟨hk, hk.2.2.2⟩ : _ ∧ k_ ≠ a))) (fun _ hk => hk.2)) (fun _ hk => hk.1.1), Kd.R_V (Kd.R_nil _ _ _ 0 _), bl_⟩
theorem V_ne_37 {α : Type} {d : Kd α} {e base g n c : Nat} {ok : Nat → Prop} {W : World} {ad : Addr} {xs : List α} (h : Kd.V d e W base ok (.slice (some ad) n c) xs) (hg : ∀ k, ok k → k ≠ g) (hn : 0 < n) (hs : 0 < d.sz) : ad.block ≠ g := by
 intro he
 have hl := (Kd.V_at h).1
 have hC : d.C { W with heap := W.heap.setIfInBounds g (.cells #[] 0) } (some ad) xs.length xs := (Kd.V_at h).2.2 _ (fun k hk _ => by simp [Ne.symm (hg k hk)])
 obtain ⟨ad', hea, hc⟩ := hC.2.2 (by omega)
 injection hea with hea
 subst hea
 obtain ⟨cl, hcl, _, hcell⟩ := hc 0 _ (List.getElem?_eq_getElem (by omega))
 have a := hcell 0 _ (List.getElem?_eq_getElem (by omega))
 rw [Nat.zero_mul, Nat.zero_add, Addr.add_zero'] at a
 subst he
 by_cases hlt : ad.block < W.heap.size <;> simp [World.cell?, hlt] at a
def keys_Do.f (k : Nat) (c : Int) (d : Int) (l : List (S35)) (e : Int) (g : Bool) (h : Bool) (i : Int) (j : Int) : Option (Int × Int × (List (S35)) × Int × Bool × Bool × Bool × Option Er × (List (S164))) := if i = 17 then ((keys_asks.f k c d l e g h j).bind fun a => (some (a.1, a.2.1, a.2.2.1, a.2.2.2.1, a.2.2.2.2.1, a.2.2.2.2.2.1, a.2.2.2.2.2.2.1, a.2.2.2.2.2.2.2.1, a.2.2.2.2.2.2.2.2))) else ((keys_plain.f k c d l e g h i j).bind fun b => (some (b.1, b.2.1, b.2.2.1, b.2.2.2.1, b.2.2.2.2.1, b.2.2.2.2.2.1, false, b.2.2.2.2.2.2.1, b.2.2.2.2.2.2.2)))
theorem keys_Do.mono : ∀ a0 a1 a b a4 c d e k, LeO (keys_Do.f k a0 a1 a b a4 c d e) (keys_Do.f (k + 1) a0 a1 a b a4 c d e) := by
 intro a0 a1 a b a4 c d e k
 unfold keys_Do.f
 repeat' first
   | (with_reducible exact keys_asks.mono _ _ _ _ _ _ _ _)
   | (with_reducible exact keys_plain.mono _ _ _ _ _ _ _ _ _)
   | (with_reducible exact LeO.refl _)
   | (with_reducible exact LeO.none _)
   | (with_reducible refine LeO.ite ?_ ?_)
   | (with_reducible refine LeO.bind ?_ (fun _ => ?_))
   | exact keys_asks.mono _ _ _ _ _ _ _ _
   | exact keys_plain.mono _ _ _ _ _ _ _ _ _
   | exact LeO.none _
   | refine LeO.ite ?_ ?_
   | refine LeO.bind ?_ (fun _ => ?_)
theorem keys_Do.calls (k : Nat) (Q : Int) (R : Int) (C : Nat → Prop) (ad : Option Addr) (ae : Nat) (z : List (S35)) (S : Int) (T : Bool) (U : Bool) (B : Int) (W : Int) (r1 : Int) (r2 : Int) (r3 : List (S35)) (r4 : Int) (r5 : Bool) (r6 : Bool) (r7 : Bool) (r8 : Option Er) (r9 : List (S164)) (w : World) (a0 : Kd.V k35 35 w w.heap.size (fun k_ => C k_) (.slice ad z.length ae) z) (h : keys_Do.f k Q R z S T U B W = some (r1, r2, r3, r4, r5, r6, r7, r8, r9)) :
  Calls Tryd.prog 42 #[.agg #[.int .i64 Q, .int .i64 R, .slice ad z.length ae, .int .i64 S, .bool T, .bool U], .agg #[.int .i64 B, .int .u8 W]] w fun e w' => ∃ a2 a3 : Value, e = .returned (.tuple #[.agg #[.int .i64 r1, .int .i64 r2, a2, .int .i64 r4, .bool r5, .bool r6], .bool r7, errW a3 r8]) ∧ Kd.V k35 35 w' w.heap.size (fun k_ => (C k_ ∨ w.heap.size ≤ k_)) a2 r3 ∧ Kd.V k164 164 w' w.heap.size (fun k_ => (C k_ ∨ w.heap.size ≤ k_)) a3 r9 ∧ Below w.heap.size w w' := by
 have cH := Tryd.underlying24
 have cI := Tryd.underlying58
 have d := Z (show Kd.V k35 35 w w.heap.size (fun k_ => (C k_ ∨ w.heap.size ≤ k_)) (.slice ad z.length ae) z from Kd.V_mono a0 (fun k_ hk => .inl hk))
 have HB := Z (Below.refl w.heap.size w)
 have H : (if B = 17 then ((keys_asks.f k Q R z S T U W).bind fun y => (some (y.1, y.2.1, y.2.2.1, y.2.2.2.1, y.2.2.2.2.1, y.2.2.2.2.2.1, y.2.2.2.2.2.2.1, y.2.2.2.2.2.2.2.1, y.2.2.2.2.2.2.2.2))) else ((keys_plain.f k Q R z S T U B W).bind fun E => (some (E.1, E.2.1, E.2.2.1, E.2.2.2.1, E.2.2.2.2.1, E.2.2.2.2.2.1, false, E.2.2.2.2.2.2.1, E.2.2.2.2.2.2.2)))) = some (r1, r2, r3, r4, r5, r6, r7, r8, r9) := h
 clear h
 by_cases c3 : B = 17
 ·rw [if_pos c3] at H
  obtain ⟨a4, a5⟩ := eT_ c3
  clear c3
  replace H := Option.bind_eq_some_iff.mp H
  obtain ⟨⟨ag, ah, ai, aj, ak, al, aA, aB, aC⟩, a1, H⟩ := H
  replace H : (some (ag, ah, ai, aj, ak, al, aA, aB, aC)) = some (r1, r2, r3, r4, r5, r6, r7, r8, r9) := H
  have A4 := Z a1
  clear a1
  simp only [Option.some.injEq, Prod.mk.injEq] at H
  obtain ⟨rfl, rfl, rfl, rfl, rfl, rfl, rfl, rfl, rfl⟩ := H
  go_enter Tryd.func42, Tryd.ntmps42
  go_wp2_with (first | ((with_reducible refine gate_dst (N := 2) rfl ?_); refine bx_ 2 24 #[.int .i64 Q, .int .i64 R, .slice ad z.length ae, .int .i64 S, .bool T, .bool U] ?_; intro r hg w5 hbox hb; replace d := Z (ve d.out hg hb); have b := Z (hbox); have aK := Z (ln_ hg : w.heap.size ≤ r); have aH := aK; replace HB := bs_ hb; clear hb hbox hg) | ((with_reducible refine gate_dst (N := 3) rfl ?_); refine bx_ 3 58 #[.int .i64 B, .int .u8 W] ?_; intro s hg w6 hbox hb; replace d := Z (ve d.out hg hb); have c := Z (hbox); have aL := Z (ln_ hg : w.heap.size ≤ s); have aI := aL; replace HB := bs_ hb; have J := nl' b hg; have L := ng' b hg; replace b := kb' b hb; clear hb hbox hg) | ((with_reducible refine gate_dst (N := 4) rfl ?_); refine bx_ 4 24 #[.int .i64 0, .int .i64 0, .slice none 0 0, .int .i64 0, .bool false, .bool false] ?_; intro a hg w7 hbox hb; replace d := Z (ve d.out hg hb); have g := Z (hbox); have aM := Z (ln_ hg : w.heap.size ≤ a); have aJ := aM; replace HB := bs_ hb; have K := nl' b hg; have O := ng' b hg; replace b := kb' b hb; have M := nl' c hg; have P := ng' c hg; replace c := kb' c hb; clear hb hbox hg; have cD := L.out; have cF := J.out; have cE := M.out; have cG := P.out; obtain ⟨a8, a9, bH, bI⟩ := cells2 c.out; have cj := K.out; have cq := O.out; obtain ⟨ba, bb, bc, bd, be, bf, bJ, bK, bL, bM, bN, bO⟩ := cells6 b.out) | ((with_reducible refine gate_callee (f := 64) rfl ?_); refine goesL_ (some 15) rfl rfl Tryd.func64 (by kernel_rfl) rfl #[.agg #[.int .i64 Q, .int .i64 R, .slice ad z.length ae, .int .i64 S, .bool T, .bool U], .int .u8 W] rfl ag_ ?_; (with_reducible refine (keys_asks.calls k Q R (fun k_ => ((((C k_ ∨ w.heap.size ≤ k_) ∧ k_ ≠ r) ∧ k_ ≠ s) ∧ k_ ≠ a)) _ _ z S T U W ag ah ai aj ak al aA aB aC _ ?side1 A4.out).mono ?_); (case side1 => exact d.out); rintro e cJ ⟨cy, cz, rfl, aw, ax, hb⟩; refine ⟨_, rfl, ?_⟩; replace d := vb' d hb; have av := Z (Kd.V_lower (Kd.V_mono (ok' := fun k_ => (C k_ ∨ w.heap.size ≤ k_) ∧ k_ ≠ r ∧ k_ ≠ s ∧ k_ ≠ a) aw (fun k_ hk_ => hk_.elim (fun hs_ => ⟨hs_.1.1.1, hs_.1.1.2, hs_.1.2, hs_.2⟩) (fun hn_ => ⟨(ir_ hn_), (fb b.out k_ hn_), (fb c.out k_ hn_), (fb g.out k_ hn_)⟩))) (below_size bl_)); have aN := Z (Kd.V_lower (Kd.V_mono (ok' := fun k_ => (C k_ ∨ w.heap.size ≤ k_) ∧ k_ ≠ r ∧ k_ ≠ s ∧ k_ ≠ a) ax (fun k_ hk_ => hk_.elim (fun hs_ => ⟨hs_.1.1.1, hs_.1.1.2, hs_.1.2, hs_.2⟩) (fun hn_ => ⟨(ir_ hn_), (fb b.out k_ hn_), (fb c.out k_ hn_), (fb g.out k_ hn_)⟩))) (below_size bl_)); replace b := kb' b hb; replace c := kb' c hb; replace g := kb' g hb; replace HB := bs_ hb; (try clear hb); (try clear ci); (try clear hk); (try clear hi); (try clear aw); (try clear ax); (try simp only [errW_none, errW_some]); obtain ⟨bg, bh, bi, bj, bk, bl, bP, bQ, bR, bS, bT, bU⟩ := cells6 g.out; obtain ⟨ay, az, a6⟩ := Kd.V_slice av.out; subst a6))
  refine bodyPost_ret (results_ctt rfl _ _ a 24 #[.int .i64 ag, .int .i64 ah, .slice ay ai.length az, .int .i64 aj, .bool ak, .bool al] (0, 0) _ rfl (put6 g.out) Tryd.underlying24 rfl (by kernel_rfl)) rfl ?_
  exact ⟨_, _, er_, by (with_reducible repeat apply pV); exact Kd.V_mono (f6V a (Kd.V_mono av.out (fun k_ hk => (⟨hk, hk.2.2.2⟩ : _ ∧ k_ ≠ a))) (fun _ hk => hk.2)) (fun _ hk => hk.1.1), by (with_reducible repeat apply pV); exact Kd.V_mono (f6V a (Kd.V_mono aN.out (fun k_ hk => (⟨hk, hk.2.2.2⟩ : _ ∧ k_ ≠ a))) (fun _ hk => hk.2)) (fun _ hk => hk.1.1), bl_⟩
 ·rw [if_neg c3] at H
  obtain ⟨a4, a5⟩ := eF_ c3
  replace H := Option.bind_eq_some_iff.mp H
  obtain ⟨⟨u, A, D, F, I, X, aD, aE⟩, aF, H⟩ := H
  replace H : (some (u, A, D, F, I, X, false, aD, aE)) = some (r1, r2, r3, r4, r5, r6, r7, r8, r9) := H
  have cf := Z aF
  clear aF
  simp only [Option.some.injEq, Prod.mk.injEq] at H
  obtain ⟨rfl, rfl, rfl, rfl, rfl, rfl, rfl, rfl, rfl⟩ := H
  go_enter Tryd.func42, Tryd.ntmps42
  go_wp2_with (first | ((with_reducible refine gate_dst (N := 2) rfl ?_); refine bx_ 2 24 #[.int .i64 Q, .int .i64 R, .slice ad z.length ae, .int .i64 S, .bool T, .bool U] ?_; intro r hg cK hbox hb; replace d := Z (ve d.out hg hb); have b := Z (hbox); have aK := Z (ln_ hg : w.heap.size ≤ r); have aH := aK; replace HB := bs_ hb; clear hb hbox hg) | ((with_reducible refine gate_dst (N := 3) rfl ?_); refine bx_ 3 58 #[.int .i64 B, .int .u8 W] ?_; intro s hg cL hbox hb; replace d := Z (ve d.out hg hb); have c := Z (hbox); have aL := Z (ln_ hg : w.heap.size ≤ s); have aI := aL; replace HB := bs_ hb; have J := nl' b hg; have L := ng' b hg; replace b := kb' b hb; clear hb hbox hg) | ((with_reducible refine gate_dst (N := 4) rfl ?_); refine bx_ 4 24 #[.int .i64 0, .int .i64 0, .slice none 0 0, .int .i64 0, .bool false, .bool false] ?_; intro a hg cM hbox hb; replace d := Z (ve d.out hg hb); have g := Z (hbox); have aM := Z (ln_ hg : w.heap.size ≤ a); have aJ := aM; replace HB := bs_ hb; have K := nl' b hg; have O := ng' b hg; replace b := kb' b hb; have M := nl' c hg; have P := ng' c hg; replace c := kb' c hb; clear hb hbox hg; have ck := L.out; have cr := J.out; have cl := M.out; have ct := P.out; obtain ⟨bm, bn, bV, bW⟩ := cells2 c.out; have cm := K.out; have cu := O.out; obtain ⟨bo, bp, bq, br, bs, bt, bX, bY, bZ, b0, b1, b2⟩ := cells6 b.out) | ((with_reducible refine gate_callee (f := 65) rfl ?_); refine goesL_ (some 22) rfl rfl Tryd.func65 (by kernel_rfl) rfl #[.agg #[.int .i64 Q, .int .i64 R, .slice ad z.length ae, .int .i64 S, .bool T, .bool U], .agg #[.int .i64 B, .int .u8 W]] rfl ag_ ?_; (with_reducible refine (keys_plain.calls k Q R (fun k_ => ((((C k_ ∨ w.heap.size ≤ k_) ∧ k_ ≠ r) ∧ k_ ≠ s) ∧ k_ ≠ a)) _ _ z S T U B W u A D F I X aD aE _ ?side1 cf.out).mono ?_); (case side1 => exact d.out); rintro e cN ⟨cA, cB, rfl, aw, ax, hb⟩; refine ⟨_, rfl, ?_⟩; replace d := vb' d hb; have aa := Z (Kd.V_lower (Kd.V_mono (ok' := fun k_ => (C k_ ∨ w.heap.size ≤ k_) ∧ k_ ≠ r ∧ k_ ≠ s ∧ k_ ≠ a) aw (fun k_ hk_ => hk_.elim (fun hs_ => ⟨hs_.1.1.1, hs_.1.1.2, hs_.1.2, hs_.2⟩) (fun hn_ => ⟨(ir_ hn_), (fb b.out k_ hn_), (fb c.out k_ hn_), (fb g.out k_ hn_)⟩))) (below_size bl_)); have af := Z (Kd.V_lower (Kd.V_mono (ok' := fun k_ => (C k_ ∨ w.heap.size ≤ k_) ∧ k_ ≠ r ∧ k_ ≠ s ∧ k_ ≠ a) ax (fun k_ hk_ => hk_.elim (fun hs_ => ⟨hs_.1.1.1, hs_.1.1.2, hs_.1.2, hs_.2⟩) (fun hn_ => ⟨(ir_ hn_), (fb b.out k_ hn_), (fb c.out k_ hn_), (fb g.out k_ hn_)⟩))) (below_size bl_)); replace b := kb' b hb; replace c := kb' c hb; replace g := kb' g hb; replace HB := bs_ hb; (try clear hb); (try clear ci); (try clear hk); (try clear hi); (try clear aw); (try clear ax); (try simp only [errW_none, errW_some])) | ((with_reducible refine gate_dst (N := 7) rfl ?_); refine bx_ 7 24 #[.int .i64 0, .int .i64 0, .slice none 0 0, .int .i64 0, .bool false, .bool false] ?_; intro i hg cO hbox hb; replace d := Z (ve d.out hg hb); replace aa := Z (ve aa.out hg hb); replace af := Z (ve af.out hg hb); have aG := Z (hbox); have ch := Z (ln_ hg : w.heap.size ≤ i); have cg := ch; replace HB := bs_ hb; have ao := nl' b hg; have aq := ng' b hg; replace b := kb' b hb; have ap := nl' c hg; have ar := ng' c hg; replace c := kb' c hb; have j := nl' g hg; have au := ng' g hg; replace g := kb' g hb; clear hb hbox hg; have cn := aq.out; have cv := ao.out; have co := ar.out; have cw := ap.out; have cp := au.out; have cx := j.out; obtain ⟨bu, bv, bw, bx, bz, bA, b3, b4, b5, b6, b7, b8⟩ := cells6 aG.out; obtain ⟨Y, ab, a7⟩ := Kd.V_slice aa.out; subst a7; obtain ⟨bB, bC, bD, bE, bF, bG, b9, ca, cb, cc, cd, ce⟩ := cells6 g.out))
  refine bodyPost_ret (results_ctt rfl _ _ a 24 #[.int .i64 u, .int .i64 A, .slice Y D.length ab, .int .i64 F, .bool I, .bool X] (0, 0) _ rfl (by (with_reducible repeat apply pK); refine blk_put (cs := #[.int .i64 u, .int .i64 A, .slice Y D.length ab, .int .i64 F, .bool I, .bool false]) ?_ 5 _ rfl; (with_reducible repeat apply pK); refine blk_put (cs := #[.int .i64 u, .int .i64 A, .slice Y D.length ab, .int .i64 F, .bool false, .bool false]) ?_ 4 _ rfl; (with_reducible repeat apply pK); refine blk_put (cs := #[.int .i64 u, .int .i64 A, .slice Y D.length ab, .int .i64 0, .bool false, .bool false]) ?_ 3 _ rfl; (with_reducible repeat apply pK); refine blk_put (cs := #[.int .i64 u, .int .i64 A, .slice none 0 0, .int .i64 0, .bool false, .bool false]) ?_ 2 _ rfl; (with_reducible repeat apply pK); refine blk_put (cs := #[.int .i64 u, .int .i64 0, .slice none 0 0, .int .i64 0, .bool false, .bool false]) ?_ 1 _ rfl; (with_reducible repeat apply pK); refine blk_put (cs := #[.int .i64 0, .int .i64 0, .slice none 0 0, .int .i64 0, .bool false, .bool false]) ?_ 0 _ rfl; (with_reducible repeat apply pK); refine blk_far ?_ j.out _; (with_reducible repeat apply pK); refine blk_far ?_ j.out _; (with_reducible repeat apply pK); refine blk_far ?_ j.out _; (with_reducible repeat apply pK); refine blk_far ?_ j.out _; (with_reducible repeat apply pK); refine blk_far ?_ j.out _; (with_reducible repeat apply pK); refine blk_far ?_ j.out _; (with_reducible repeat apply pK); exact g.out) Tryd.underlying24 rfl (by kernel_rfl)) rfl ?_
  exact ⟨_, _, er_, by (with_reducible repeat apply pV); exact Kd.V_mono (f6V a (f6V i (Kd.V_mono (Kd.V_mono aa.out (fun k_ hk => (⟨hk, hk.2⟩ : _ ∧ k_ ≠ i))) (fun k_ hk => (⟨hk, hk.1.1.2.2.2⟩ : _ ∧ k_ ≠ a))) (fun _ hk => hk.1.2)) (fun _ hk => hk.2)) (fun _ hk => hk.1.1.1.1), by (with_reducible repeat apply pV); exact Kd.V_mono (f6V a (f6V i (Kd.V_mono (Kd.V_mono af.out (fun k_ hk => (⟨hk, hk.2⟩ : _ ∧ k_ ≠ i))) (fun k_ hk => (⟨hk, hk.1.1.2.2.2⟩ : _ ∧ k_ ≠ a))) (fun _ hk => hk.1.2)) (fun _ hk => hk.2)) (fun _ hk => hk.1.1.1.1), bl_⟩
section
open Go.RowKit Go.Extern.Stop Go.Stop Go.Extern
theorem IS.equalIn (w : World) (d : Nat) {ti tn : TypeId} {ms : Array (String × TypeId)} {i : TypeInfo} {k : IntKind} (a b : Int)
  (hi : Tryd.prog.underlying ti = some (.interface ms)) (hn : Tryd.prog.underlying tn = some (.int k)) (hinfo : Tryd.prog.info? tn = some i) (hcomp : i.comparable = true) :
  (Op.equalIn (d + 2) ti (.iface tn (.int k a)) (.iface tn (.int k b))).run Tryd.prog w = .ok (a == b) w := by
 simp [Op.equalIn, run_underlying hi, run_underlying hn, typeInfo, hinfo, hcomp]
theorem IS.eql (w : World) {ti tn : TypeId} {ms : Array (String × TypeId)} {i : TypeInfo} {k : IntKind} (a b : Int)
  (hi : Tryd.prog.underlying ti = some (.interface ms)) (hn : Tryd.prog.underlying tn = some (.int k)) (hinfo : Tryd.prog.info? tn = some i) (hcomp : i.comparable = true) :
  (binOp .eql ti (.iface tn (.int k a)) (.iface tn (.int k b))).run Tryd.prog w = .ok (.bool (a == b)) w := by
 simp only [binOp]
 simp [Op.equal, Op.maxDepth, IS.equalIn w 9998 a b hi hn hinfo hcomp]
theorem IS.typeOf (v : Value) (w : World) : (Extern.ReflectliteType.typeOf #[.iface 52 v]).run Tryd.prog w = .ok (.iface 112 (.agg #[.pointer (some ⟨1, 52, none⟩)])) w := by kernel_rfl
theorem IS.comp (w : World) : ((Extern.ReflectliteType.method fun t => do Rtype.noPackHeld "Comparable" t; pure (.bool (← typeInfo t).comparable)) #[.agg #[.pointer (some ⟨1, 52, none⟩)]]).run Tryd.prog w = .ok (.bool true) w := by kernel_rfl
theorem IS.call (w : World) : (callFunc 129 #[.agg #[.pointer (some ⟨1, 52, none⟩)]]).run Tryd.prog w = .ok (.value (.bool true)) w := by
 rw [@run_callFunc_extern Tryd.prog 129 _ (Extern.ReflectliteType.method fun t => do Rtype.noPackHeld "Comparable" t; pure (.bool (← typeInfo t).comparable)) Tryd.func129 (by kernel_rfl) (by kernel_rfl) (by kernel_rfl) (by kernel_rfl), IS.comp]
 rfl
theorem IS.meth (v : Value) (w : World) : (Go.method 262 112 v "Comparable").run Tryd.prog w = .ok (129, v) w := by kernel_rfl
theorem IS.info : (Tryd.prog.info? 52).map (·.comparable) = some true := by kernel_rfl
theorem IS.noIsE (v : Value) (xT : TypeId) (w : World) : (Instr.typeAssert (.iface 52 v) xT 131 true).run Tryd.prog w = .ok (.tuple #[.nilIface, .bool false]) w := run_typeAssert_lacksB Tryd.underlying131 (by kernel_rfl) (by kernel_rfl) v xT w
theorem IS.noUnE (v : Value) (xT : TypeId) (w : World) : (Instr.typeAssert (.iface 52 v) xT 120 true).run Tryd.prog w = .ok (.tuple #[.nilIface, .bool false]) w := run_typeAssert_lacksB Tryd.underlying120 (by kernel_rfl) (by kernel_rfl) v xT w
theorem IS.noUnsE (v : Value) (xT : TypeId) (w : World) : (Instr.typeAssert (.iface 52 v) xT 122 true).run Tryd.prog w = .ok (.tuple #[.nilIface, .bool false]) w := run_typeAssert_lacksB Tryd.underlying122 (by kernel_rfl) (by kernel_rfl) v xT w
theorem IS.noIsS (v : Value) (xT : TypeId) (w : World) : (Instr.typeAssert (.iface 76 v) xT 131 true).run Tryd.prog w = .ok (.tuple #[.nilIface, .bool false]) w := run_typeAssert_lacksB Tryd.underlying131 (by kernel_rfl) (by kernel_rfl) v xT w
theorem IS.hasUnS (v : Value) (xT : TypeId) (w : World) : (Instr.typeAssert (.iface 76 v) xT 120 true).run Tryd.prog w = .ok (.tuple #[.iface 76 v, .bool true]) w := run_typeAssert_hasB Tryd.underlying120 (by kernel_rfl) v xT w
theorem IS.methUn (v : Value) (w : World) : (Go.method 262 76 v "Unwrap").run Tryd.prog w = .ok (123, v) w := by kernel_rfl
theorem IS.num (n m : Int) (w : World) : Calls Tryd.prog 83 #[.iface 52 (.int .i64 n), .iface 52 (.int .i64 m)] w fun e w' => e = .returned (.bool (n == m)) ∧ w' = w := by
 obtain ⟨i, hi, hcmp⟩ := Option.map_eq_some_iff.1 IS.info
 have a := @run_callFunc_extern Tryd.prog 90 _ Extern.ReflectliteType.typeOf Tryd.func90 (by kernel_rfl) (by kernel_rfl) (by kernel_rfl) (by kernel_rfl)
 have hC := IS.call
 have tT := IS.typeOf
 have mR := IS.meth
 have nE := IS.noIsE
 have uE := IS.noUnE
 have vE := IS.noUnsE
 have heq := fun w => IS.eql w n m Tryd.underlying28 Tryd.underlying52 hi hcmp
 clear hi hcmp
 cases hb : (n == m) with
 | true =>
  go_enter Tryd.func83, Tryd.ntmps83
  go_wp2
  refine wp_loop_rounds 1 ?_
  rw [rounds_succ]
  go_wp2
  go_ret
  exact ⟨rfl, rfl⟩
 | false =>
  go_enter Tryd.func83, Tryd.ntmps83
  go_wp2
  refine wp_loop_rounds 1 ?_
  rw [rounds_succ]
  go_wp2
  go_ret
  exact ⟨rfl, rfl⟩
theorem IS.nil (m : Int) (w : World) : Calls Tryd.prog 83 #[.nilIface, .iface 52 (.int .i64 m)] w fun e w' => e = .returned (.bool false) ∧ w' = w := by
 have hn := run_eql_iface_nil_left (P := Tryd.prog) w 52 (.int .i64 m) Tryd.underlying28
 go_enter Tryd.func83, Tryd.ntmps83
 go_wp2
 go_ret
 exact ⟨rfl, rfl⟩
theorem IS.spot (ad : Addr) (n m : Int) (w : World) (a : w.cell? ⟨ad.block, ad.off + 1, none⟩ = some (.iface 52 (.int .i64 n))) : Calls Tryd.prog 83 #[.iface 76 (.pointer (some ad)), .iface 52 (.int .i64 m)] w fun e w' => e = .returned (.bool (n == m)) ∧ w' = w := by
 obtain ⟨i, hi, hcmp⟩ := Option.map_eq_some_iff.1 IS.info
 have c := @run_callFunc_extern Tryd.prog 90 _ Extern.ReflectliteType.typeOf Tryd.func90 (by kernel_rfl) (by kernel_rfl) (by kernel_rfl) (by kernel_rfl)
 have hC := IS.call
 have tT := IS.typeOf
 have mR := IS.meth
 have nE := IS.noIsE
 have uE := IS.noUnE
 have vE := IS.noUnsE
 have nW := IS.noIsS
 have uW := IS.hasUnS
 have mU := IS.methUn
 have hty := run_eql_iface_types (P := Tryd.prog) 76 52 (.pointer (some ad)) (.int .i64 m) Tryd.underlying28 (by decide) w
 have heq := fun w => IS.eql w n m Tryd.underlying28 Tryd.underlying52 hi hcmp
 have hu := Tryd.underlying79
 clear hi hcmp
 obtain ⟨b, o, s⟩ := ad
 cases hb : (n == m) with
 | true =>
  go_enter Tryd.func83, Tryd.ntmps83
  go_wp2
  refine wp_loop_rounds 2 ?_
  rw [rounds_succ]
  go_wp2
  rw [rounds_succ]
  go_wp2
  go_ret
  exact ⟨rfl, rfl⟩
 | false =>
  go_enter Tryd.func83, Tryd.ntmps83
  go_wp2
  refine wp_loop_rounds 2 ?_
  rw [rounds_succ]
  go_wp2
  rw [rounds_succ]
  go_wp2
  go_ret
  exact ⟨rfl, rfl⟩
def refusedI (n : Int) : Bool := decide (7 ≤ n ∧ n ≤ 10)
def keys_Refused.f (a : Option Er) (b : List S164) : Option Bool :=
 match a with
 | none => some false
 | some (.num n) => some (refusedI n)
 | some .spot => match b with | [s] => some (refusedI s.f1) | _ => none
def refO : Option Int → Bool
 | none => false
 | some n => refusedI n
theorem refO_false {x : Option Int} (b : (x == some 7) = false) (c : (x == some 8) = false) (d : (x == some 9) = false) (a : (x == some 10) = false) : refO x = false := by
 cases x with
 | none => rfl
 | some n =>
  simp only [Option.some_beq_some, beq_eq_false_iff_ne] at b c d a
  exact decide_eq_false (by omega)
theorem refO_true {x : Option Int} {m : Int} (h : (x == some m) = true) (a : 7 ≤ m ∧ m ≤ 10) : refO x = true := by
 obtain rfl := of_decide_eq_true (by simpa using h : decide (x = some m) = true)
 exact decide_eq_true a
theorem refused_walk (v : Value) (x : Option Int) (w : World) (hI : ∀ (m : Int) (W : World), Below w.heap.size w W → Calls Tryd.prog 83 #[v, .iface 52 (.int .i64 m)] W fun e w' => e = .returned (.bool (x == some m)) ∧ w' = W) :
  Calls Tryd.prog 63 #[v] w fun e w' => e = .returned (.bool (refO x)) ∧ Below w.heap.size w w' := by
 have HI := Z hI
 have hu := Tryd.underlying107
 clear hI
 cases b : (x == some 7) with
 | true =>
  rw [refO_true b (by decide)]
  go_enter Tryd.func63, Tryd.ntmps63
  go_wp2
  refine wp_loop_rounds 1 ?_
  rw [rounds_succ]
  go_wp2_with (go_at_call 83; (with_reducible refine (HI.out _ _ ?bl_).mono ?_); (case bl_ => repeat (first | exact Below.refl _ _ | refine below_alloc ?_ _)); rintro e w' ⟨rfl, rfl⟩)
  go_ret
  exact ⟨rfl, below_alloc (Below.refl _ _) _⟩
 | false =>
  cases c : (x == some 8) with
  | true =>
   rw [refO_true c (by decide)]
   go_enter Tryd.func63, Tryd.ntmps63
   go_wp2
   refine wp_loop_rounds 2 ?_
   rw [rounds_succ]
   go_wp2_with (go_at_call 83; (with_reducible refine (HI.out _ _ ?bl_).mono ?_); (case bl_ => repeat (first | exact Below.refl _ _ | refine below_alloc ?_ _)); rintro e w' ⟨rfl, rfl⟩)
   rw [rounds_succ]
   go_wp2_with (go_at_call 83; (with_reducible refine (HI.out _ _ ?bl_).mono ?_); (case bl_ => repeat (first | exact Below.refl _ _ | refine below_alloc ?_ _)); rintro e w' ⟨rfl, rfl⟩)
   go_ret
   exact ⟨rfl, below_alloc (Below.refl _ _) _⟩
  | false =>
   cases d : (x == some 9) with
   | true =>
    rw [refO_true d (by decide)]
    go_enter Tryd.func63, Tryd.ntmps63
    go_wp2
    refine wp_loop_rounds 3 ?_
    rw [rounds_succ]
    go_wp2_with (go_at_call 83; (with_reducible refine (HI.out _ _ ?bl_).mono ?_); (case bl_ => repeat (first | exact Below.refl _ _ | refine below_alloc ?_ _)); rintro e w' ⟨rfl, rfl⟩)
    rw [rounds_succ]
    go_wp2_with (go_at_call 83; (with_reducible refine (HI.out _ _ ?bl_).mono ?_); (case bl_ => repeat (first | exact Below.refl _ _ | refine below_alloc ?_ _)); rintro e w' ⟨rfl, rfl⟩)
    rw [rounds_succ]
    go_wp2_with (go_at_call 83; (with_reducible refine (HI.out _ _ ?bl_).mono ?_); (case bl_ => repeat (first | exact Below.refl _ _ | refine below_alloc ?_ _)); rintro e w' ⟨rfl, rfl⟩)
    go_ret
    exact ⟨rfl, below_alloc (Below.refl _ _) _⟩
   | false =>
    cases a : (x == some 10) with
    | true =>
     rw [refO_true a (by decide)]
     go_enter Tryd.func63, Tryd.ntmps63
     go_wp2
     refine wp_loop_rounds 4 ?_
     rw [rounds_succ]
     go_wp2_with (go_at_call 83; (with_reducible refine (HI.out _ _ ?bl_).mono ?_); (case bl_ => repeat (first | exact Below.refl _ _ | refine below_alloc ?_ _)); rintro e w' ⟨rfl, rfl⟩)
     rw [rounds_succ]
     go_wp2_with (go_at_call 83; (with_reducible refine (HI.out _ _ ?bl_).mono ?_); (case bl_ => repeat (first | exact Below.refl _ _ | refine below_alloc ?_ _)); rintro e w' ⟨rfl, rfl⟩)
     rw [rounds_succ]
     go_wp2_with (go_at_call 83; (with_reducible refine (HI.out _ _ ?bl_).mono ?_); (case bl_ => repeat (first | exact Below.refl _ _ | refine below_alloc ?_ _)); rintro e w' ⟨rfl, rfl⟩)
     rw [rounds_succ]
     go_wp2_with (go_at_call 83; (with_reducible refine (HI.out _ _ ?bl_).mono ?_); (case bl_ => repeat (first | exact Below.refl _ _ | refine below_alloc ?_ _)); rintro e w' ⟨rfl, rfl⟩)
     go_ret
     exact ⟨rfl, below_alloc (Below.refl _ _) _⟩
    | false =>
     rw [refO_false b c d a]
     go_enter Tryd.func63, Tryd.ntmps63
     go_wp2
     refine wp_loop_rounds 5 ?_
     rw [rounds_succ]
     go_wp2_with (go_at_call 83; (with_reducible refine (HI.out _ _ ?bl_).mono ?_); (case bl_ => repeat (first | exact Below.refl _ _ | refine below_alloc ?_ _)); rintro e w' ⟨rfl, rfl⟩)
     rw [rounds_succ]
     go_wp2_with (go_at_call 83; (with_reducible refine (HI.out _ _ ?bl_).mono ?_); (case bl_ => repeat (first | exact Below.refl _ _ | refine below_alloc ?_ _)); rintro e w' ⟨rfl, rfl⟩)
     rw [rounds_succ]
     go_wp2_with (go_at_call 83; (with_reducible refine (HI.out _ _ ?bl_).mono ?_); (case bl_ => repeat (first | exact Below.refl _ _ | refine below_alloc ?_ _)); rintro e w' ⟨rfl, rfl⟩)
     rw [rounds_succ]
     go_wp2_with (go_at_call 83; (with_reducible refine (HI.out _ _ ?bl_).mono ?_); (case bl_ => repeat (first | exact Below.refl _ _ | refine below_alloc ?_ _)); rintro e w' ⟨rfl, rfl⟩)
     rw [rounds_succ]
     go_wp2
     go_ret
     exact ⟨rfl, below_alloc (Below.refl _ _) _⟩
theorem keys_Refused.calls (b : Option Er) (d : Option Addr) (c : Nat) (a : List S164) (r : Bool) (w : World) (i : Kd.C k164 w d a.length a) (g : a.length ≤ c) (h : keys_Refused.f b a = some r) :
  Calls Tryd.prog 63 #[errW (.slice d a.length c) b] w fun e w' => e = .returned (.bool r) ∧ Below w.heap.size w w' := by
 rcases b with _ | q
 ·obtain rfl := Option.some.inj h
  rw [errW_none]
  exact refused_walk .nilIface none w (fun m W _ => IS.nil m W)
 ·cases q with
  | num n =>
   obtain rfl := Option.some.inj h
   rw [errW_some, show (Er.num n).ty = 52 from rfl, show (Er.num n).pay _ = .int .i64 n from rfl]
   exact refused_walk _ (some n) w (fun m W _ => by rw [Option.some_beq_some]; exact IS.num n m W)
  | spot =>
   match a, i, g, h with
   | [s], hr, hc, h =>
    obtain rfl := Option.some.inj h
    obtain ⟨ad, rfl, k, j⟩ := spot_at hr
    rw [errW_some, show Er.spot.ty = 76 from rfl, show Er.spot.pay (.slice (some ad) ([s] : List S164).length c) = .pointer (some ad) from rfl]
    have hlt := bk_ w ⟨ad.block, ad.off + 1, none⟩ j
    exact refused_walk _ (some s.f1) w (fun m W hB => by rw [Option.some_beq_some]; exact IS.spot ad s.f1 m W ((hB.cell (p := ⟨ad.block, ad.off + 1, none⟩) hlt).trans j))
end
def shutterlaw17_awake.f (k : Nat)  : Option (Bool) := (some (([(⟨true, (⟨false, false, 0, false⟩ : S33), 0⟩ : S35), (⟨false, (⟨false, false, 0, false⟩ : S33), 0⟩ : S35)] : List (S35)) : List (S35))).bind fun d => ((keys_Do.f k 1 2 d 1 false false 17 125).bind fun c => ((keys_Do.f k 1 2 d 1 false false 1 193).bind fun a => ((keys_Do.f k 1 2 d 1 false false 0 0).bind fun b => (if c.2.2.2.2.2.2.2.1.isNone = true then (if c.2.2.2.2.2.2.1 = true then (if c.2.2.2.2.1 = true then (if a.2.2.2.2.2.2.2.1.isNone = true then (if a.2.2.2.2.2.2.1 = true then (none) else (if (a.2.2.1.length : Int) = 2 then (if 1 < (a.2.2.1.length : Int) then (if ((rd_T35 a.2.2.1 1).f2) = 193 then ((api_Code.f b.2.2.2.2.2.2.2.1 b.2.2.2.2.2.2.2.2).bind fun e => (if e = 1 then ((keys_Refused.f b.2.2.2.2.2.2.2.1 b.2.2.2.2.2.2.2.2).bind fun g => (some (!g))) else (none))) else (none)) else (none)) else (none))) else (none)) else (none)) else (none)) else (none)))))
theorem shutterlaw17_awake.mono : ∀ k, LeO (shutterlaw17_awake.f k ) (shutterlaw17_awake.f (k + 1) ) := by
 intro  k
 unfold shutterlaw17_awake.f
 repeat' first
   | (with_reducible exact keys_Do.mono _ _ _ _ _ _ _ _ _)
   | (with_reducible exact LeO.refl _)
   | (with_reducible exact LeO.none _)
   | (with_reducible refine LeO.ite ?_ ?_)
   | (with_reducible refine LeO.bind ?_ (fun _ => ?_))
   | exact keys_Do.mono _ _ _ _ _ _ _ _ _
   | exact LeO.none _
   | refine LeO.ite ?_ ?_
   | refine LeO.bind ?_ (fun _ => ?_)
theorem shutterlaw17_awake.calls (k : Nat)  (r : Bool) (w : World) (hG : LaidG w) (h : shutterlaw17_awake.f k  = some r) :
  Calls Tryd.prog 41 #[] w fun e w' => e = .returned (.bool r) ∧ Below w.heap.size w w' := by
 have HG := Z hG
 clear hG
 have em := Tryd.underlying35
 have ek := Tryd.underlying24
 have eo := Tryd.underlying58
 have el := Tryd.underlying28
 have en := Tryd.underlying52
 have HB := Z (Below.refl w.heap.size w)
 have H : ((some (([(⟨true, (⟨false, false, 0, false⟩ : S33), 0⟩ : S35), (⟨false, (⟨false, false, 0, false⟩ : S33), 0⟩ : S35)] : List (S35)) : List (S35))).bind fun D => ((keys_Do.f k 1 2 D 1 false false 17 125).bind fun aB => ((keys_Do.f k 1 2 D 1 false false 1 193).bind fun W => ((keys_Do.f k 1 2 D 1 false false 0 0).bind fun Q => (if aB.2.2.2.2.2.2.2.1.isNone = true then (if aB.2.2.2.2.2.2.1 = true then (if aB.2.2.2.2.1 = true then (if W.2.2.2.2.2.2.2.1.isNone = true then (if W.2.2.2.2.2.2.1 = true then (none) else (if (W.2.2.1.length : Int) = 2 then (if 1 < (W.2.2.1.length : Int) then (if ((rd_T35 W.2.2.1 1).f2) = 193 then ((api_Code.f Q.2.2.2.2.2.2.2.1 Q.2.2.2.2.2.2.2.2).bind fun F => (if F = 1 then ((keys_Refused.f Q.2.2.2.2.2.2.2.1 Q.2.2.2.2.2.2.2.2).bind fun P => (some (!P))) else (none))) else (none)) else (none)) else (none))) else (none)) else (none)) else (none)) else (none)))))) = some r := h
 clear h
 obtain ⟨D, aE⟩ : ∃ y_ : List (S35), y_ = (([(⟨true, (⟨false, false, 0, false⟩ : S33), 0⟩ : S35), (⟨false, (⟨false, false, 0, false⟩ : S33), 0⟩ : S35)] : List (S35))) := ⟨_, rfl⟩
 replace H : ((keys_Do.f k 1 2 D 1 false false 17 125).bind fun aB => ((keys_Do.f k 1 2 D 1 false false 1 193).bind fun W => ((keys_Do.f k 1 2 D 1 false false 0 0).bind fun Q => (if aB.2.2.2.2.2.2.2.1.isNone = true then (if aB.2.2.2.2.2.2.1 = true then (if aB.2.2.2.2.1 = true then (if W.2.2.2.2.2.2.2.1.isNone = true then (if W.2.2.2.2.2.2.1 = true then (none) else (if (W.2.2.1.length : Int) = 2 then (if 1 < (W.2.2.1.length : Int) then (if ((rd_T35 W.2.2.1 1).f2) = 193 then ((api_Code.f Q.2.2.2.2.2.2.2.1 Q.2.2.2.2.2.2.2.2).bind fun F => (if F = 1 then ((keys_Refused.f Q.2.2.2.2.2.2.2.1 Q.2.2.2.2.2.2.2.2).bind fun P => (some (!P))) else (none))) else (none)) else (none)) else (none))) else (none)) else (none)) else (none)) else (none))))) = some r := by first | (rw [aE]; with_reducible exact H) | (have bt := (Option.bind_some _ _).symm.trans H; rw [aE]; with_reducible exact bt) | (have bt := (Option.bind_some _ _).symm.trans H; with_reducible exact bt) | with_reducible exact H | (rw [aE]; exact H) | exact H
 have bi := Z aE
 clear aE
 replace H := Option.bind_eq_some_iff.mp H
 obtain ⟨⟨aN, aO, az, aP, aF, aQ, aR, aX, bh⟩, bm, H⟩ := H
 replace H : ((keys_Do.f k 1 2 D 1 false false 1 193).bind fun W => ((keys_Do.f k 1 2 D 1 false false 0 0).bind fun Q => (if aX.isNone = true then (if aR = true then (if aF = true then (if W.2.2.2.2.2.2.2.1.isNone = true then (if W.2.2.2.2.2.2.1 = true then (none) else (if (W.2.2.1.length : Int) = 2 then (if 1 < (W.2.2.1.length : Int) then (if ((rd_T35 W.2.2.1 1).f2) = 193 then ((api_Code.f Q.2.2.2.2.2.2.2.1 Q.2.2.2.2.2.2.2.2).bind fun F => (if F = 1 then ((keys_Refused.f Q.2.2.2.2.2.2.2.1 Q.2.2.2.2.2.2.2.2).bind fun P => (some (!P))) else (none))) else (none)) else (none)) else (none))) else (none)) else (none)) else (none)) else (none)))) = some r := H
 have A1 := Z bm
 clear bm
 replace H := Option.bind_eq_some_iff.mp H
 obtain ⟨⟨aY, aZ, j, a0, a1, a2, aD, aG, bo⟩, bG, H⟩ := H
 replace H : ((keys_Do.f k 1 2 D 1 false false 0 0).bind fun Q => (if aX.isNone = true then (if aR = true then (if aF = true then (if aG.isNone = true then (if aD = true then (none) else (if (j.length : Int) = 2 then (if 1 < (j.length : Int) then (if ((rd_T35 j 1).f2) = 193 then ((api_Code.f Q.2.2.2.2.2.2.2.1 Q.2.2.2.2.2.2.2.2).bind fun F => (if F = 1 then ((keys_Refused.f Q.2.2.2.2.2.2.2.1 Q.2.2.2.2.2.2.2.2).bind fun P => (some (!P))) else (none))) else (none)) else (none)) else (none))) else (none)) else (none)) else (none)) else (none))) = some r := H
 have A2 := Z bG
 clear bG
 replace H := Option.bind_eq_some_iff.mp H
 obtain ⟨⟨af, ag, ah, ai, aj, ak, bE, ad, aa⟩, bH, H⟩ := H
 replace H : (if aX.isNone = true then (if aR = true then (if aF = true then (if aG.isNone = true then (if aD = true then (none) else (if (j.length : Int) = 2 then (if 1 < (j.length : Int) then (if ((rd_T35 j 1).f2) = 193 then ((api_Code.f ad aa).bind fun F => (if F = 1 then ((keys_Refused.f ad aa).bind fun P => (some (!P))) else (none))) else (none)) else (none)) else (none))) else (none)) else (none)) else (none)) else (none)) = some r := H
 have A3 := Z bH
 clear bH
 rcases aX with _ | bC
 ·have H1 : (if aR = true then (if aF = true then (if aG.isNone = true then (if aD = true then (none) else (if (j.length : Int) = 2 then (if 1 < (j.length : Int) then (if ((rd_T35 j 1).f2) = 193 then ((api_Code.f ad aa).bind fun F => (if F = 1 then ((keys_Refused.f ad aa).bind fun P => (some (!P))) else (none))) else (none)) else (none)) else (none))) else (none)) else (none)) else (none)) = some r := by rw [if_pos (show (none : Option Er).isNone = true by rfl)] at H; exact H
  clear H
  have H := H1
  clear H1
  try simp only [errW_none, errW_some]
  by_cases c4 : aR = true
  ·subst c4
   have H1 : (if aF = true then (if aG.isNone = true then (if aD = true then (none) else (if (j.length : Int) = 2 then (if 1 < (j.length : Int) then (if ((rd_T35 j 1).f2) = 193 then ((api_Code.f ad aa).bind fun F => (if F = 1 then ((keys_Refused.f ad aa).bind fun P => (some (!P))) else (none))) else (none)) else (none)) else (none))) else (none)) else (none)) = some r := by rw [if_pos rfl] at H; exact H
   clear H
   have H := H1
   clear H1
   by_cases c5 : aF = true
   ·subst c5
    have H1 : (if aG.isNone = true then (if aD = true then (none) else (if (j.length : Int) = 2 then (if 1 < (j.length : Int) then (if ((rd_T35 j 1).f2) = 193 then ((api_Code.f ad aa).bind fun F => (if F = 1 then ((keys_Refused.f ad aa).bind fun P => (some (!P))) else (none))) else (none)) else (none)) else (none))) else (none)) = some r := by rw [if_pos rfl] at H; exact H
    clear H
    have H := H1
    clear H1
    rcases aG with _ | bD
    ·have H1 : (if aD = true then (none) else (if (j.length : Int) = 2 then (if 1 < (j.length : Int) then (if ((rd_T35 j 1).f2) = 193 then ((api_Code.f ad aa).bind fun F => (if F = 1 then ((keys_Refused.f ad aa).bind fun P => (some (!P))) else (none))) else (none)) else (none)) else (none))) = some r := by rw [if_pos (show (none : Option Er).isNone = true by rfl)] at H; exact H
     clear H
     have H := H1
     clear H1
     try simp only [errW_none, errW_some]
     by_cases c6 : aD = true
     ·subst c6
      have H1 : (none) = some r := by rw [if_pos rfl] at H; exact H
      clear H
      have H := H1
      clear H1
      exact absurd H (by simp)
     ·replace c6 := Bool.eq_false_iff.mpr c6
      subst c6
      have H1 : (if (j.length : Int) = 2 then (if 1 < (j.length : Int) then (if ((rd_T35 j 1).f2) = 193 then ((api_Code.f ad aa).bind fun F => (if F = 1 then ((keys_Refused.f ad aa).bind fun P => (some (!P))) else (none))) else (none)) else (none)) else (none)) = some r := by rw [if_neg (show ¬ (false = true) by decide)] at H; exact H
      clear H
      have H := H1
      clear H1
      by_cases c7 : (j.length : Int) = 2
      ·rw [if_pos c7] at H
       obtain ⟨ee, ef⟩ := eT_ c7
       clear c7
       by_cases c8 : 1 < (j.length : Int)
       ·rw [if_pos c8] at H
        have eg : decide (1 < (j.length : Int)) = true := decide_eq_true c8
        have eh : decide (1 < j.length) = true := decide_eq_true (by omega)
        clear c8
        by_cases c9 : ((rd_T35 j 1).f2) = 193
        ·rw [if_pos c9] at H
         obtain ⟨ei, ej⟩ := eT_ c9
         clear c9
         replace H := Option.bind_eq_some_iff.mp H
         obtain ⟨F, bq, H⟩ := H
         replace H : (if F = 1 then ((keys_Refused.f ad aa).bind fun P => (some (!P))) else (none)) = some r := H
         have bm := Z bq
         clear bq
         by_cases bj : F = 1
         ·rw [if_pos bj] at H
          obtain ⟨dS, dT⟩ := eT_ bj
          clear bj
          replace H := Option.bind_eq_some_iff.mp H
          obtain ⟨P, br, H⟩ := H
          replace H : (some (!P)) = some r := H
          have dF := Z br
          clear br
          obtain rfl := Option.some.inj H
          go_enter Tryd.func41, Tryd.ntmps41
          go_wp2_with (first | ((with_reducible refine gate_dst (N := 13) rfl ?_); (try (refine gate_guard (by rfl) ?_; dsimp only)); refine Kd.R_lit k35 _ 35 ?hg (N := 13) ?hd (xs := ([(⟨true, (⟨false, false, 0, false⟩ : S33), 0⟩ : S35), (⟨false, (⟨false, false, 0, false⟩ : S33), 0⟩ : S35)] : List (S35))) (inner := [.bool true, .bool false, .bool false, .int .i64 0, .bool false, .int .u8 0, .bool false, .bool false, .bool false, .int .i64 0, .bool false, .int .u8 0]) (ok := fun _ => True) (okp := fun _ => True) ?hr ?hp (fun _ hk => hk) trivial (Below.refl _ _) (Nat.le_refl _) (by simp) ?_; (case hd => rfl); (case hg => rfl); (case hr => first | (go_simp; done) | (go_simp; rfl)); (case hp => exact (Reps.c6 (show Kd.M k35 _ _ _ (⟨true, (⟨false, false, 0, false⟩ : S33), 0⟩ : S35) [.bool true, .bool false, .bool false, .int .i64 0, .bool false, .int .u8 0] from (k35_mkM _ _ _ (⟨true, (⟨false, false, 0, false⟩ : S33), 0⟩ : S35) )) (Reps.c6 (show Kd.M k35 _ _ _ (⟨false, (⟨false, false, 0, false⟩ : S33), 0⟩ : S35) [.bool false, .bool false, .bool false, .int .i64 0, .bool false, .int .u8 0] from (k35_mkM _ _ _ (⟨false, (⟨false, false, 0, false⟩ : S33), 0⟩ : S35) )) (Reps.none _ _)))); intro d6 ep a3 hb hg_ hnew_; clear hg_ hnew_; (first | rw [← bi.out] at a3 | (simp only [Int.reduceToNat] at a3; rw [← bi.out] at a3)); have d := Z (Kd.R_lower a3 (below_size bl_)); replace HB := bs_ hb; clear hb a3; obtain ⟨au, av, bI⟩ := Kd.R_slice d.out; subst bI) | ((with_reducible refine gate_dst (N := 1) rfl ?_); (try (refine gate_guard (by rfl) ?_; dsimp only)); refine bx_ 1 24 #[.int .i64 0, .int .i64 0, .slice none 0 0, .int .i64 0, .bool false, .bool false] ?_; intro C hg dP hbox hb; replace d := rb' d hb; have b := Z (hbox); have dK := Z (ln_ hg : w.heap.size ≤ C); have dG := dK; replace HB := bs_ hb; clear hb hbox hg; obtain ⟨bN, bO, bP, bQ, bR, bS, cG, cH, cI, cJ, cK, cL⟩ := cells6 b.out) | ((with_reducible refine gate_store (t := 24) (p := 1) rfl ?_); refine sx_ 24 1 ((((((dP.setCell ⟨C, 0, none⟩ (.int .i64 1)).setCell ⟨C, 1, none⟩ (.int .i64 2)).setCell ⟨C, 2, none⟩ (.slice au D.length av)).setCell ⟨C, 3, none⟩ (.int .i64 1)).setCell ⟨C, 4, none⟩ (.bool false)).setCell ⟨C, 5, none⟩ (.bool false)) ?_; intro bA hw; replace d : Aside0 (Kd.R k35 35 bA w.heap.size (fun _ => True) (.slice au D.length av) D) := ⟨(by rw [hw]; exact (by (with_reducible repeat apply pR); exact R_off d.out b.out (by decide) off2_))⟩; replace b : Aside0 (bA.heap[C]? = some (.cells #[.int .i64 1, .int .i64 2, .slice au D.length av, .int .i64 1, .bool false, .bool false] 24 (0, 0))) := ⟨by rw [hw]; exact (put6 b.out)⟩; replace HB : Aside0 (Below w.heap.size w bA) := ⟨by rw [hw]; exact bl_⟩; clear hw; obtain ⟨bT, bU, bV, bW, bX, bY, cM, cN, cO, cP, cQ, cR⟩ := cells6 b.out) | ((with_reducible refine gate_callee (f := 42) rfl ?_); refine goesL_ (some 18) rfl rfl Tryd.func42 (by kernel_rfl) rfl #[.agg #[.int .i64 1, .int .i64 2, .slice au D.length av, .int .i64 1, .bool false, .bool false], .agg #[.int .i64 17, .int .u8 125]] rfl ag_ ?_; (with_reducible refine (keys_Do.calls k 1 2 (fun k_ => some k_ = (.slice au D.length av : Value).ownBlock) _ _ D 1 false false 17 125 aN aO az aP true aQ true none bh _ ?side1 A1.out).mono ?_); (case side1 => exact Kd.R_V (Kd.R_tight rfl (Kd.R_types (d.out) b.out (by decide)))); rintro e eq ⟨d7, bp, rfl, aV, aW, hb⟩; refine ⟨_, rfl, ?_⟩; have m := Z (Kd.V_lower (Kd.V_mono (ok' := fun k_ => k_ ≠ C) aV (fun k_ hk_ => Or.elim hk_ (fun hs_ => ((Kd.R_types (d.out) b.out (by decide)).1 k_ hs_.symm).2) (fun hn_ => (fb b.out k_ hn_)))) (below_size bl_)); have q := Z (Kd.V_lower (Kd.V_mono (ok' := fun k_ => k_ ≠ C) aW (fun k_ hk_ => Or.elim hk_ (fun hs_ => ((Kd.R_types (d.out) b.out (by decide)).1 k_ hs_.symm).2) (fun hn_ => (fb b.out k_ hn_)))) (below_size bl_)); replace d := rb' d hb; replace b := kb' b hb; replace HB := bs_ hb; (try clear hb); (try clear bn); (try clear hk); (try clear hi); (try clear aV); (try clear aW); (try simp only [errW_none, errW_some])) | ((with_reducible refine gate_dst (N := 2) rfl ?_); (try (refine gate_guard (by rfl) ?_; dsimp only)); refine bx_ 2 24 #[.int .i64 0, .int .i64 0, .slice none 0 0, .int .i64 0, .bool false, .bool false] ?_; intro E hg dQ hbox hb; replace d := rb' d hb; replace m := Z (ve m.out hg hb); replace q := Z (ve q.out hg hb); have i := Z (hbox); have dL := Z (ln_ hg : w.heap.size ≤ E); have dH := dL; replace HB := bs_ hb; have aH := nl' b hg; have a7 := ng' b hg; replace b := kb' b hb; clear hb hbox hg; have dU := a7.out; have d0 := aH.out; obtain ⟨bZ, b0, b1, b2, b3, b4, cS, cT, cU, cV, cW, cX⟩ := cells6 i.out; obtain ⟨aT, aU, bJ⟩ := Kd.V_slice m.out; subst bJ) | ((with_reducible refine gate_store (t := 24) (p := 2) rfl ?_); refine sx_ 24 2 ((((((dQ.setCell ⟨E, 0, none⟩ (.int .i64 aN)).setCell ⟨E, 1, none⟩ (.int .i64 aO)).setCell ⟨E, 2, none⟩ (.slice aT az.length aU)).setCell ⟨E, 3, none⟩ (.int .i64 aP)).setCell ⟨E, 4, none⟩ (.bool true)).setCell ⟨E, 5, none⟩ (.bool aQ)) ?_; intro bd hw; replace d : Aside0 (Kd.R k35 35 bd w.heap.size (fun _ => True) (.slice au D.length av) D) := ⟨(by rw [hw]; exact (by (with_reducible repeat apply pR); exact R_off d.out i.out (by decide) off2_))⟩; replace m : Aside0 (Kd.V k35 35 bd w.heap.size (fun k_ => k_ ≠ C ∧ k_ ≠ E) (.slice aT az.length aU) az) := ⟨(by rw [hw]; exact (by (with_reducible repeat apply pV); exact V_off m.out (fun k_ hk => hk.2) off2_ (fun _ hk => ⟨hk.1, hk.2⟩)))⟩; replace q : Aside0 (Kd.V k164 164 bd w.heap.size (fun k_ => k_ ≠ C ∧ k_ ≠ E) bp bh) := ⟨(by rw [hw]; exact (by (with_reducible repeat apply pV); exact V_off q.out (fun k_ hk => hk.2) off2_ (fun _ hk => ⟨hk.1, hk.2⟩)))⟩; replace b := Z (sM hw (blk_off b.out aH.out off2_)); replace i : Aside0 (bd.heap[E]? = some (.cells #[.int .i64 aN, .int .i64 aO, .slice aT az.length aU, .int .i64 aP, .bool true, .bool aQ] 24 (0, 0))) := ⟨by rw [hw]; exact (put6 i.out)⟩; replace HB : Aside0 (Below w.heap.size w bd) := ⟨by rw [hw]; exact bl_⟩; clear hw; obtain ⟨b5, b6, b7, b8, b9, ca, cY, cZ, c0, c1, c2, c3⟩ := cells6 b.out) | ((with_reducible refine gate_callee (f := 42) rfl ?_); refine goesL_ (some 25) rfl rfl Tryd.func42 (by kernel_rfl) rfl #[.agg #[.int .i64 1, .int .i64 2, .slice au D.length av, .int .i64 1, .bool false, .bool false], .agg #[.int .i64 1, .int .u8 193]] rfl ag_ ?_; (with_reducible refine (keys_Do.calls k 1 2 (fun k_ => some k_ = (.slice au D.length av : Value).ownBlock) _ _ D 1 false false 1 193 aY aZ j a0 a1 a2 false none bo _ ?side1 A2.out).mono ?_); (case side1 => exact Kd.R_V (Kd.R_tight rfl (Kd.R_types (Kd.R_types (d.out) b.out (by decide)) i.out (by decide)))); rintro e er ⟨d8, bF, rfl, aV, aW, hb⟩; refine ⟨_, rfl, ?_⟩; replace m := vb' m hb; replace q := vb' q hb; have s := Z (Kd.V_lower (Kd.V_mono (ok' := fun k_ => k_ ≠ C ∧ k_ ≠ E) aV (fun k_ hk_ => ⟨Or.elim hk_ (fun hs_ => ((Kd.R_types (Kd.R_types (d.out) b.out (by decide)) i.out (by decide)).1 k_ hs_.symm).1.2) (fun hn_ => (fb b.out k_ hn_)), Or.elim hk_ (fun hs_ => ((Kd.R_types (Kd.R_types (d.out) b.out (by decide)) i.out (by decide)).1 k_ hs_.symm).2) (fun hn_ => (fb i.out k_ hn_))⟩)) (below_size bl_)); have U := Z (Kd.V_lower (Kd.V_mono (ok' := fun k_ => k_ ≠ C ∧ k_ ≠ E) aW (fun k_ hk_ => ⟨Or.elim hk_ (fun hs_ => ((Kd.R_types (Kd.R_types (d.out) b.out (by decide)) i.out (by decide)).1 k_ hs_.symm).1.2) (fun hn_ => (fb b.out k_ hn_)), Or.elim hk_ (fun hs_ => ((Kd.R_types (Kd.R_types (d.out) b.out (by decide)) i.out (by decide)).1 k_ hs_.symm).2) (fun hn_ => (fb i.out k_ hn_))⟩)) (below_size bl_)); replace d := rb' d hb; replace b := kb' b hb; replace i := kb' i hb; replace HB := bs_ hb; (try clear hb); (try clear bn); (try clear hk); (try clear hi); (try clear aV); (try clear aW); (try simp only [errW_none, errW_some])) | ((with_reducible refine gate_dst (N := 5) rfl ?_); (try (refine gate_guard (by rfl) ?_; dsimp only)); refine bx_ 5 24 #[.int .i64 0, .int .i64 0, .slice none 0 0, .int .i64 0, .bool false, .bool false] ?_; intro X hg dR hbox hb; replace d := rb' d hb; replace m := Z (ve m.out hg hb); replace q := Z (ve q.out hg hb); replace s := Z (ve s.out hg hb); replace U := Z (ve U.out hg hb); have l := Z (hbox); have dM := Z (ln_ hg : w.heap.size ≤ X); have dI := dM; replace HB := bs_ hb; have aI := nl' b hg; have a8 := ng' b hg; replace b := kb' b hb; have aK := nl' i hg; have a9 := ng' i hg; replace i := kb' i hb; clear hb hbox hg; have dV := a8.out; have d1 := aI.out; have dW := a9.out; have d2 := aK.out; obtain ⟨cb, cc, cd, ce, cf, cg, da, db, dc, dd, de, df⟩ := cells6 l.out; obtain ⟨bk, be, bK⟩ := Kd.V_slice s.out; subst bK) | ((with_reducible refine gate_store (t := 24) (p := 5) rfl ?_); refine sx_ 24 5 ((((((dR.setCell ⟨X, 0, none⟩ (.int .i64 aY)).setCell ⟨X, 1, none⟩ (.int .i64 aZ)).setCell ⟨X, 2, none⟩ (.slice bk j.length be)).setCell ⟨X, 3, none⟩ (.int .i64 a0)).setCell ⟨X, 4, none⟩ (.bool a1)).setCell ⟨X, 5, none⟩ (.bool a2)) ?_; intro aS hw; replace d : Aside0 (Kd.R k35 35 aS w.heap.size (fun _ => True) (.slice au D.length av) D) := ⟨(by rw [hw]; exact (by (with_reducible repeat apply pR); exact R_off d.out l.out (by decide) off2_))⟩; replace m : Aside0 (Kd.V k35 35 aS w.heap.size (fun k_ => k_ ≠ C ∧ k_ ≠ E ∧ k_ ≠ X) (.slice aT az.length aU) az) := ⟨(by rw [hw]; exact (by (with_reducible repeat apply pV); exact V_off m.out (fun k_ hk => hk.2) off2_ (fun _ hk => ⟨hk.1.1, ⟨hk.1.2, hk.2⟩⟩)))⟩; replace q : Aside0 (Kd.V k164 164 aS w.heap.size (fun k_ => k_ ≠ C ∧ k_ ≠ E ∧ k_ ≠ X) bp bh) := ⟨(by rw [hw]; exact (by (with_reducible repeat apply pV); exact V_off q.out (fun k_ hk => hk.2) off2_ (fun _ hk => ⟨hk.1.1, ⟨hk.1.2, hk.2⟩⟩)))⟩; replace s : Aside0 (Kd.V k35 35 aS w.heap.size (fun k_ => k_ ≠ C ∧ k_ ≠ E ∧ k_ ≠ X) (.slice bk j.length be) j) := ⟨(by rw [hw]; exact (by (with_reducible repeat apply pV); exact V_off s.out (fun k_ hk => hk.2) off2_ (fun _ hk => ⟨hk.1.1, ⟨hk.1.2, hk.2⟩⟩)))⟩; replace U : Aside0 (Kd.V k164 164 aS w.heap.size (fun k_ => k_ ≠ C ∧ k_ ≠ E ∧ k_ ≠ X) bF bo) := ⟨(by rw [hw]; exact (by (with_reducible repeat apply pV); exact V_off U.out (fun k_ hk => hk.2) off2_ (fun _ hk => ⟨hk.1.1, ⟨hk.1.2, hk.2⟩⟩)))⟩; replace b := Z (sM hw (blk_off b.out aI.out off2_)); replace i := Z (sM hw (blk_off i.out aK.out off2_)); replace l : Aside0 (aS.heap[X]? = some (.cells #[.int .i64 aY, .int .i64 aZ, .slice bk j.length be, .int .i64 a0, .bool a1, .bool a2] 24 (0, 0))) := ⟨by rw [hw]; exact (put6 l.out)⟩; replace HB : Aside0 (Below w.heap.size w aS) := ⟨by rw [hw]; exact bl_⟩; clear hw; obtain ⟨ch, ci, cj, ck, cl, cm, dg, dh, di, dj, dk, dl⟩ := cells6 b.out) | ((with_reducible refine gate_callee (f := 42) rfl ?_); refine goesL_ (some 32) rfl rfl Tryd.func42 (by kernel_rfl) rfl #[.agg #[.int .i64 1, .int .i64 2, .slice au D.length av, .int .i64 1, .bool false, .bool false], .agg #[.int .i64 0, .int .u8 0]] rfl ag_ ?_; (with_reducible refine (keys_Do.calls k 1 2 (fun k_ => some k_ = (.slice au D.length av : Value).ownBlock) _ _ D 1 false false 0 0 af ag ah ai aj ak bE ad aa _ ?side1 A3.out).mono ?_); (case side1 => exact Kd.R_V (Kd.R_tight rfl (Kd.R_types (Kd.R_types (Kd.R_types (d.out) b.out (by decide)) i.out (by decide)) l.out (by decide)))); rintro e es ⟨d9, ea, rfl, aV, aW, hb⟩; refine ⟨_, rfl, ?_⟩; replace m := vb' m hb; replace q := vb' q hb; replace s := vb' s hb; replace U := vb' U hb; have ao := Z (Kd.V_lower (Kd.V_mono (ok' := fun k_ => k_ ≠ C ∧ k_ ≠ E ∧ k_ ≠ X) aV (fun k_ hk_ => ⟨Or.elim hk_ (fun hs_ => ((Kd.R_types (Kd.R_types (Kd.R_types (d.out) b.out (by decide)) i.out (by decide)) l.out (by decide)).1 k_ hs_.symm).1.1.2) (fun hn_ => (fb b.out k_ hn_)), Or.elim hk_ (fun hs_ => ((Kd.R_types (Kd.R_types (Kd.R_types (d.out) b.out (by decide)) i.out (by decide)) l.out (by decide)).1 k_ hs_.symm).1.2) (fun hn_ => (fb i.out k_ hn_)), Or.elim hk_ (fun hs_ => ((Kd.R_types (Kd.R_types (Kd.R_types (d.out) b.out (by decide)) i.out (by decide)) l.out (by decide)).1 k_ hs_.symm).2) (fun hn_ => (fb l.out k_ hn_))⟩)) (below_size bl_)); have ae := Z (Kd.V_lower (Kd.V_mono (ok' := fun k_ => k_ ≠ C ∧ k_ ≠ E ∧ k_ ≠ X) aW (fun k_ hk_ => ⟨Or.elim hk_ (fun hs_ => ((Kd.R_types (Kd.R_types (Kd.R_types (d.out) b.out (by decide)) i.out (by decide)) l.out (by decide)).1 k_ hs_.symm).1.1.2) (fun hn_ => (fb b.out k_ hn_)), Or.elim hk_ (fun hs_ => ((Kd.R_types (Kd.R_types (Kd.R_types (d.out) b.out (by decide)) i.out (by decide)) l.out (by decide)).1 k_ hs_.symm).1.2) (fun hn_ => (fb i.out k_ hn_)), Or.elim hk_ (fun hs_ => ((Kd.R_types (Kd.R_types (Kd.R_types (d.out) b.out (by decide)) i.out (by decide)) l.out (by decide)).1 k_ hs_.symm).2) (fun hn_ => (fb l.out k_ hn_))⟩)) (below_size bl_)); replace d := rb' d hb; replace b := kb' b hb; replace i := kb' i hb; replace l := kb' l hb; replace HB := bs_ hb; (try clear hb); (try clear bn); (try clear hk); (try clear hi); (try clear aV); (try clear aW); (try simp only [errW_none, errW_some])) | ((with_reducible refine gate_dst (N := 8) rfl ?_); (try (refine gate_guard (by rfl) ?_; dsimp only)); refine bx_ 8 24 #[.int .i64 0, .int .i64 0, .slice none 0 0, .int .i64 0, .bool false, .bool false] ?_; intro a hg et hbox hb; replace d := rb' d hb; replace m := Z (ve m.out hg hb); replace q := Z (ve q.out hg hb); replace s := Z (ve s.out hg hb); replace U := Z (ve U.out hg hb); replace ao := Z (ve ao.out hg hb); replace ae := Z (ve ae.out hg hb); have ax := Z (hbox); have dN := Z (ln_ hg : w.heap.size ≤ a); have dJ := dN; replace HB := bs_ hb; have aJ := nl' b hg; have ba := ng' b hg; replace b := kb' b hb; have aL := nl' i hg; have bb := ng' i hg; replace i := kb' i hb; have aM := nl' l hg; have bc := ng' l hg; replace l := kb' l hb; clear hb hbox hg; have dX := ba.out; have d3 := aJ.out; have dY := bb.out; have d4 := aL.out; have dZ := bc.out; have d5 := aM.out; obtain ⟨cn, co, cp, cq, cr, ct, dm, dn, dp, dq, dr, ds⟩ := cells6 ax.out; obtain ⟨ap, aq, bL⟩ := Kd.V_slice ao.out; subst bL; obtain ⟨cu, cv, cw, cx, cy, cz, dt, du, dv, dw, dx, dy⟩ := cells6 i.out; obtain ⟨cA, cB, cC, cD, cE, cF, dz, dA, dB, dC, dD, dE⟩ := cells6 l.out; have bf : 0 ≤ (1 : Int) := (by omega); have bg : 1 < (j.length : Int) := od_; obtain ⟨aA, bB, G, I, J, K, L, O⟩ := at_T35 (Kd.V_reads' s.out).2.2 1 bf bg; cases bB; (try simp only [show (1 : Int).toNat = 1 from rfl, Nat.reduceMul, Nat.reduceEqDiff, Go.Addr.add, ↓reduceIte] at G); (try simp only [show (1 : Int).toNat = 1 from rfl, Nat.reduceMul, Nat.reduceEqDiff, Go.Addr.add, ↓reduceIte] at I); (try simp only [show (1 : Int).toNat = 1 from rfl, Nat.reduceMul, Nat.reduceEqDiff, Go.Addr.add, ↓reduceIte] at J); (try simp only [show (1 : Int).toNat = 1 from rfl, Nat.reduceMul, Nat.reduceEqDiff, Go.Addr.add, ↓reduceIte] at K); (try simp only [show (1 : Int).toNat = 1 from rfl, Nat.reduceMul, Nat.reduceEqDiff, Go.Addr.add, ↓reduceIte] at L); (try simp only [show (1 : Int).toNat = 1 from rfl, Nat.reduceMul, Nat.reduceEqDiff, Go.Addr.add, ↓reduceIte] at O); have dO : (1 < j.length) = True := eq_true (by omega); (try rw [show ((1 : Int)).toNat = 1 from rfl] at G); (try rw [show 1 * 6 = 6 from rfl] at G); (try rw [show ((1 : Int)).toNat = 1 from rfl] at I); (try rw [show 1 * 6 = 6 from rfl] at I); (try rw [show ((1 : Int)).toNat = 1 from rfl] at J); (try rw [show 1 * 6 = 6 from rfl] at J); (try rw [show ((1 : Int)).toNat = 1 from rfl] at K); (try rw [show 1 * 6 = 6 from rfl] at K); (try rw [show ((1 : Int)).toNat = 1 from rfl] at L); (try rw [show 1 * 6 = 6 from rfl] at L); (try rw [show ((1 : Int)).toNat = 1 from rfl] at O); (try rw [show 1 * 6 = 6 from rfl] at O); have u : aA.block ≠ a := V_ne_37 s.out (fun _ hk => by first | exact hk.2 | exact hk.1.2 | exact hk.1.1.2) (by omega) (by decide); have x : aA.block ≠ a := V_ne_37 s.out (fun _ hk => by first | exact hk.2 | exact hk.1.2 | exact hk.1.1.2) (by omega) (by decide); have y : aA.block ≠ a := V_ne_37 s.out (fun _ hk => by first | exact hk.2 | exact hk.1.2 | exact hk.1.1.2) (by omega) (by decide); have z : aA.block ≠ a := V_ne_37 s.out (fun _ hk => by first | exact hk.2 | exact hk.1.2 | exact hk.1.1.2) (by omega) (by decide); have A : aA.block ≠ a := V_ne_37 s.out (fun _ hk => by first | exact hk.2 | exact hk.1.2 | exact hk.1.1.2) (by omega) (by decide); have B : aA.block ≠ a := V_ne_37 s.out (fun _ hk => by first | exact hk.2 | exact hk.1.2 | exact hk.1.1.2) (by omega) (by decide); replace G := (cell_far (p := ⟨a, 0, none⟩) (by first | (rw [add_block]; exact u) | (show (Addr.add _ _).block ≠ _; rw [add_block]; exact u) | exact u) (.int .i64 af)).trans G; replace I := (cell_far (p := ⟨a, 0, none⟩) (by first | (rw [add_block]; exact u) | (show (Addr.add _ _).block ≠ _; rw [add_block]; exact u) | exact u) (.int .i64 af)).trans I; replace J := (cell_far (p := ⟨a, 0, none⟩) (by first | (rw [add_block]; exact u) | (show (Addr.add _ _).block ≠ _; rw [add_block]; exact u) | exact u) (.int .i64 af)).trans J; replace K := (cell_far (p := ⟨a, 0, none⟩) (by first | (rw [add_block]; exact u) | (show (Addr.add _ _).block ≠ _; rw [add_block]; exact u) | exact u) (.int .i64 af)).trans K; replace L := (cell_far (p := ⟨a, 0, none⟩) (by first | (rw [add_block]; exact u) | (show (Addr.add _ _).block ≠ _; rw [add_block]; exact u) | exact u) (.int .i64 af)).trans L; replace O := (cell_far (p := ⟨a, 0, none⟩) (by first | (rw [add_block]; exact u) | (show (Addr.add _ _).block ≠ _; rw [add_block]; exact u) | exact u) (.int .i64 af)).trans O; replace G := (cell_far (p := ⟨a, 1, none⟩) (by first | (rw [add_block]; exact x) | (show (Addr.add _ _).block ≠ _; rw [add_block]; exact x) | exact x) (.int .i64 ag)).trans G; replace I := (cell_far (p := ⟨a, 1, none⟩) (by first | (rw [add_block]; exact x) | (show (Addr.add _ _).block ≠ _; rw [add_block]; exact x) | exact x) (.int .i64 ag)).trans I; replace J := (cell_far (p := ⟨a, 1, none⟩) (by first | (rw [add_block]; exact x) | (show (Addr.add _ _).block ≠ _; rw [add_block]; exact x) | exact x) (.int .i64 ag)).trans J; replace K := (cell_far (p := ⟨a, 1, none⟩) (by first | (rw [add_block]; exact x) | (show (Addr.add _ _).block ≠ _; rw [add_block]; exact x) | exact x) (.int .i64 ag)).trans K; replace L := (cell_far (p := ⟨a, 1, none⟩) (by first | (rw [add_block]; exact x) | (show (Addr.add _ _).block ≠ _; rw [add_block]; exact x) | exact x) (.int .i64 ag)).trans L; replace O := (cell_far (p := ⟨a, 1, none⟩) (by first | (rw [add_block]; exact x) | (show (Addr.add _ _).block ≠ _; rw [add_block]; exact x) | exact x) (.int .i64 ag)).trans O; replace G := (cell_far (p := ⟨a, 2, none⟩) (by first | (rw [add_block]; exact y) | (show (Addr.add _ _).block ≠ _; rw [add_block]; exact y) | exact y) (.slice ap ah.length aq)).trans G; replace I := (cell_far (p := ⟨a, 2, none⟩) (by first | (rw [add_block]; exact y) | (show (Addr.add _ _).block ≠ _; rw [add_block]; exact y) | exact y) (.slice ap ah.length aq)).trans I; replace J := (cell_far (p := ⟨a, 2, none⟩) (by first | (rw [add_block]; exact y) | (show (Addr.add _ _).block ≠ _; rw [add_block]; exact y) | exact y) (.slice ap ah.length aq)).trans J; replace K := (cell_far (p := ⟨a, 2, none⟩) (by first | (rw [add_block]; exact y) | (show (Addr.add _ _).block ≠ _; rw [add_block]; exact y) | exact y) (.slice ap ah.length aq)).trans K; replace L := (cell_far (p := ⟨a, 2, none⟩) (by first | (rw [add_block]; exact y) | (show (Addr.add _ _).block ≠ _; rw [add_block]; exact y) | exact y) (.slice ap ah.length aq)).trans L; replace O := (cell_far (p := ⟨a, 2, none⟩) (by first | (rw [add_block]; exact y) | (show (Addr.add _ _).block ≠ _; rw [add_block]; exact y) | exact y) (.slice ap ah.length aq)).trans O; replace G := (cell_far (p := ⟨a, 3, none⟩) (by first | (rw [add_block]; exact z) | (show (Addr.add _ _).block ≠ _; rw [add_block]; exact z) | exact z) (.int .i64 ai)).trans G; replace I := (cell_far (p := ⟨a, 3, none⟩) (by first | (rw [add_block]; exact z) | (show (Addr.add _ _).block ≠ _; rw [add_block]; exact z) | exact z) (.int .i64 ai)).trans I; replace J := (cell_far (p := ⟨a, 3, none⟩) (by first | (rw [add_block]; exact z) | (show (Addr.add _ _).block ≠ _; rw [add_block]; exact z) | exact z) (.int .i64 ai)).trans J; replace K := (cell_far (p := ⟨a, 3, none⟩) (by first | (rw [add_block]; exact z) | (show (Addr.add _ _).block ≠ _; rw [add_block]; exact z) | exact z) (.int .i64 ai)).trans K; replace L := (cell_far (p := ⟨a, 3, none⟩) (by first | (rw [add_block]; exact z) | (show (Addr.add _ _).block ≠ _; rw [add_block]; exact z) | exact z) (.int .i64 ai)).trans L; replace O := (cell_far (p := ⟨a, 3, none⟩) (by first | (rw [add_block]; exact z) | (show (Addr.add _ _).block ≠ _; rw [add_block]; exact z) | exact z) (.int .i64 ai)).trans O; replace G := (cell_far (p := ⟨a, 4, none⟩) (by first | (rw [add_block]; exact A) | (show (Addr.add _ _).block ≠ _; rw [add_block]; exact A) | exact A) (.bool aj)).trans G; replace I := (cell_far (p := ⟨a, 4, none⟩) (by first | (rw [add_block]; exact A) | (show (Addr.add _ _).block ≠ _; rw [add_block]; exact A) | exact A) (.bool aj)).trans I; replace J := (cell_far (p := ⟨a, 4, none⟩) (by first | (rw [add_block]; exact A) | (show (Addr.add _ _).block ≠ _; rw [add_block]; exact A) | exact A) (.bool aj)).trans J; replace K := (cell_far (p := ⟨a, 4, none⟩) (by first | (rw [add_block]; exact A) | (show (Addr.add _ _).block ≠ _; rw [add_block]; exact A) | exact A) (.bool aj)).trans K; replace L := (cell_far (p := ⟨a, 4, none⟩) (by first | (rw [add_block]; exact A) | (show (Addr.add _ _).block ≠ _; rw [add_block]; exact A) | exact A) (.bool aj)).trans L; replace O := (cell_far (p := ⟨a, 4, none⟩) (by first | (rw [add_block]; exact A) | (show (Addr.add _ _).block ≠ _; rw [add_block]; exact A) | exact A) (.bool aj)).trans O; replace G := (cell_far (p := ⟨a, 5, none⟩) (by first | (rw [add_block]; exact B) | (show (Addr.add _ _).block ≠ _; rw [add_block]; exact B) | exact B) (.bool ak)).trans G; replace I := (cell_far (p := ⟨a, 5, none⟩) (by first | (rw [add_block]; exact B) | (show (Addr.add _ _).block ≠ _; rw [add_block]; exact B) | exact B) (.bool ak)).trans I; replace J := (cell_far (p := ⟨a, 5, none⟩) (by first | (rw [add_block]; exact B) | (show (Addr.add _ _).block ≠ _; rw [add_block]; exact B) | exact B) (.bool ak)).trans J; replace K := (cell_far (p := ⟨a, 5, none⟩) (by first | (rw [add_block]; exact B) | (show (Addr.add _ _).block ≠ _; rw [add_block]; exact B) | exact B) (.bool ak)).trans K; replace L := (cell_far (p := ⟨a, 5, none⟩) (by first | (rw [add_block]; exact B) | (show (Addr.add _ _).block ≠ _; rw [add_block]; exact B) | exact B) (.bool ak)).trans L; replace O := (cell_far (p := ⟨a, 5, none⟩) (by first | (rw [add_block]; exact B) | (show (Addr.add _ _).block ≠ _; rw [add_block]; exact B) | exact B) (.bool ak)).trans O; clear u; clear x; clear y; clear z; clear A; clear B; replace bf := eq_true bf; replace bg := eq_true bg; obtain ⟨bs, bl, bM⟩ := Kd.V_slice ae.out; subst bM) | (go_at_call 25; refine calls_of_args (args' := #[errW (.slice bs aa.length bl) ad]) (by first | rfl | rfl) ?_; (with_reducible refine (api_Code.calls ad _ _ aa F _ ?side1 ?side2 ?sideG bm.out).mono ?_); (case sideG => exact laidG_below HG.out bl_ rfl); (case side1 => refine (Kd.V_reads' (e := 164) (base := w.heap.size) (ok := fun k_ => ((k_ ≠ C ∧ (k_ ≠ E ∧ k_ ≠ X)) ∧ k_ ≠ a)) (n := aa.length) (c := bl) ?_).2.2; exact (by (with_reducible repeat apply pV); exact (Kd.V_mono (f6V a (Kd.V_mono ae.out (fun k_ hk => (⟨hk, hk.2⟩ : _ ∧ k_ ≠ a))) (fun _ hk => hk.2)) (fun _ h_ => h_.1)))); (case side2 => exact (Kd.V_reads' ae.out).2.1); rintro e eu ⟨rfl, hb⟩; replace d := Z (Kd.R_below (by (with_reducible repeat apply pR); exact (Kd.R_mono (f6R a (Kd.R_types d.out ax.out (by decide)) (fun _ hk => hk.2)) (fun _ h_ => h_.1))) hb); replace m := Z (Kd.V_below (by (with_reducible repeat apply pV); exact (Kd.V_mono (f6V a (Kd.V_mono m.out (fun k_ hk => (⟨hk, hk.2⟩ : _ ∧ k_ ≠ a))) (fun _ hk => hk.2)) (fun _ h_ => h_.1))) hb); replace q := Z (Kd.V_below (by (with_reducible repeat apply pV); exact (Kd.V_mono (f6V a (Kd.V_mono q.out (fun k_ hk => (⟨hk, hk.2⟩ : _ ∧ k_ ≠ a))) (fun _ hk => hk.2)) (fun _ h_ => h_.1))) hb); replace s := Z (Kd.V_below (by (with_reducible repeat apply pV); exact (Kd.V_mono (f6V a (Kd.V_mono s.out (fun k_ hk => (⟨hk, hk.2⟩ : _ ∧ k_ ≠ a))) (fun _ hk => hk.2)) (fun _ h_ => h_.1))) hb); replace U := Z (Kd.V_below (by (with_reducible repeat apply pV); exact (Kd.V_mono (f6V a (Kd.V_mono U.out (fun k_ hk => (⟨hk, hk.2⟩ : _ ∧ k_ ≠ a))) (fun _ hk => hk.2)) (fun _ h_ => h_.1))) hb); replace ao := Z (Kd.V_below (by (with_reducible repeat apply pV); exact (Kd.V_mono (f6V a (Kd.V_mono ao.out (fun k_ hk => (⟨hk, hk.2⟩ : _ ∧ k_ ≠ a))) (fun _ hk => hk.2)) (fun _ h_ => h_.1))) hb); replace ae := Z (Kd.V_below (by (with_reducible repeat apply pV); exact (Kd.V_mono (f6V a (Kd.V_mono ae.out (fun k_ hk => (⟨hk, hk.2⟩ : _ ∧ k_ ≠ a))) (fun _ hk => hk.2)) (fun _ h_ => h_.1))) hb); replace b := Z (blk_below (g := C) (o := .cells #[.int .i64 1, .int .i64 2, .slice au D.length av, .int .i64 1, .bool false, .bool false] 24 (0, 0)) (blk_off b.out aJ.out off2_) hb); replace i := Z (blk_below (g := E) (o := .cells #[.int .i64 aN, .int .i64 aO, .slice aT az.length aU, .int .i64 aP, .bool true, .bool aQ] 24 (0, 0)) (blk_off i.out aL.out off2_) hb); replace l := Z (blk_below (g := X) (o := .cells #[.int .i64 aY, .int .i64 aZ, .slice (some aA) j.length be, .int .i64 a0, .bool a1, .bool a2] 24 (0, 0)) (blk_off l.out aM.out off2_) hb); replace ax := Z (blk_below (g := a) (o := .cells #[.int .i64 af, .int .i64 ag, .slice ap ah.length aq, .int .i64 ai, .bool aj, .bool ak] 24 (0, 0)) (put6 ax.out) hb); replace HB := bs_ hb; (try clear hb); (try clear bn); (try clear hk); (try clear hi)) | (go_at_call 63; refine calls_of_args (args' := #[errW (.slice bs aa.length bl) ad]) (by first | rfl | rfl) ?_; (with_reducible refine (keys_Refused.calls ad _ _ aa P _ ?side1 ?side2 dF.out).mono ?_); (case side1 => repeat (first | exact (Kd.V_reads' ae.out).2.2 | (with_reducible apply pC))); (case side2 => exact (Kd.V_reads' ae.out).2.1); rintro e ev ⟨rfl, hb⟩; replace d := rb' d hb; replace m := vb' m hb; replace q := vb' q hb; replace s := vb' s hb; replace U := vb' U hb; replace ao := vb' ao hb; replace ae := vb' ae hb; replace b := kb' b hb; replace i := kb' i hb; replace l := kb' l hb; replace ax := kb' ax hb; replace HB := bs_ hb; (try clear hb); (try clear bn); (try clear hk); (try clear hi)))
          go_ret
          exact ⟨er_, bl_⟩
         ·rw [if_neg bj] at H
          exact absurd H (by simp)
        ·rw [if_neg c9] at H
         exact absurd H (by simp)
       ·rw [if_neg c8] at H
        exact absurd H (by simp)
      ·rw [if_neg c7] at H
       exact absurd H (by simp)
    ·have H1 : (none) = some r := by rw [if_neg (show ¬ (some bD).isNone = true by simp)] at H; exact H
     clear H
     have H := H1
     clear H1
     try simp only [errW_none, errW_some]
     exact absurd H (by simp)
   ·replace c5 := Bool.eq_false_iff.mpr c5
    subst c5
    have H1 : (none) = some r := by rw [if_neg (show ¬ (false = true) by decide)] at H; exact H
    clear H
    have H := H1
    clear H1
    exact absurd H (by simp)
  ·replace c4 := Bool.eq_false_iff.mpr c4
   subst c4
   have H1 : (none) = some r := by rw [if_neg (show ¬ (false = true) by decide)] at H; exact H
   clear H
   have H := H1
   clear H1
   exact absurd H (by simp)
 ·have H1 : (none) = some r := by rw [if_neg (show ¬ (some bC).isNone = true by simp)] at H; exact H
  clear H
  have H := H1
  clear H1
  try simp only [errW_none, errW_some]
  exact absurd H (by simp)
end Go.Proofs.YtggecanpjkpkiaaDoor.P
