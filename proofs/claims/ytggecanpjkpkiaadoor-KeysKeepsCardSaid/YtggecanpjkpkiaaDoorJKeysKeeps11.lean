/- Printed walks of the law's functions, joined by joinpx.py: each function as a plain Lean function, and that Go's code comes to its answer. -/
import Derived.Test.YtggecanpjkpkiaaDoorJKeysKeeps1
import Derived.Test.YtggecanpjkpkiaaDoorJKeysKeeps8
import Derived.Test.YtggecanpjkpkiaaDoorJKeysKeeps7
import Derived.Test.YtggecanpjkpkiaaDoorPx33
import Derived.Test.YtggecanpjkpkiaaDoorJKeysKeeps9
import Derived.Test.YtggecanpjkpkiaaDoorJKeysKeeps5
import Derived.Test.YtggecanpjkpkiaaDoorJKeysKeeps10
import Derived.Test.YtggecanpjkpkiaaDoorPx3
import Derived.Test.YtggecanpjkpkiaaDoorJKeysKeeps3
import Derived.Test.YtggecanpjkpkiaaDoorJKeysKeeps6
namespace Go.Proofs.YtggecanpjkpkiaaDoor.P
open Go.RowKit Go.Proofs.YtggecanpjkpkiaaDoorW.PrintWords Go.Proofs.YtggecanpjkpkiaaDoorW.PrintLast Go.Proofs.YtggecanpjkpkiaaDoorW.PrintMore
attribute [local go_sem] max2_int min2_int max_two min_two max_three min_three max_four min_four
attribute [local go_sem] Instr.field asAgg
set_option linter.unusedVariables false
set_option linter.unusedSimpArgs false
set_option maxHeartbeats 8000000
set_option maxRecDepth 100000
theorem keys_plain.callsN (k : Nat) (u : Int) (x : Int) (T : Nat → Prop) (L : Option Addr) (P : Nat) (j : List (S35)) (y : Int) (z : Bool) (A : Bool) (g : Int) (O : Int) (r1 : Int) (r2 : Int) (r3 : List (S35)) (r4 : Int) (r5 : Bool) (r6 : Bool) (r8 : List (S164)) (w : World) (eQ : Kd.V k35 35 w w.heap.size (fun k_ => T k_) (.slice L j.length P) j) (h : keys_plain.f k u x j y z A g O = some (r1, r2, r3, r4, r5, r6, (none : Option Er), r8)) :
  Calls Tryd.prog 65 #[.agg #[.int .i64 u, .int .i64 x, .slice L j.length P, .int .i64 y, .bool z, .bool A], .agg #[.int .i64 g, .int .u8 O]] w fun e w' => ∃ eP e1 : Value, e = .returned (.tuple #[.agg #[.int .i64 r1, .int .i64 r2, eP, .int .i64 r4, .bool r5, .bool r6], errW e1 (none : Option Er)]) ∧ Kd.R k35 35 w' w.heap.size (fun k_ => (w.heap.size ≤ k_)) eP r3 ∧ Kd.V k164 164 w' w.heap.size (fun k_ => (T k_ ∨ w.heap.size ≤ k_) ∧ some k_ ≠ (eP : Value).ownBlock) e1 r8 ∧ Below w.heap.size w w' := by
 have gD := Tryd.underlying24
 have gG := Tryd.underlying58
 have gE := Tryd.underlying28
 have gF := Tryd.underlying52
 have d := Z (show Kd.V k35 35 w w.heap.size (fun k_ => (T k_ ∨ w.heap.size ≤ k_)) (.slice L j.length P) j from Kd.V_mono eQ (fun k_ hk => .inl hk))
 have HB := Z (Below.refl w.heap.size w)
 have H : ((move_Moves.f g).bind fun bi => (if bi = true then ((move_Do.f k u x j y z A g).bind fun F => (some (F.1, F.2.1, F.2.2.1, F.2.2.2.1, F.2.2.2.2.1, F.2.2.2.2.2.1, F.2.2.2.2.2.2.1, F.2.2.2.2.2.2.2))) else ((wipe_Wipes.f g).bind fun an => (if an = true then ((wipe_Do.f k u x j y z A g).bind fun B => (some (B.1, B.2.1, B.2.2.1, B.2.2.2.1, B.2.2.2.2.1, B.2.2.2.2.2.1, B.2.2.2.2.2.2.1, B.2.2.2.2.2.2.2))) else (if g = 11 then ((edit_Type.f k u x j y z A 30).bind fun C => (some (C.1, C.2.1, C.2.2.1, C.2.2.2.1, C.2.2.2.2.1, C.2.2.2.2.2.1, C.2.2.2.2.2.2.1, C.2.2.2.2.2.2.2))) else (if g = 1 then ((edit_Type.f k u x j y z A O).bind fun D => (some (D.1, D.2.1, D.2.2.1, D.2.2.2.1, D.2.2.2.2.1, D.2.2.2.2.2.1, D.2.2.2.2.2.2.1, D.2.2.2.2.2.2.2))) else (if g = 10 then ((keys_dup.f k u x j y z A).bind fun E => (some (E.1, E.2.1, E.2.2.1, E.2.2.2.1, E.2.2.2.2.1, E.2.2.2.2.2.1, E.2.2.2.2.2.2.1, E.2.2.2.2.2.2.2))) else (if g = 15 then (keys_plain.j0 k (g == 15) u x j y z A g O) else (keys_plain.j0 k (g == 16) u x j y z A g O))))))))) = some (r1, r2, r3, r4, r5, r6, (none : Option Er), r8) := h
 clear h
 replace H := Option.bind_eq_some_iff.mp H
 obtain ⟨bi, eX, H⟩ := H
 replace H : (if bi = true then ((move_Do.f k u x j y z A g).bind fun F => (some (F.1, F.2.1, F.2.2.1, F.2.2.2.1, F.2.2.2.2.1, F.2.2.2.2.2.1, F.2.2.2.2.2.2.1, F.2.2.2.2.2.2.2))) else ((wipe_Wipes.f g).bind fun an => (if an = true then ((wipe_Do.f k u x j y z A g).bind fun B => (some (B.1, B.2.1, B.2.2.1, B.2.2.2.1, B.2.2.2.2.1, B.2.2.2.2.2.1, B.2.2.2.2.2.2.1, B.2.2.2.2.2.2.2))) else (if g = 11 then ((edit_Type.f k u x j y z A 30).bind fun C => (some (C.1, C.2.1, C.2.2.1, C.2.2.2.1, C.2.2.2.2.1, C.2.2.2.2.2.1, C.2.2.2.2.2.2.1, C.2.2.2.2.2.2.2))) else (if g = 1 then ((edit_Type.f k u x j y z A O).bind fun D => (some (D.1, D.2.1, D.2.2.1, D.2.2.2.1, D.2.2.2.2.1, D.2.2.2.2.2.1, D.2.2.2.2.2.2.1, D.2.2.2.2.2.2.2))) else (if g = 10 then ((keys_dup.f k u x j y z A).bind fun E => (some (E.1, E.2.1, E.2.2.1, E.2.2.2.1, E.2.2.2.2.1, E.2.2.2.2.2.1, E.2.2.2.2.2.2.1, E.2.2.2.2.2.2.2))) else (if g = 15 then (keys_plain.j0 k (g == 15) u x j y z A g O) else (keys_plain.j0 k (g == 16) u x j y z A g O)))))))) = some (r1, r2, r3, r4, r5, r6, (none : Option Er), r8) := H
 have A3 := Z eX
 clear eX
 by_cases c4 : bi = true
 ·subst c4
  have H1 : ((move_Do.f k u x j y z A g).bind fun F => (some (F.1, F.2.1, F.2.2.1, F.2.2.2.1, F.2.2.2.2.1, F.2.2.2.2.2.1, F.2.2.2.2.2.2.1, F.2.2.2.2.2.2.2))) = some (r1, r2, r3, r4, r5, r6, (none : Option Er), r8) := by rw [if_pos rfl] at H; exact H
  clear H
  have H := H1
  clear H1
  replace H := Option.bind_eq_some_iff.mp H
  obtain ⟨⟨aD, aE, aF, aG, aH, aI, bR, bS⟩, bI, H⟩ := H
  replace H : (some (aD, aE, aF, aG, aH, aI, bR, bS)) = some (r1, r2, r3, r4, r5, r6, (none : Option Er), r8) := H
  have A5 := Z bI
  clear bI
  rcases bR with _ | q6
  ·try simp only [errW_none, errW_some]
   simp only [Option.some.injEq, Prod.mk.injEq] at H
   (first | obtain ⟨rfl, rfl, rfl, rfl, rfl, rfl, _, rfl⟩ := H | obtain ⟨rfl, rfl, rfl, rfl, rfl, rfl, rfl⟩ := H)
   go_enter Tryd.func65, Tryd.ntmps65
   go_wp2_with (first | ((with_reducible refine gate_dst (N := 2) rfl ?_); refine bx_ 2 24 #[.int .i64 u, .int .i64 x, .slice L j.length P, .int .i64 y, .bool z, .bool A] ?_; intro m hg w7 hbox hb; replace d := Z (ve d.out hg hb); have b := Z (hbox); have az := Z (ln_ hg : w.heap.size ≤ m); have aw := az; replace HB := bs_ hb; clear hb hbox hg) | ((with_reducible refine gate_dst (N := 3) rfl ?_); refine bx_ 3 58 #[.int .i64 g, .int .u8 O] ?_; intro l hg w8 hbox hb; replace d := Z (ve d.out hg hb); have c := Z (hbox); have aA := Z (ln_ hg : w.heap.size ≤ l); have ax := aA; replace HB := bs_ hb; have J := nl' b hg; have Q := ng' b hg; replace b := kb' b hb; clear hb hbox hg) | ((with_reducible refine gate_dst (N := 4) rfl ?_); refine bx_ 4 24 #[.int .i64 0, .int .i64 0, .slice none 0 0, .int .i64 0, .bool false, .bool false] ?_; intro a hg w9 hbox hb; replace d := Z (ve d.out hg hb); have i := Z (hbox); have aB := Z (ln_ hg : w.heap.size ≤ a); have ay := aB; replace HB := bs_ hb; have U := nl' b hg; have W := ng' b hg; replace b := kb' b hb; have S := nl' c hg; have K := ng' c hg; replace c := kb' c hb; clear hb hbox hg; have fH := Q.out; have gb := J.out; have fI := S.out; have gc := K.out; obtain ⟨b4, b5, dq, dr⟩ := cells2 c.out) | ((with_reducible refine gate_callee (f := 85) rfl ?_); refine goesL_ (some 9) rfl rfl Tryd.func85 (by kernel_rfl) rfl #[.int .i64 g] rfl ag_ ?_; (with_reducible refine (move_Moves.calls g true _ A3.out).mono ?_); rintro e w' ⟨rfl, ⟨nd, rfl⟩⟩; refine ⟨_, rfl, ?_⟩; (try (rw [drewN_self w9]; generalize hq_ : World.drewN w9 _ = w9; replace d := Z (qV hq_ d.out); replace b := Z (qM hq_ b.out); replace c := Z (qM hq_ c.out); replace i := Z (qM hq_ i.out); replace HB := Z (qB hq_ HB.out); clear hq_)); (try obtain ⟨Y, aa, ab, ac⟩ := cells2 c.out); have fJ := U.out; have gd := W.out; obtain ⟨b6, b7, b8, b9, ca, cb, ds, dt, du, dv, dw, dx⟩ := cells6 b.out) | ((with_reducible refine gate_callee (f := 86) rfl ?_); refine goesL_ (some 13) rfl rfl Tryd.func86 (by kernel_rfl) rfl #[.agg #[.int .i64 u, .int .i64 x, .slice L j.length P, .int .i64 y, .bool z, .bool A], .int .i64 g] rfl ag_ ?_; (with_reducible refine (move_Do.callsN k u x (fun k_ => ((((T k_ ∨ w.heap.size ≤ k_) ∧ k_ ≠ m) ∧ k_ ≠ l) ∧ k_ ≠ a)) _ _ j y z A g aD aE aF aG aH aI bS _ ?side1 A5.out).mono ?_); (case side1 => exact d.out); rintro e g1 ⟨eR, gv, rfl, ad, ag, hb⟩; refine ⟨_, rfl, ?_⟩; replace d := Z (Kd.V_elder' (vV d.out) (Kd.R_base ad) hb); have bk := Z (Kd.R_lower (Kd.R_newM (M := fun k_ => (w.heap.size ≤ k_)) (Kd.R_mono (ok' := fun k_ => True) ad (fun _ hk_ => trivial)) (below_size bl_) (fun k_ h_ => h_)) (below_size bl_)); have eI := Z (Kd.V_lower (Kd.V_mono (ok' := fun k_ => (T k_ ∨ w.heap.size ≤ k_) ∧ some k_ ≠ (eR : Value).ownBlock ∧ k_ ≠ m ∧ k_ ≠ l ∧ k_ ≠ a) ag (fun k_ hk_ => ⟨Or.elim hk_.1 (fun hs_ => hs_.1.1.1) (fun hn_ => (ir_ hn_)), hk_.2, Or.elim hk_.1 (fun hs_ => hs_.1.1.2) (fun hn_ => (fb b.out k_ hn_)), Or.elim hk_.1 (fun hs_ => hs_.1.2) (fun hn_ => (fb c.out k_ hn_)), Or.elim hk_.1 (fun hs_ => hs_.2) (fun hn_ => (fb i.out k_ hn_))⟩)) (below_size bl_)); replace b := kb' b hb; replace c := kb' c hb; replace i := kb' i hb; replace HB := bs_ hb; clear hb ad ag; (try simp only [errW_none, errW_some]); obtain ⟨cc, cd, ce, cf, cg, ch, dy, dz, dA, dB, dC, dD⟩ := cells6 i.out; obtain ⟨bu, bC, e2⟩ := Kd.R_slice bk.out; subst e2))
   refine bodyPost_ret (results_ct rfl _ _ a 24 #[.int .i64 aD, .int .i64 aE, .slice bu aF.length bC, .int .i64 aG, .bool aH, .bool aI] (0, 0) _ rfl (put6 i.out) Tryd.underlying24 rfl (by kernel_rfl)) rfl ?_
   exact ⟨_, _, er_, by (with_reducible repeat apply pR); exact Kd.R_mono (f6R a (Kd.R_types bk.out i.out (by decide)) (fun _ hk => hk.2)) (fun _ hk => hk.1.1), by (with_reducible repeat apply pV); exact Kd.V_mono (f6V a (Kd.V_mono eI.out (fun k_ hk => (⟨hk, hk.2.2.2.2⟩ : _ ∧ k_ ≠ a))) (fun _ hk => hk.2)) (fun _ hk => ⟨hk.1.1, hk.1.2.1⟩), bl_⟩
  ·exact absurd H (by simp)
 ·replace c4 := Bool.eq_false_iff.mpr c4
  subst c4
  have H1 : ((wipe_Wipes.f g).bind fun an => (if an = true then ((wipe_Do.f k u x j y z A g).bind fun B => (some (B.1, B.2.1, B.2.2.1, B.2.2.2.1, B.2.2.2.2.1, B.2.2.2.2.2.1, B.2.2.2.2.2.2.1, B.2.2.2.2.2.2.2))) else (if g = 11 then ((edit_Type.f k u x j y z A 30).bind fun C => (some (C.1, C.2.1, C.2.2.1, C.2.2.2.1, C.2.2.2.2.1, C.2.2.2.2.2.1, C.2.2.2.2.2.2.1, C.2.2.2.2.2.2.2))) else (if g = 1 then ((edit_Type.f k u x j y z A O).bind fun D => (some (D.1, D.2.1, D.2.2.1, D.2.2.2.1, D.2.2.2.2.1, D.2.2.2.2.2.1, D.2.2.2.2.2.2.1, D.2.2.2.2.2.2.2))) else (if g = 10 then ((keys_dup.f k u x j y z A).bind fun E => (some (E.1, E.2.1, E.2.2.1, E.2.2.2.1, E.2.2.2.2.1, E.2.2.2.2.2.1, E.2.2.2.2.2.2.1, E.2.2.2.2.2.2.2))) else (if g = 15 then (keys_plain.j0 k (g == 15) u x j y z A g O) else (keys_plain.j0 k (g == 16) u x j y z A g O))))))) = some (r1, r2, r3, r4, r5, r6, (none : Option Er), r8) := by rw [if_neg (show ¬ (false = true) by decide)] at H; exact H
  clear H
  have H := H1
  clear H1
  replace H := Option.bind_eq_some_iff.mp H
  obtain ⟨an, eC, H⟩ := H
  replace H : (if an = true then ((wipe_Do.f k u x j y z A g).bind fun B => (some (B.1, B.2.1, B.2.2.1, B.2.2.2.1, B.2.2.2.2.1, B.2.2.2.2.2.1, B.2.2.2.2.2.2.1, B.2.2.2.2.2.2.2))) else (if g = 11 then ((edit_Type.f k u x j y z A 30).bind fun C => (some (C.1, C.2.1, C.2.2.1, C.2.2.2.1, C.2.2.2.2.1, C.2.2.2.2.2.1, C.2.2.2.2.2.2.1, C.2.2.2.2.2.2.2))) else (if g = 1 then ((edit_Type.f k u x j y z A O).bind fun D => (some (D.1, D.2.1, D.2.2.1, D.2.2.2.1, D.2.2.2.2.1, D.2.2.2.2.2.1, D.2.2.2.2.2.2.1, D.2.2.2.2.2.2.2))) else (if g = 10 then ((keys_dup.f k u x j y z A).bind fun E => (some (E.1, E.2.1, E.2.2.1, E.2.2.2.1, E.2.2.2.2.1, E.2.2.2.2.2.1, E.2.2.2.2.2.2.1, E.2.2.2.2.2.2.2))) else (if g = 15 then (keys_plain.j0 k (g == 15) u x j y z A g O) else (keys_plain.j0 k (g == 16) u x j y z A g O)))))) = some (r1, r2, r3, r4, r5, r6, (none : Option Er), r8) := H
  have bj := Z eC
  clear eC
  by_cases bq : an = true
  ·subst bq
   have H1 : ((wipe_Do.f k u x j y z A g).bind fun B => (some (B.1, B.2.1, B.2.2.1, B.2.2.2.1, B.2.2.2.2.1, B.2.2.2.2.2.1, B.2.2.2.2.2.2.1, B.2.2.2.2.2.2.2))) = some (r1, r2, r3, r4, r5, r6, (none : Option Er), r8) := by rw [if_pos rfl] at H; exact H
   clear H
   have H := H1
   clear H1
   replace H := Option.bind_eq_some_iff.mp H
   obtain ⟨⟨aJ, aK, aL, aM, aN, aO, bT, bU⟩, eD, H⟩ := H
   replace H : (some (aJ, aK, aL, aM, aN, aO, bT, bU)) = some (r1, r2, r3, r4, r5, r6, (none : Option Er), r8) := H
   have fB := Z eD
   clear eD
   rcases bT with _ | eY
   ·try simp only [errW_none, errW_some]
    simp only [Option.some.injEq, Prod.mk.injEq] at H
    (first | obtain ⟨rfl, rfl, rfl, rfl, rfl, rfl, _, rfl⟩ := H | obtain ⟨rfl, rfl, rfl, rfl, rfl, rfl, rfl⟩ := H)
    go_enter Tryd.func65, Tryd.ntmps65
    go_wp2_with (first | ((with_reducible refine gate_dst (N := 2) rfl ?_); refine bx_ 2 24 #[.int .i64 u, .int .i64 x, .slice L j.length P, .int .i64 y, .bool z, .bool A] ?_; intro m hg g2 hbox hb; replace d := Z (ve d.out hg hb); have b := Z (hbox); have az := Z (ln_ hg : w.heap.size ≤ m); have aw := az; replace HB := bs_ hb; clear hb hbox hg) | ((with_reducible refine gate_dst (N := 3) rfl ?_); refine bx_ 3 58 #[.int .i64 g, .int .u8 O] ?_; intro l hg g3 hbox hb; replace d := Z (ve d.out hg hb); have c := Z (hbox); have aA := Z (ln_ hg : w.heap.size ≤ l); have ax := aA; replace HB := bs_ hb; have J := nl' b hg; have Q := ng' b hg; replace b := kb' b hb; clear hb hbox hg) | ((with_reducible refine gate_dst (N := 4) rfl ?_); refine bx_ 4 24 #[.int .i64 0, .int .i64 0, .slice none 0 0, .int .i64 0, .bool false, .bool false] ?_; intro a hg ak hbox hb; replace d := Z (ve d.out hg hb); have i := Z (hbox); have aB := Z (ln_ hg : w.heap.size ≤ a); have ay := aB; replace HB := bs_ hb; have U := nl' b hg; have W := ng' b hg; replace b := kb' b hb; have S := nl' c hg; have K := ng' c hg; replace c := kb' c hb; clear hb hbox hg; have fK := Q.out; have ge := J.out; have fL := S.out; have gf := K.out; obtain ⟨ci, cj, dE, dF⟩ := cells2 c.out) | ((with_reducible refine gate_callee (f := 85) rfl ?_); refine goesL_ (some 9) rfl rfl Tryd.func85 (by kernel_rfl) rfl #[.int .i64 g] rfl ag_ ?_; (with_reducible refine (move_Moves.calls g false _ A3.out).mono ?_); rintro e w' ⟨rfl, ⟨nd, rfl⟩⟩; refine ⟨_, rfl, ?_⟩; (try (rw [drewN_self ak]; generalize hq_ : World.drewN ak _ = ak; replace d := Z (qV hq_ d.out); replace b := Z (qM hq_ b.out); replace c := Z (qM hq_ c.out); replace i := Z (qM hq_ i.out); replace HB := Z (qB hq_ HB.out); clear hq_)); (try obtain ⟨Y, aa, ab, ac⟩ := cells2 c.out)) | ((with_reducible refine gate_callee (f := 29) rfl ?_); refine goesL_ (some 19) rfl rfl Tryd.func29 (by kernel_rfl) rfl #[.int .i64 g] rfl ag_ ?_; (with_reducible refine (wipe_Wipes.calls g true _ bj.out).mono ?_); rintro e w' ⟨rfl, ⟨nd, rfl⟩⟩; refine ⟨_, rfl, ?_⟩; (try (rw [drewN_self ak]; generalize hq_ : World.drewN ak _ = ak; replace d := Z (qV hq_ d.out); replace b := Z (qM hq_ b.out); replace c := Z (qM hq_ c.out); replace i := Z (qM hq_ i.out); replace HB := Z (qB hq_ HB.out); clear hq_)); (try obtain ⟨Y, aa, ab, ac⟩ := cells2 c.out); have fM := U.out; have gg := W.out; obtain ⟨ck, cl, cm, cn, co, cp, dG, dH, dI, dJ, dK, dL⟩ := cells6 b.out) | ((with_reducible refine gate_callee (f := 19) rfl ?_); refine goesL_ (some 23) rfl rfl Tryd.func19 (by kernel_rfl) rfl #[.agg #[.int .i64 u, .int .i64 x, .slice L j.length P, .int .i64 y, .bool z, .bool A], .int .i64 g] rfl ag_ ?_; (with_reducible refine (wipe_Do.callsN k u x (fun k_ => ((((T k_ ∨ w.heap.size ≤ k_) ∧ k_ ≠ m) ∧ k_ ≠ l) ∧ k_ ≠ a)) _ _ j y z A g aJ aK aL aM aN aO bU _ ?side1 fB.out).mono ?_); (case side1 => exact d.out); rintro e g4 ⟨eS, gw, rfl, ad, ag, hb⟩; refine ⟨_, rfl, ?_⟩; replace d := Z (Kd.V_elder' (vV d.out) (Kd.R_base ad) hb); have bl := Z (Kd.R_lower (Kd.R_newM (M := fun k_ => (w.heap.size ≤ k_)) (Kd.R_mono (ok' := fun k_ => True) ad (fun _ hk_ => trivial)) (below_size bl_) (fun k_ h_ => h_)) (below_size bl_)); have eJ := Z (Kd.V_lower (Kd.V_mono (ok' := fun k_ => (T k_ ∨ w.heap.size ≤ k_) ∧ some k_ ≠ (eS : Value).ownBlock ∧ k_ ≠ m ∧ k_ ≠ l ∧ k_ ≠ a) ag (fun k_ hk_ => ⟨Or.elim hk_.1 (fun hs_ => hs_.1.1.1) (fun hn_ => (ir_ hn_)), hk_.2, Or.elim hk_.1 (fun hs_ => hs_.1.1.2) (fun hn_ => (fb b.out k_ hn_)), Or.elim hk_.1 (fun hs_ => hs_.1.2) (fun hn_ => (fb c.out k_ hn_)), Or.elim hk_.1 (fun hs_ => hs_.2) (fun hn_ => (fb i.out k_ hn_))⟩)) (below_size bl_)); replace b := kb' b hb; replace c := kb' c hb; replace i := kb' i hb; replace HB := bs_ hb; clear hb ad ag; (try simp only [errW_none, errW_some]); obtain ⟨cq, cr, ct, cu, cv, cw, dM, dN, dO, dP, dQ, dR⟩ := cells6 i.out; obtain ⟨bv, bD, e3⟩ := Kd.R_slice bl.out; subst e3))
    refine bodyPost_ret (results_ct rfl _ _ a 24 #[.int .i64 aJ, .int .i64 aK, .slice bv aL.length bD, .int .i64 aM, .bool aN, .bool aO] (0, 0) _ rfl (put6 i.out) Tryd.underlying24 rfl (by kernel_rfl)) rfl ?_
    exact ⟨_, _, er_, by (with_reducible repeat apply pR); exact Kd.R_mono (f6R a (Kd.R_types bl.out i.out (by decide)) (fun _ hk => hk.2)) (fun _ hk => hk.1.1), by (with_reducible repeat apply pV); exact Kd.V_mono (f6V a (Kd.V_mono eJ.out (fun k_ hk => (⟨hk, hk.2.2.2.2⟩ : _ ∧ k_ ≠ a))) (fun _ hk => hk.2)) (fun _ hk => ⟨hk.1.1, hk.1.2.1⟩), bl_⟩
   ·exact absurd H (by simp)
  ·replace bq := Bool.eq_false_iff.mpr bq
   subst bq
   have H1 : (if g = 11 then ((edit_Type.f k u x j y z A 30).bind fun C => (some (C.1, C.2.1, C.2.2.1, C.2.2.2.1, C.2.2.2.2.1, C.2.2.2.2.2.1, C.2.2.2.2.2.2.1, C.2.2.2.2.2.2.2))) else (if g = 1 then ((edit_Type.f k u x j y z A O).bind fun D => (some (D.1, D.2.1, D.2.2.1, D.2.2.2.1, D.2.2.2.2.1, D.2.2.2.2.2.1, D.2.2.2.2.2.2.1, D.2.2.2.2.2.2.2))) else (if g = 10 then ((keys_dup.f k u x j y z A).bind fun E => (some (E.1, E.2.1, E.2.2.1, E.2.2.2.1, E.2.2.2.2.1, E.2.2.2.2.2.1, E.2.2.2.2.2.2.1, E.2.2.2.2.2.2.2))) else (if g = 15 then (keys_plain.j0 k (g == 15) u x j y z A g O) else (keys_plain.j0 k (g == 16) u x j y z A g O))))) = some (r1, r2, r3, r4, r5, r6, (none : Option Er), r8) := by rw [if_neg (show ¬ (false = true) by decide)] at H; exact H
   clear H
   have H := H1
   clear H1
   by_cases be : g = 11
   ·rw [if_pos be] at H
    obtain ⟨bJ, bK⟩ := eT_ be
    clear be
    replace H := Option.bind_eq_some_iff.mp H
    obtain ⟨⟨aP, aQ, aR, aS, aT, aU, bV, bW⟩, eE, H⟩ := H
    replace H : (some (aP, aQ, aR, aS, aT, aU, bV, bW)) = some (r1, r2, r3, r4, r5, r6, (none : Option Er), r8) := H
    have fC := Z eE
    clear eE
    rcases bV with _ | q35
    ·try simp only [errW_none, errW_some]
     simp only [Option.some.injEq, Prod.mk.injEq] at H
     (first | obtain ⟨rfl, rfl, rfl, rfl, rfl, rfl, _, rfl⟩ := H | obtain ⟨rfl, rfl, rfl, rfl, rfl, rfl, rfl⟩ := H)
     go_enter Tryd.func65, Tryd.ntmps65
     go_wp2_with (first | ((with_reducible refine gate_dst (N := 2) rfl ?_); refine bx_ 2 24 #[.int .i64 u, .int .i64 x, .slice L j.length P, .int .i64 y, .bool z, .bool A] ?_; intro m hg g5 hbox hb; replace d := Z (ve d.out hg hb); have b := Z (hbox); have az := Z (ln_ hg : w.heap.size ≤ m); have aw := az; replace HB := bs_ hb; clear hb hbox hg) | ((with_reducible refine gate_dst (N := 3) rfl ?_); refine bx_ 3 58 #[.int .i64 g, .int .u8 O] ?_; intro l hg g6 hbox hb; replace d := Z (ve d.out hg hb); have c := Z (hbox); have aA := Z (ln_ hg : w.heap.size ≤ l); have ax := aA; replace HB := bs_ hb; have J := nl' b hg; have Q := ng' b hg; replace b := kb' b hb; clear hb hbox hg) | ((with_reducible refine gate_dst (N := 4) rfl ?_); refine bx_ 4 24 #[.int .i64 0, .int .i64 0, .slice none 0 0, .int .i64 0, .bool false, .bool false] ?_; intro a hg aj hbox hb; replace d := Z (ve d.out hg hb); have i := Z (hbox); have aB := Z (ln_ hg : w.heap.size ≤ a); have ay := aB; replace HB := bs_ hb; have U := nl' b hg; have W := ng' b hg; replace b := kb' b hb; have S := nl' c hg; have K := ng' c hg; replace c := kb' c hb; clear hb hbox hg; have fN := Q.out; have gh := J.out; have fO := S.out; have gi := K.out; obtain ⟨cx, cy, dS, dT⟩ := cells2 c.out) | ((with_reducible refine gate_callee (f := 85) rfl ?_); refine goesL_ (some 9) rfl rfl Tryd.func85 (by kernel_rfl) rfl #[.int .i64 g] rfl ag_ ?_; (with_reducible refine (move_Moves.calls g false _ A3.out).mono ?_); rintro e w' ⟨rfl, ⟨nd, rfl⟩⟩; refine ⟨_, rfl, ?_⟩; (try (rw [drewN_self aj]; generalize hq_ : World.drewN aj _ = aj; replace d := Z (qV hq_ d.out); replace b := Z (qM hq_ b.out); replace c := Z (qM hq_ c.out); replace i := Z (qM hq_ i.out); replace HB := Z (qB hq_ HB.out); clear hq_)); (try obtain ⟨Y, aa, ab, ac⟩ := cells2 c.out)) | ((with_reducible refine gate_callee (f := 29) rfl ?_); refine goesL_ (some 19) rfl rfl Tryd.func29 (by kernel_rfl) rfl #[.int .i64 g] rfl ag_ ?_; (with_reducible refine (wipe_Wipes.calls g false _ bj.out).mono ?_); rintro e w' ⟨rfl, ⟨nd, rfl⟩⟩; refine ⟨_, rfl, ?_⟩; (try (rw [drewN_self aj]; generalize hq_ : World.drewN aj _ = aj; replace d := Z (qV hq_ d.out); replace b := Z (qM hq_ b.out); replace c := Z (qM hq_ c.out); replace i := Z (qM hq_ i.out); replace HB := Z (qB hq_ HB.out); clear hq_)); (try obtain ⟨Y, aa, ab, ac⟩ := cells2 c.out)) | ((with_reducible refine gate_store (t := 5) (p := 37) rfl ?_); refine sx_ 5 37 (aj.setCell ⟨l, 1, none⟩ (.int .u8 30)) ?_; intro bs hw; replace d : Aside0 (Kd.V k35 35 bs w.heap.size (fun k_ => (T k_ ∨ w.heap.size ≤ k_) ∧ k_ ≠ m ∧ k_ ≠ l ∧ k_ ≠ a) (.slice L j.length P) j) := ⟨(by rw [hw]; exact (by (with_reducible repeat apply pV); exact V_off d.out (fun k_ hk => hk.1.2) off2_ (fun _ hk => ⟨hk.1.1.1, ⟨hk.1.1.2, ⟨hk.1.2, hk.2⟩⟩⟩)))⟩; replace b := Z (sM hw (blk_off b.out J.out off2_)); replace c : Aside0 (bs.heap[l]? = some (.cells #[.int .i64 g, .int .u8 30] 58 (0, 0))) := ⟨(by rw [hw]; exact (by (with_reducible repeat apply pK); refine blk_put (cs := #[.int .i64 g, .int .u8 O]) ?_ 1 _ rfl; (with_reducible repeat apply pK); exact c.out))⟩; replace i := Z (sM hw (blk_off i.out K.out off2_)); replace HB : Aside0 (Below w.heap.size w bs) := ⟨by rw [hw]; exact bl_⟩; clear hw; have fP := U.out; have gj := W.out; obtain ⟨cz, cA, cB, cC, cD, cE, dU, dV, dW, dX, dY, dZ⟩ := cells6 b.out; obtain ⟨cF, cG, d0, d1⟩ := cells2 c.out) | ((with_reducible refine gate_callee (f := 31) rfl ?_); refine goesL_ (some 41) rfl rfl Tryd.func31 (by kernel_rfl) rfl #[.agg #[.int .i64 u, .int .i64 x, .slice L j.length P, .int .i64 y, .bool z, .bool A], .int .u8 30] rfl ag_ ?_; (with_reducible refine (edit_Type.callsN k u x (fun k_ => ((T k_ ∨ w.heap.size ≤ k_) ∧ (k_ ≠ m ∧ (k_ ≠ l ∧ k_ ≠ a)))) _ _ j y z A 30 aP aQ aR aS aT aU bW _ ?side1 fC.out).mono ?_); (case side1 => exact d.out); rintro e g7 ⟨eT, gx, rfl, ad, ag, hb⟩; refine ⟨_, rfl, ?_⟩; replace d := Z (Kd.V_elder' (vV d.out) (Kd.R_base ad) hb); have bm := Z (Kd.R_lower (Kd.R_newM (M := fun k_ => (w.heap.size ≤ k_)) (Kd.R_mono (ok' := fun k_ => True) ad (fun _ hk_ => trivial)) (below_size bl_) (fun k_ h_ => h_)) (below_size bl_)); have eK := Z (Kd.V_lower (Kd.V_mono (ok' := fun k_ => (T k_ ∨ w.heap.size ≤ k_) ∧ some k_ ≠ (eT : Value).ownBlock ∧ k_ ≠ m ∧ k_ ≠ l ∧ k_ ≠ a) ag (fun k_ hk_ => ⟨Or.elim hk_.1 (fun hs_ => hs_.1) (fun hn_ => (ir_ hn_)), hk_.2, Or.elim hk_.1 (fun hs_ => hs_.2.1) (fun hn_ => (fb b.out k_ hn_)), Or.elim hk_.1 (fun hs_ => hs_.2.2.1) (fun hn_ => (fb c.out k_ hn_)), Or.elim hk_.1 (fun hs_ => hs_.2.2.2) (fun hn_ => (fb i.out k_ hn_))⟩)) (below_size bl_)); replace b := kb' b hb; replace c := kb' c hb; replace i := kb' i hb; replace HB := bs_ hb; clear hb ad ag; (try simp only [errW_none, errW_some]); obtain ⟨cH, cI, cJ, cK, cL, cM, d2, d3, d4, d5, d6, d7⟩ := cells6 i.out; obtain ⟨bw, bE, e4⟩ := Kd.R_slice bm.out; subst e4))
     refine bodyPost_ret (results_ct rfl _ _ a 24 #[.int .i64 aP, .int .i64 aQ, .slice bw aR.length bE, .int .i64 aS, .bool aT, .bool aU] (0, 0) _ rfl (put6 i.out) Tryd.underlying24 rfl (by kernel_rfl)) rfl ?_
     exact ⟨_, _, er_, by (with_reducible repeat apply pR); exact Kd.R_mono (f6R a (Kd.R_types bm.out i.out (by decide)) (fun _ hk => hk.2)) (fun _ hk => hk.1.1), by (with_reducible repeat apply pV); exact Kd.V_mono (f6V a (Kd.V_mono eK.out (fun k_ hk => (⟨hk, hk.2.2.2.2⟩ : _ ∧ k_ ≠ a))) (fun _ hk => hk.2)) (fun _ hk => ⟨hk.1.1, hk.1.2.1⟩), bl_⟩
    ·exact absurd H (by simp)
   ·rw [if_neg be] at H
    obtain ⟨bJ, bK⟩ := eF_ be
    by_cases bf : g = 1
    ·rw [if_pos bf] at H
     obtain ⟨bL, bM⟩ := eT_ bf
     clear bf
     replace H := Option.bind_eq_some_iff.mp H
     obtain ⟨⟨aV, aW, aX, aY, aZ, a0, bX, bY⟩, eF, H⟩ := H
     replace H : (some (aV, aW, aX, aY, aZ, a0, bX, bY)) = some (r1, r2, r3, r4, r5, r6, (none : Option Er), r8) := H
     have bI := Z eF
     clear eF
     rcases bX with _ | eZ
     ·try simp only [errW_none, errW_some]
      simp only [Option.some.injEq, Prod.mk.injEq] at H
      (first | obtain ⟨rfl, rfl, rfl, rfl, rfl, rfl, _, rfl⟩ := H | obtain ⟨rfl, rfl, rfl, rfl, rfl, rfl, rfl⟩ := H)
      go_enter Tryd.func65, Tryd.ntmps65
      go_wp2_with (first | ((with_reducible refine gate_dst (N := 2) rfl ?_); refine bx_ 2 24 #[.int .i64 u, .int .i64 x, .slice L j.length P, .int .i64 y, .bool z, .bool A] ?_; intro m hg g8 hbox hb; replace d := Z (ve d.out hg hb); have b := Z (hbox); have az := Z (ln_ hg : w.heap.size ≤ m); have aw := az; replace HB := bs_ hb; clear hb hbox hg) | ((with_reducible refine gate_dst (N := 3) rfl ?_); refine bx_ 3 58 #[.int .i64 g, .int .u8 O] ?_; intro l hg g9 hbox hb; replace d := Z (ve d.out hg hb); have c := Z (hbox); have aA := Z (ln_ hg : w.heap.size ≤ l); have ax := aA; replace HB := bs_ hb; have J := nl' b hg; have Q := ng' b hg; replace b := kb' b hb; clear hb hbox hg) | ((with_reducible refine gate_dst (N := 4) rfl ?_); refine bx_ 4 24 #[.int .i64 0, .int .i64 0, .slice none 0 0, .int .i64 0, .bool false, .bool false] ?_; intro a hg al hbox hb; replace d := Z (ve d.out hg hb); have i := Z (hbox); have aB := Z (ln_ hg : w.heap.size ≤ a); have ay := aB; replace HB := bs_ hb; have U := nl' b hg; have W := ng' b hg; replace b := kb' b hb; have S := nl' c hg; have K := ng' c hg; replace c := kb' c hb; clear hb hbox hg; have fQ := Q.out; have gk := J.out; have fR := S.out; have gl := K.out; obtain ⟨cN, cO, d8, d9⟩ := cells2 c.out) | ((with_reducible refine gate_callee (f := 85) rfl ?_); refine goesL_ (some 9) rfl rfl Tryd.func85 (by kernel_rfl) rfl #[.int .i64 g] rfl ag_ ?_; (with_reducible refine (move_Moves.calls g false _ A3.out).mono ?_); rintro e w' ⟨rfl, ⟨nd, rfl⟩⟩; refine ⟨_, rfl, ?_⟩; (try (rw [drewN_self al]; generalize hq_ : World.drewN al _ = al; replace d := Z (qV hq_ d.out); replace b := Z (qM hq_ b.out); replace c := Z (qM hq_ c.out); replace i := Z (qM hq_ i.out); replace HB := Z (qB hq_ HB.out); clear hq_)); (try obtain ⟨Y, aa, ab, ac⟩ := cells2 c.out)) | ((with_reducible refine gate_callee (f := 29) rfl ?_); refine goesL_ (some 19) rfl rfl Tryd.func29 (by kernel_rfl) rfl #[.int .i64 g] rfl ag_ ?_; (with_reducible refine (wipe_Wipes.calls g false _ bj.out).mono ?_); rintro e w' ⟨rfl, ⟨nd, rfl⟩⟩; refine ⟨_, rfl, ?_⟩; (try (rw [drewN_self al]; generalize hq_ : World.drewN al _ = al; replace d := Z (qV hq_ d.out); replace b := Z (qM hq_ b.out); replace c := Z (qM hq_ c.out); replace i := Z (qM hq_ i.out); replace HB := Z (qB hq_ HB.out); clear hq_)); (try obtain ⟨Y, aa, ab, ac⟩ := cells2 c.out); have fS := U.out; have gm := W.out; obtain ⟨cP, cQ, cR, cS, cT, cU, ea, eb, ec, ed, ee, ef⟩ := cells6 b.out) | ((with_reducible refine gate_callee (f := 31) rfl ?_); refine goesL_ (some 41) rfl rfl Tryd.func31 (by kernel_rfl) rfl #[.agg #[.int .i64 u, .int .i64 x, .slice L j.length P, .int .i64 y, .bool z, .bool A], .int .u8 O] rfl ag_ ?_; (with_reducible refine (edit_Type.callsN k u x (fun k_ => ((((T k_ ∨ w.heap.size ≤ k_) ∧ k_ ≠ m) ∧ k_ ≠ l) ∧ k_ ≠ a)) _ _ j y z A O aV aW aX aY aZ a0 bY _ ?side1 bI.out).mono ?_); (case side1 => exact d.out); rintro e ha ⟨eU, gy, rfl, ad, ag, hb⟩; refine ⟨_, rfl, ?_⟩; replace d := Z (Kd.V_elder' (vV d.out) (Kd.R_base ad) hb); have bn := Z (Kd.R_lower (Kd.R_newM (M := fun k_ => (w.heap.size ≤ k_)) (Kd.R_mono (ok' := fun k_ => True) ad (fun _ hk_ => trivial)) (below_size bl_) (fun k_ h_ => h_)) (below_size bl_)); have eL := Z (Kd.V_lower (Kd.V_mono (ok' := fun k_ => (T k_ ∨ w.heap.size ≤ k_) ∧ some k_ ≠ (eU : Value).ownBlock ∧ k_ ≠ m ∧ k_ ≠ l ∧ k_ ≠ a) ag (fun k_ hk_ => ⟨Or.elim hk_.1 (fun hs_ => hs_.1.1.1) (fun hn_ => (ir_ hn_)), hk_.2, Or.elim hk_.1 (fun hs_ => hs_.1.1.2) (fun hn_ => (fb b.out k_ hn_)), Or.elim hk_.1 (fun hs_ => hs_.1.2) (fun hn_ => (fb c.out k_ hn_)), Or.elim hk_.1 (fun hs_ => hs_.2) (fun hn_ => (fb i.out k_ hn_))⟩)) (below_size bl_)); replace b := kb' b hb; replace c := kb' c hb; replace i := kb' i hb; replace HB := bs_ hb; clear hb ad ag; (try simp only [errW_none, errW_some]); obtain ⟨cV, cW, cX, cY, cZ, c0, eg, eh, ei, ej, ek, el⟩ := cells6 i.out; obtain ⟨bx, bF, e5⟩ := Kd.R_slice bn.out; subst e5))
      refine bodyPost_ret (results_ct rfl _ _ a 24 #[.int .i64 aV, .int .i64 aW, .slice bx aX.length bF, .int .i64 aY, .bool aZ, .bool a0] (0, 0) _ rfl (put6 i.out) Tryd.underlying24 rfl (by kernel_rfl)) rfl ?_
      exact ⟨_, _, er_, by (with_reducible repeat apply pR); exact Kd.R_mono (f6R a (Kd.R_types bn.out i.out (by decide)) (fun _ hk => hk.2)) (fun _ hk => hk.1.1), by (with_reducible repeat apply pV); exact Kd.V_mono (f6V a (Kd.V_mono eL.out (fun k_ hk => (⟨hk, hk.2.2.2.2⟩ : _ ∧ k_ ≠ a))) (fun _ hk => hk.2)) (fun _ hk => ⟨hk.1.1, hk.1.2.1⟩), bl_⟩
     ·exact absurd H (by simp)
    ·rw [if_neg bf] at H
     obtain ⟨bL, bM⟩ := eF_ bf
     by_cases bg : g = 10
     ·rw [if_pos bg] at H
      obtain ⟨bN, bO⟩ := eT_ bg
      clear bg
      replace H := Option.bind_eq_some_iff.mp H
      obtain ⟨⟨a1, a2, a3, a4, a5, a6, bZ, b0⟩, eG, H⟩ := H
      replace H : (some (a1, a2, a3, a4, a5, a6, bZ, b0)) = some (r1, r2, r3, r4, r5, r6, (none : Option Er), r8) := H
      have fD := Z eG
      clear eG
      rcases bZ with _ | e0
      ·try simp only [errW_none, errW_some]
       simp only [Option.some.injEq, Prod.mk.injEq] at H
       (first | obtain ⟨rfl, rfl, rfl, rfl, rfl, rfl, _, rfl⟩ := H | obtain ⟨rfl, rfl, rfl, rfl, rfl, rfl, rfl⟩ := H)
       go_enter Tryd.func65, Tryd.ntmps65
       go_wp2_with (first | ((with_reducible refine gate_dst (N := 2) rfl ?_); refine bx_ 2 24 #[.int .i64 u, .int .i64 x, .slice L j.length P, .int .i64 y, .bool z, .bool A] ?_; intro m hg hc hbox hb; replace d := Z (ve d.out hg hb); have b := Z (hbox); have az := Z (ln_ hg : w.heap.size ≤ m); have aw := az; replace HB := bs_ hb; clear hb hbox hg) | ((with_reducible refine gate_dst (N := 3) rfl ?_); refine bx_ 3 58 #[.int .i64 g, .int .u8 O] ?_; intro l hg he hbox hb; replace d := Z (ve d.out hg hb); have c := Z (hbox); have aA := Z (ln_ hg : w.heap.size ≤ l); have ax := aA; replace HB := bs_ hb; have J := nl' b hg; have Q := ng' b hg; replace b := kb' b hb; clear hb hbox hg) | ((with_reducible refine gate_dst (N := 4) rfl ?_); refine bx_ 4 24 #[.int .i64 0, .int .i64 0, .slice none 0 0, .int .i64 0, .bool false, .bool false] ?_; intro a hg am hbox hb; replace d := Z (ve d.out hg hb); have i := Z (hbox); have aB := Z (ln_ hg : w.heap.size ≤ a); have ay := aB; replace HB := bs_ hb; have U := nl' b hg; have W := ng' b hg; replace b := kb' b hb; have S := nl' c hg; have K := ng' c hg; replace c := kb' c hb; clear hb hbox hg; have fT := Q.out; have gn := J.out; have fU := S.out; have go := K.out; obtain ⟨c9, da, em, en⟩ := cells2 c.out) | ((with_reducible refine gate_callee (f := 85) rfl ?_); refine goesL_ (some 9) rfl rfl Tryd.func85 (by kernel_rfl) rfl #[.int .i64 g] rfl ag_ ?_; (with_reducible refine (move_Moves.calls g false _ A3.out).mono ?_); rintro e w' ⟨rfl, ⟨nd, rfl⟩⟩; refine ⟨_, rfl, ?_⟩; (try (rw [drewN_self am]; generalize hq_ : World.drewN am _ = am; replace d := Z (qV hq_ d.out); replace b := Z (qM hq_ b.out); replace c := Z (qM hq_ c.out); replace i := Z (qM hq_ i.out); replace HB := Z (qB hq_ HB.out); clear hq_)); (try obtain ⟨Y, aa, ab, ac⟩ := cells2 c.out)) | ((with_reducible refine gate_callee (f := 29) rfl ?_); refine goesL_ (some 19) rfl rfl Tryd.func29 (by kernel_rfl) rfl #[.int .i64 g] rfl ag_ ?_; (with_reducible refine (wipe_Wipes.calls g false _ bj.out).mono ?_); rintro e w' ⟨rfl, ⟨nd, rfl⟩⟩; refine ⟨_, rfl, ?_⟩; (try (rw [drewN_self am]; generalize hq_ : World.drewN am _ = am; replace d := Z (qV hq_ d.out); replace b := Z (qM hq_ b.out); replace c := Z (qM hq_ c.out); replace i := Z (qM hq_ i.out); replace HB := Z (qB hq_ HB.out); clear hq_)); (try obtain ⟨Y, aa, ab, ac⟩ := cells2 c.out); have fV := U.out; have gp := W.out; obtain ⟨db, dc, dd, de, df, dg, eo, ep, eq, er, es, et⟩ := cells6 b.out) | ((with_reducible refine gate_callee (f := 87) rfl ?_); refine goesL_ (some 45) rfl rfl Tryd.func87 (by kernel_rfl) rfl #[.agg #[.int .i64 u, .int .i64 x, .slice L j.length P, .int .i64 y, .bool z, .bool A]] rfl ag_ ?_; (with_reducible refine (keys_dup.callsN k u x (fun k_ => ((((T k_ ∨ w.heap.size ≤ k_) ∧ k_ ≠ m) ∧ k_ ≠ l) ∧ k_ ≠ a)) _ _ j y z A a1 a2 a3 a4 a5 a6 b0 _ ?side1 fD.out).mono ?_); (case side1 => exact d.out); rintro e hf ⟨eV, gz, rfl, ad, ag, hb⟩; refine ⟨_, rfl, ?_⟩; replace d := Z (Kd.V_elder' (vV d.out) (Kd.R_base ad) hb); have bo := Z (Kd.R_lower (Kd.R_newM (M := fun k_ => (w.heap.size ≤ k_)) (Kd.R_mono (ok' := fun k_ => True) ad (fun _ hk_ => trivial)) (below_size bl_) (fun k_ h_ => h_)) (below_size bl_)); have eM := Z (Kd.V_lower (Kd.V_mono (ok' := fun k_ => (T k_ ∨ w.heap.size ≤ k_) ∧ some k_ ≠ (eV : Value).ownBlock ∧ k_ ≠ m ∧ k_ ≠ l ∧ k_ ≠ a) ag (fun k_ hk_ => ⟨Or.elim hk_.1 (fun hs_ => hs_.1.1.1) (fun hn_ => (ir_ hn_)), hk_.2, Or.elim hk_.1 (fun hs_ => hs_.1.1.2) (fun hn_ => (fb b.out k_ hn_)), Or.elim hk_.1 (fun hs_ => hs_.1.2) (fun hn_ => (fb c.out k_ hn_)), Or.elim hk_.1 (fun hs_ => hs_.2) (fun hn_ => (fb i.out k_ hn_))⟩)) (below_size bl_)); replace b := kb' b hb; replace c := kb' c hb; replace i := kb' i hb; replace HB := bs_ hb; clear hb ad ag; (try simp only [errW_none, errW_some]); obtain ⟨dh, di, dj, dk, dl, dm, eu, ev, ew, ex, ey, ez⟩ := cells6 i.out; obtain ⟨bz, bG, e6⟩ := Kd.R_slice bo.out; subst e6))
       refine bodyPost_ret (results_ct rfl _ _ a 24 #[.int .i64 a1, .int .i64 a2, .slice bz a3.length bG, .int .i64 a4, .bool a5, .bool a6] (0, 0) _ rfl (put6 i.out) Tryd.underlying24 rfl (by kernel_rfl)) rfl ?_
       exact ⟨_, _, er_, by (with_reducible repeat apply pR); exact Kd.R_mono (f6R a (Kd.R_types bo.out i.out (by decide)) (fun _ hk => hk.2)) (fun _ hk => hk.1.1), by (with_reducible repeat apply pV); exact Kd.V_mono (f6V a (Kd.V_mono eM.out (fun k_ hk => (⟨hk, hk.2.2.2.2⟩ : _ ∧ k_ ≠ a))) (fun _ hk => hk.2)) (fun _ hk => ⟨hk.1.1, hk.1.2.1⟩), bl_⟩
      ·exact absurd H (by simp)
     ·rw [if_neg bg] at H
      obtain ⟨bN, bO⟩ := eF_ bg
      have bB := Z H
      clear H
      go_enter Tryd.func65, Tryd.ntmps65
      go_upto_if 34 with (first | ((with_reducible refine gate_dst (N := 2) rfl ?_); refine bx_ 2 24 #[.int .i64 u, .int .i64 x, .slice L j.length P, .int .i64 y, .bool z, .bool A] ?_; intro m hg hh hbox hb; replace d := Z (ve d.out hg hb); have b := Z (hbox); have az := Z (ln_ hg : w.heap.size ≤ m); have aw := az; replace HB := bs_ hb; clear hb hbox hg) | ((with_reducible refine gate_dst (N := 3) rfl ?_); refine bx_ 3 58 #[.int .i64 g, .int .u8 O] ?_; intro l hg hj hbox hb; replace d := Z (ve d.out hg hb); have c := Z (hbox); have aA := Z (ln_ hg : w.heap.size ≤ l); have ax := aA; replace HB := bs_ hb; have J := nl' b hg; have Q := ng' b hg; replace b := kb' b hb; clear hb hbox hg) | ((with_reducible refine gate_dst (N := 4) rfl ?_); refine bx_ 4 24 #[.int .i64 0, .int .i64 0, .slice none 0 0, .int .i64 0, .bool false, .bool false] ?_; intro a hg hl hbox hb; replace d := Z (ve d.out hg hb); have i := Z (hbox); have aB := Z (ln_ hg : w.heap.size ≤ a); have ay := aB; replace HB := bs_ hb; have U := nl' b hg; have W := ng' b hg; replace b := kb' b hb; have S := nl' c hg; have K := ng' c hg; replace c := kb' c hb; clear hb hbox hg; have fW := Q.out; have gq := J.out; have fX := S.out; have gr := K.out; obtain ⟨dn, dp, eA, eB⟩ := cells2 c.out) | ((with_reducible refine gate_callee (f := 85) rfl ?_); refine goesL_ (some 9) rfl rfl Tryd.func85 (by kernel_rfl) rfl #[.int .i64 g] rfl ag_ ?_; (with_reducible refine (move_Moves.calls g false _ A3.out).mono ?_); rintro e w' ⟨rfl, ⟨nd, rfl⟩⟩; refine ⟨_, rfl, ?_⟩) | ((with_reducible refine gate_callee (f := 29) rfl ?_); refine goesL_ (some 19) rfl rfl Tryd.func29 (by kernel_rfl) rfl #[.int .i64 g] rfl ag_ ?_; (with_reducible refine (wipe_Wipes.calls g false _ bj.out).mono ?_); rintro e w' ⟨rfl, ⟨nd, rfl⟩⟩; refine ⟨_, rfl, ?_⟩))
      (try simp only [Act.put, sA, sB, sC])
      go_cut [34] (fun fG wc => ∃ (kq : Nat) (bd : Bool), fG = .bool bd ∧ Aside0 (keys_plain.j0 kq bd u x j y z A g O = some (r1, r2, r3, r4, r5, r6, (none : Option Er), r8)) ∧ Aside0 (kq ≤ k) ∧ Aside0 (Kd.V k35 35 wc w.heap.size (fun k_ => (T k_ ∨ w.heap.size ≤ k_) ∧ k_ ≠ m ∧ k_ ≠ l ∧ k_ ≠ a) (.slice L j.length P) j) ∧ Aside0 (wc.heap[m]? = some (.cells #[.int .i64 u, .int .i64 x, (.slice L j.length P), .int .i64 y, .bool z, .bool A] 24 (0, 0))) ∧ Aside0 (wc.heap[l]? = some (.cells #[.int .i64 g, .int .u8 O] 58 (0, 0))) ∧ Aside0 (wc.heap[a]? = some (.cells #[.int .i64 0, .int .i64 0, (.slice none 0 0), .int .i64 0, .bool false, .bool false] 24 (0, 0))) ∧ Aside0 (Below w.heap.size w wc))
      case first =>
       have H := bB.out
       clear bB
       by_cases bh : g = 15
       ·rw [if_pos bh] at H
        obtain ⟨aC, bP⟩ := eT_ bh
        clear bh
        (first | rw [aC] | (simp only [i64_w, i32_w]; rw [aC]) | skip)
        have H' := Z H
        clear H
        go_wp2
        go_meet
        case rel => exact ⟨_, ((g == 15)), (dn_), H', ⟨by first | omega | exact Nat.le_refl _⟩, ⟨by (with_reducible repeat apply pV); exact Kd.V_mono d.out (fun _ hk => ⟨hk.1.1.1, ⟨hk.1.1.2, ⟨hk.1.2, hk.2⟩⟩⟩)⟩, ⟨vK b.out⟩, ⟨vK c.out⟩, ⟨vK i.out⟩, ⟨bl_⟩⟩
       ·rw [if_neg bh] at H
        obtain ⟨aC, bP⟩ := eF_ bh
        (first | rw [aC] | (simp only [i64_w, i32_w]; rw [aC]) | skip)
        have H' := Z H
        clear H
        go_wp2
        go_meet
        case rel => exact ⟨_, ((g == 16)), (dn_), H', ⟨by first | omega | exact Nat.le_refl _⟩, ⟨by (with_reducible repeat apply pV); exact Kd.V_mono d.out (fun _ hk => ⟨hk.1.1.1, ⟨hk.1.1.2, ⟨hk.1.2, hk.2⟩⟩⟩)⟩, ⟨vK b.out⟩, ⟨vK c.out⟩, ⟨vK i.out⟩, ⟨bl_⟩⟩
      case rest =>
       clear bB
       clear be bJ bK bf bL bM bg bN bO dn dp eA eB
       obtain ⟨kq, bd, rfl, HA, gC, HO_1408002, b, c, i, HB⟩ := hcut
       cases kq with
       | zero => exact absurd HA.out (by simp [keys_plain.j0])
       | succ eO =>
        have H := HA.out
        clear HA
        simp only [keys_plain.j0] at H
        by_cases bQ : bd = true
        ·subst bQ
         have H1 : ((keys_set.f eO u x j y z A g).bind fun af => (some (af.1, af.2.1, af.2.2.1, af.2.2.2.1, af.2.2.2.2.1, af.2.2.2.2.2.1, af.2.2.2.2.2.2.1, af.2.2.2.2.2.2.2))) = some (r1, r2, r3, r4, r5, r6, (none : Option Er), r8) := by rw [if_pos rfl] at H; exact H
         clear H
         have H := H1
         clear H1
         replace H := Option.bind_eq_some_iff.mp H
         obtain ⟨⟨a7, a8, a9, ba, bb, bc, b1, b2⟩, eH, H⟩ := H
         replace H : (some (a7, a8, a9, ba, bb, bc, b1, b2)) = some (r1, r2, r3, r4, r5, r6, (none : Option Er), r8) := H
         have fE := Z eH
         clear eH
         rcases b1 with _ | g0
         ·try simp only [errW_none, errW_some]
          simp only [Option.some.injEq, Prod.mk.injEq] at H
          (first | obtain ⟨rfl, rfl, rfl, rfl, rfl, rfl, _, rfl⟩ := H | obtain ⟨rfl, rfl, rfl, rfl, rfl, rfl, rfl⟩ := H)
          have fY := J.out
          have gs := Q.out
          have fZ := U.out
          have gt := W.out
          obtain ⟨e8, e9, fa, fc, fd, fe, fn, fo, fp, fq, fr, fs⟩ := cells6 b.out
          have ga := S.out
          have gu := K.out
          obtain ⟨ff, fg, ft, fu⟩ := cells2 c.out
          go_wp2_with (first | ((with_reducible refine gate_callee (f := 88) rfl ?_); refine goesL_ (some 51) rfl rfl Tryd.func88 (by kernel_rfl) rfl #[.agg #[.int .i64 u, .int .i64 x, .slice L j.length P, .int .i64 y, .bool z, .bool A], .int .i64 g] rfl ag_ ?_; (with_reducible refine (keys_set.callsN eO u x (fun k_ => ((T k_ ∨ w.heap.size ≤ k_) ∧ (k_ ≠ m ∧ (k_ ≠ l ∧ k_ ≠ a)))) _ _ j y z A g a7 a8 a9 ba bb bc b2 _ ?side1 fE.out).mono ?_); (case side1 => exact HO_1408002.out); rintro e hm ⟨eW, gA, rfl, ad, ag, hb⟩; refine ⟨_, rfl, ?_⟩; replace HO_1408002 := Z (Kd.V_elder' (vV HO_1408002.out) (Kd.R_base ad) hb); have bp := Z (Kd.R_lower (Kd.R_newM (M := fun k_ => (w.heap.size ≤ k_)) (Kd.R_mono (ok' := fun k_ => True) ad (fun _ hk_ => trivial)) (below_size bl_) (fun k_ h_ => h_)) (below_size bl_)); have eN := Z (Kd.V_lower (Kd.V_mono (ok' := fun k_ => (T k_ ∨ w.heap.size ≤ k_) ∧ some k_ ≠ (eW : Value).ownBlock ∧ k_ ≠ m ∧ k_ ≠ l ∧ k_ ≠ a) ag (fun k_ hk_ => ⟨Or.elim hk_.1 (fun hs_ => hs_.1) (fun hn_ => (ir_ hn_)), hk_.2, Or.elim hk_.1 (fun hs_ => hs_.2.1) (fun hn_ => (fb b.out k_ hn_)), Or.elim hk_.1 (fun hs_ => hs_.2.2.1) (fun hn_ => (fb c.out k_ hn_)), Or.elim hk_.1 (fun hs_ => hs_.2.2.2) (fun hn_ => (fb i.out k_ hn_))⟩)) (below_size bl_)); replace b := kb' b hb; replace c := kb' c hb; replace i := kb' i hb; replace HB := bs_ hb; clear hb ad ag; (try simp only [errW_none, errW_some]); obtain ⟨fh, fi, fj, fk, fl, fm, fv, fw, fx, fy, fz, fA⟩ := cells6 i.out; obtain ⟨bA, bH, e7⟩ := Kd.R_slice bp.out; subst e7))
          refine bodyPost_ret (results_ct rfl _ _ a 24 #[.int .i64 a7, .int .i64 a8, .slice bA a9.length bH, .int .i64 ba, .bool bb, .bool bc] (0, 0) _ rfl (put6 i.out) Tryd.underlying24 rfl (by kernel_rfl)) rfl ?_
          exact ⟨_, _, er_, by (with_reducible repeat apply pR); exact Kd.R_mono (f6R a (Kd.R_types bp.out i.out (by decide)) (fun _ hk => hk.2)) (fun _ hk => hk.1.1), by (with_reducible repeat apply pV); exact Kd.V_mono (f6V a (Kd.V_mono eN.out (fun k_ hk => (⟨hk, hk.2.2.2.2⟩ : _ ∧ k_ ≠ a))) (fun _ hk => hk.2)) (fun _ hk => ⟨hk.1.1, hk.1.2.1⟩), bl_⟩
         ·exact absurd H (by simp)
        ·replace bQ := Bool.eq_false_iff.mpr bQ
         subst bQ
         have H1 : (some (u, x, j, y, z, A, some (Er.num 1), ([] : List (S164)))) = some (r1, r2, r3, r4, r5, r6, (none : Option Er), r8) := by rw [if_neg (show ¬ (false = true) by decide)] at H; exact H
         clear H
         have H := H1
         clear H1
         exact absurd H (by simp)
theorem keys_Do.callsN (k : Nat) (Q : Int) (S : Int) (Y : Nat → Prop) (af : Option Addr) (ag : Nat) (z : List (S35)) (T : Int) (U : Bool) (W : Bool) (B : Int) (X : Int) (r1 : Int) (r2 : Int) (r3 : List (S35)) (r4 : Int) (r5 : Bool) (r6 : Bool) (r7 : Bool) (r9 : List (S164)) (w : World) (a3 : Kd.V k35 35 w w.heap.size (fun k_ => Y k_) (.slice af z.length ag) z) (h : keys_Do.f k Q S z T U W B X = some (r1, r2, r3, r4, r5, r6, r7, (none : Option Er), r9)) :
  Calls Tryd.prog 42 #[.agg #[.int .i64 Q, .int .i64 S, .slice af z.length ag, .int .i64 T, .bool U, .bool W], .agg #[.int .i64 B, .int .u8 X]] w fun e w' => ∃ a2 a7 : Value, e = .returned (.tuple #[.agg #[.int .i64 r1, .int .i64 r2, a2, .int .i64 r4, .bool r5, .bool r6], .bool r7, errW a7 (none : Option Er)]) ∧ Kd.R k35 35 w' w.heap.size (fun k_ => (w.heap.size ≤ k_)) a2 r3 ∧ Kd.V k164 164 w' w.heap.size (fun k_ => (Y k_ ∨ w.heap.size ≤ k_) ∧ some k_ ≠ (a2 : Value).ownBlock) a7 r9 ∧ Below w.heap.size w w' := by
 have cJ := Tryd.underlying24
 have cK := Tryd.underlying58
 have d := Z (show Kd.V k35 35 w w.heap.size (fun k_ => (Y k_ ∨ w.heap.size ≤ k_)) (.slice af z.length ag) z from Kd.V_mono a3 (fun k_ hk => .inl hk))
 have HB := Z (Below.refl w.heap.size w)
 have H : (if B = 17 then ((keys_asks.f k Q S z T U W X).bind fun v => (some (v.1, v.2.1, v.2.2.1, v.2.2.2.1, v.2.2.2.2.1, v.2.2.2.2.2.1, v.2.2.2.2.2.2.1, v.2.2.2.2.2.2.2.1, v.2.2.2.2.2.2.2.2))) else ((keys_plain.f k Q S z T U W B X).bind fun D => (some (D.1, D.2.1, D.2.2.1, D.2.2.2.1, D.2.2.2.2.1, D.2.2.2.2.2.1, false, D.2.2.2.2.2.2.1, D.2.2.2.2.2.2.2)))) = some (r1, r2, r3, r4, r5, r6, r7, (none : Option Er), r9) := h
 clear h
 by_cases c3 : B = 17
 ·rw [if_pos c3] at H
  obtain ⟨a8, a9⟩ := eT_ c3
  clear c3
  replace H := Option.bind_eq_some_iff.mp H
  obtain ⟨⟨ai, aj, ak, al, am, an, aD, aE, aF⟩, a6, H⟩ := H
  replace H : (some (ai, aj, ak, al, am, an, aD, aE, aF)) = some (r1, r2, r3, r4, r5, r6, r7, (none : Option Er), r9) := H
  have A4 := Z a6
  clear a6
  rcases aE with _ | q5
  ·try simp only [errW_none, errW_some]
   simp only [Option.some.injEq, Prod.mk.injEq] at H
   (first | obtain ⟨rfl, rfl, rfl, rfl, rfl, rfl, rfl, _, rfl⟩ := H | obtain ⟨rfl, rfl, rfl, rfl, rfl, rfl, rfl, rfl⟩ := H)
   go_enter Tryd.func42, Tryd.ntmps42
   go_wp2_with (first | ((with_reducible refine gate_dst (N := 2) rfl ?_); refine bx_ 2 24 #[.int .i64 Q, .int .i64 S, .slice af z.length ag, .int .i64 T, .bool U, .bool W] ?_; intro x hg w6 hbox hb; replace d := Z (ve d.out hg hb); have b := Z (hbox); have aM := Z (ln_ hg : w.heap.size ≤ x); have aJ := aM; replace HB := bs_ hb; clear hb hbox hg) | ((with_reducible refine gate_dst (N := 3) rfl ?_); refine bx_ 3 58 #[.int .i64 B, .int .u8 X] ?_; intro y hg w7 hbox hb; replace d := Z (ve d.out hg hb); have c := Z (hbox); have aN := Z (ln_ hg : w.heap.size ≤ y); have aK := aN; replace HB := bs_ hb; have I := nl' b hg; have K := ng' b hg; replace b := kb' b hb; clear hb hbox hg) | ((with_reducible refine gate_dst (N := 4) rfl ?_); refine bx_ 4 24 #[.int .i64 0, .int .i64 0, .slice none 0 0, .int .i64 0, .bool false, .bool false] ?_; intro a hg w8 hbox hb; replace d := Z (ve d.out hg hb); have g := Z (hbox); have aO := Z (ln_ hg : w.heap.size ≤ a); have aL := aO; replace HB := bs_ hb; have J := nl' b hg; have O := ng' b hg; replace b := kb' b hb; have L := nl' c hg; have P := ng' c hg; replace c := kb' c hb; clear hb hbox hg; have cH := K.out; have cI := I.out; have cn := L.out; have cw := P.out; obtain ⟨bc, bd, bL, bM⟩ := cells2 c.out; have co := J.out; have cx := O.out; obtain ⟨be, bf, bg, bh, bi, bj, bN, bO, bP, bQ, bR, bS⟩ := cells6 b.out) | ((with_reducible refine gate_callee (f := 64) rfl ?_); refine goesL_ (some 15) rfl rfl Tryd.func64 (by kernel_rfl) rfl #[.agg #[.int .i64 Q, .int .i64 S, .slice af z.length ag, .int .i64 T, .bool U, .bool W], .int .u8 X] rfl ag_ ?_; (with_reducible refine (keys_asks.callsN k Q S (fun k_ => ((((Y k_ ∨ w.heap.size ≤ k_) ∧ k_ ≠ x) ∧ k_ ≠ y) ∧ k_ ≠ a)) _ _ z T U W X ai aj ak al am an aD aF _ ?side1 A4.out).mono ?_); (case side1 => exact d.out); rintro e cM ⟨a4, cE, rfl, aq, aA, hb⟩; refine ⟨_, rfl, ?_⟩; replace d := Z (Kd.V_elder' (vV d.out) (Kd.R_base aq) hb); have az := Z (Kd.R_lower (Kd.R_newM (M := fun k_ => (w.heap.size ≤ k_)) (Kd.R_mono (ok' := fun k_ => True) aq (fun _ hk_ => trivial)) (below_size bl_) (fun k_ h_ => h_)) (below_size bl_)); have aP := Z (Kd.V_lower (Kd.V_mono (ok' := fun k_ => (Y k_ ∨ w.heap.size ≤ k_) ∧ some k_ ≠ (a4 : Value).ownBlock ∧ k_ ≠ x ∧ k_ ≠ y ∧ k_ ≠ a) aA (fun k_ hk_ => ⟨Or.elim hk_.1 (fun hs_ => hs_.1.1.1) (fun hn_ => (ir_ hn_)), hk_.2, Or.elim hk_.1 (fun hs_ => hs_.1.1.2) (fun hn_ => (fb b.out k_ hn_)), Or.elim hk_.1 (fun hs_ => hs_.1.2) (fun hn_ => (fb c.out k_ hn_)), Or.elim hk_.1 (fun hs_ => hs_.2) (fun hn_ => (fb g.out k_ hn_))⟩)) (below_size bl_)); replace b := kb' b hb; replace c := kb' c hb; replace g := kb' g hb; replace HB := bs_ hb; (try clear hb); (try clear cm); (try clear hk); (try clear hi); (try clear aq); (try clear aA); (try simp only [errW_none, errW_some]); obtain ⟨bk, bl, bm, bn, bo, bp, bT, bU, bV, bW, bX, bY⟩ := cells6 g.out; obtain ⟨aB, aC, ba⟩ := Kd.R_slice az.out; subst ba))
   refine bodyPost_ret (results_ctt rfl _ _ a 24 #[.int .i64 ai, .int .i64 aj, .slice aB ak.length aC, .int .i64 al, .bool am, .bool an] (0, 0) _ rfl (put6 g.out) Tryd.underlying24 rfl (by kernel_rfl)) rfl ?_
   exact ⟨_, _, er_, by (with_reducible repeat apply pR); exact Kd.R_mono (f6R a (Kd.R_types az.out g.out (by decide)) (fun _ hk => hk.2)) (fun _ hk => hk.1.1), by (with_reducible repeat apply pV); exact Kd.V_mono (f6V a (Kd.V_mono aP.out (fun k_ hk => (⟨hk, hk.2.2.2.2⟩ : _ ∧ k_ ≠ a))) (fun _ hk => hk.2)) (fun _ hk => ⟨hk.1.1, hk.1.2.1⟩), bl_⟩
  ·exact absurd H (by simp)
 ·rw [if_neg c3] at H
  obtain ⟨a8, a9⟩ := eF_ c3
  replace H := Option.bind_eq_some_iff.mp H
  obtain ⟨⟨r, A, C, E, G, aa, aG, aH⟩, aI, H⟩ := H
  replace H : (some (r, A, C, E, G, aa, false, aG, aH)) = some (r1, r2, r3, r4, r5, r6, r7, (none : Option Er), r9) := H
  have cj := Z aI
  clear aI
  rcases aG with _ | cL
  ·try simp only [errW_none, errW_some]
   simp only [Option.some.injEq, Prod.mk.injEq] at H
   (first | obtain ⟨rfl, rfl, rfl, rfl, rfl, rfl, rfl, _, rfl⟩ := H | obtain ⟨rfl, rfl, rfl, rfl, rfl, rfl, rfl, rfl⟩ := H)
   go_enter Tryd.func42, Tryd.ntmps42
   go_wp2_with (first | ((with_reducible refine gate_dst (N := 2) rfl ?_); refine bx_ 2 24 #[.int .i64 Q, .int .i64 S, .slice af z.length ag, .int .i64 T, .bool U, .bool W] ?_; intro x hg cN hbox hb; replace d := Z (ve d.out hg hb); have b := Z (hbox); have aM := Z (ln_ hg : w.heap.size ≤ x); have aJ := aM; replace HB := bs_ hb; clear hb hbox hg) | ((with_reducible refine gate_dst (N := 3) rfl ?_); refine bx_ 3 58 #[.int .i64 B, .int .u8 X] ?_; intro y hg cO hbox hb; replace d := Z (ve d.out hg hb); have c := Z (hbox); have aN := Z (ln_ hg : w.heap.size ≤ y); have aK := aN; replace HB := bs_ hb; have I := nl' b hg; have K := ng' b hg; replace b := kb' b hb; clear hb hbox hg) | ((with_reducible refine gate_dst (N := 4) rfl ?_); refine bx_ 4 24 #[.int .i64 0, .int .i64 0, .slice none 0 0, .int .i64 0, .bool false, .bool false] ?_; intro a hg cP hbox hb; replace d := Z (ve d.out hg hb); have g := Z (hbox); have aO := Z (ln_ hg : w.heap.size ≤ a); have aL := aO; replace HB := bs_ hb; have J := nl' b hg; have O := ng' b hg; replace b := kb' b hb; have L := nl' c hg; have P := ng' c hg; replace c := kb' c hb; clear hb hbox hg; have cp := K.out; have cy := I.out; have cq := L.out; have cz := P.out; obtain ⟨bq, br, bZ, b0⟩ := cells2 c.out; have cr := J.out; have cA := O.out; obtain ⟨bs, bt, bu, bv, bw, bx, b1, b2, b3, b4, b5, b6⟩ := cells6 b.out) | ((with_reducible refine gate_callee (f := 65) rfl ?_); refine goesL_ (some 22) rfl rfl Tryd.func65 (by kernel_rfl) rfl #[.agg #[.int .i64 Q, .int .i64 S, .slice af z.length ag, .int .i64 T, .bool U, .bool W], .agg #[.int .i64 B, .int .u8 X]] rfl ag_ ?_; (with_reducible refine (keys_plain.callsN k Q S (fun k_ => ((((Y k_ ∨ w.heap.size ≤ k_) ∧ k_ ≠ x) ∧ k_ ≠ y) ∧ k_ ≠ a)) _ _ z T U W B X r A C E G aa aH _ ?side1 cj.out).mono ?_); (case side1 => exact d.out); rintro e cQ ⟨a5, cF, rfl, aq, aA, hb⟩; refine ⟨_, rfl, ?_⟩; replace d := Z (Kd.V_elder' (vV d.out) (Kd.R_base aq) hb); have ac := Z (Kd.R_lower (Kd.R_newM (M := fun k_ => (w.heap.size ≤ k_)) (Kd.R_mono (ok' := fun k_ => True) aq (fun _ hk_ => trivial)) (below_size bl_) (fun k_ h_ => h_)) (below_size bl_)); have ah := Z (Kd.V_lower (Kd.V_mono (ok' := fun k_ => (Y k_ ∨ w.heap.size ≤ k_) ∧ some k_ ≠ (a5 : Value).ownBlock ∧ k_ ≠ x ∧ k_ ≠ y ∧ k_ ≠ a) aA (fun k_ hk_ => ⟨Or.elim hk_.1 (fun hs_ => hs_.1.1.1) (fun hn_ => (ir_ hn_)), hk_.2, Or.elim hk_.1 (fun hs_ => hs_.1.1.2) (fun hn_ => (fb b.out k_ hn_)), Or.elim hk_.1 (fun hs_ => hs_.1.2) (fun hn_ => (fb c.out k_ hn_)), Or.elim hk_.1 (fun hs_ => hs_.2) (fun hn_ => (fb g.out k_ hn_))⟩)) (below_size bl_)); replace b := kb' b hb; replace c := kb' c hb; replace g := kb' g hb; replace HB := bs_ hb; (try clear hb); (try clear cm); (try clear hk); (try clear hi); (try clear aq); (try clear aA); (try simp only [errW_none, errW_some])) | ((with_reducible refine gate_dst (N := 7) rfl ?_); refine bx_ 7 24 #[.int .i64 0, .int .i64 0, .slice none 0 0, .int .i64 0, .bool false, .bool false] ?_; intro i hg cR hbox hb; replace d := Z (ve d.out hg hb); replace ac := rb' ac hb; replace ah := Z (ve ah.out hg hb); have ay := Z (hbox); have cl := Z (ln_ hg : w.heap.size ≤ i); have ck := cl; replace HB := bs_ hb; have ar := nl' b hg; have av := ng' b hg; replace b := kb' b hb; have au := nl' c hg; have aw := ng' c hg; replace c := kb' c hb; have j := nl' g hg; have ax := ng' g hg; replace g := kb' g hb; clear hb hbox hg; have ct := av.out; have cB := ar.out; have cu := aw.out; have cC := au.out; have cv := ax.out; have cD := j.out; obtain ⟨bz, bA, bB, bC, bD, bE, b7, b8, b9, ca, cb, cc⟩ := cells6 ay.out; obtain ⟨ab, ad, bb⟩ := Kd.R_slice ac.out; subst bb; obtain ⟨bF, bG, bH, bI, bJ, bK, cd, ce, cf, cg, ch, ci⟩ := cells6 g.out))
   refine bodyPost_ret (results_ctt rfl _ _ a 24 #[.int .i64 r, .int .i64 A, .slice ab C.length ad, .int .i64 E, .bool G, .bool aa] (0, 0) _ rfl (by (with_reducible repeat apply pK); refine blk_put (cs := #[.int .i64 r, .int .i64 A, .slice ab C.length ad, .int .i64 E, .bool G, .bool false]) ?_ 5 _ rfl; (with_reducible repeat apply pK); refine blk_put (cs := #[.int .i64 r, .int .i64 A, .slice ab C.length ad, .int .i64 E, .bool false, .bool false]) ?_ 4 _ rfl; (with_reducible repeat apply pK); refine blk_put (cs := #[.int .i64 r, .int .i64 A, .slice ab C.length ad, .int .i64 0, .bool false, .bool false]) ?_ 3 _ rfl; (with_reducible repeat apply pK); refine blk_put (cs := #[.int .i64 r, .int .i64 A, .slice none 0 0, .int .i64 0, .bool false, .bool false]) ?_ 2 _ rfl; (with_reducible repeat apply pK); refine blk_put (cs := #[.int .i64 r, .int .i64 0, .slice none 0 0, .int .i64 0, .bool false, .bool false]) ?_ 1 _ rfl; (with_reducible repeat apply pK); refine blk_put (cs := #[.int .i64 0, .int .i64 0, .slice none 0 0, .int .i64 0, .bool false, .bool false]) ?_ 0 _ rfl; (with_reducible repeat apply pK); refine blk_far ?_ j.out _; (with_reducible repeat apply pK); refine blk_far ?_ j.out _; (with_reducible repeat apply pK); refine blk_far ?_ j.out _; (with_reducible repeat apply pK); refine blk_far ?_ j.out _; (with_reducible repeat apply pK); refine blk_far ?_ j.out _; (with_reducible repeat apply pK); refine blk_far ?_ j.out _; (with_reducible repeat apply pK); exact g.out) Tryd.underlying24 rfl (by kernel_rfl)) rfl ?_
   exact ⟨_, _, er_, by (with_reducible repeat apply pR); exact Kd.R_mono (f6R a (f6R i (Kd.R_types (Kd.R_types ac.out ay.out (by decide)) g.out (by decide)) (fun _ hk => hk.1.2)) (fun _ hk => hk.2)) (fun _ hk => hk.1.1.1), by (with_reducible repeat apply pV); exact Kd.V_mono (f6V a (f6V i (Kd.V_mono (Kd.V_mono ah.out (fun k_ hk => (⟨hk, hk.2⟩ : _ ∧ k_ ≠ i))) (fun k_ hk => (⟨hk, hk.1.1.2.2.2.2⟩ : _ ∧ k_ ≠ a))) (fun _ hk => hk.1.2)) (fun _ hk => hk.2)) (fun _ hk => ⟨hk.1.1.1.1, hk.1.1.1.2.1⟩), bl_⟩
  ·exact absurd H (by simp)
def shutterlaw17_KeysKeeps.l0 : Nat → Int → Int → Int → List (S35) → Int → Bool → Bool → Int → Int → List (S35) → Int → Bool → Bool → Int → Int → List (S35) → Int → Bool → Bool → Option (Bool)
 | 0, _, _, _, _, _, _, _, _, _, _, _, _, _, _, _, _, _, _, _ => none
 | k + 1, v, a, b, c, d, e, g, h, i, j, l, m, n, p, q, o, r, s, t => if v < (o.length : Int) then (if 0 ≤ v then (shutterlaw17_KeysKeeps.l0 k (wrap64 (v + 1)) a b c d e g h i j l m n p q (o.set (v : Int).toNat (⟨false, (⟨false, false, 0, false⟩ : S33), 7⟩ : S35)) r s t) else (none)) else ((shutterref10_Same.f k a b c d e g h i j l m n).bind fun u => (some u))
def shutterlaw17_KeysKeeps.f (k : Nat) (c : Int) (d : Int) (i : List (S35)) (e : Int) (g : Bool) (h : Bool) (o : Int) (p : Int) : Option (Bool) := (shutterlaw17_awake.f k).bind fun j => (if j = true then ((shutterref10_Few.f k c d i e g h).bind fun l => (if l = true then ((shutterref10_Copy.f c d i e g h).bind fun a => ((keys_Do.f k c d i e g h o p).bind fun b => (if b.2.2.2.2.2.2.2.1.isNone = true then (shutterlaw17_KeysKeeps.l0 k 0 c d i e g h a.1 a.2.1 a.2.2.1 a.2.2.2.1 a.2.2.2.2.1 a.2.2.2.2.2 b.1 b.2.1 b.2.2.1 b.2.2.2.1 b.2.2.2.2.1 b.2.2.2.2.2.1) else ((shutterref10_Same.f k c d i e g h a.1 a.2.1 a.2.2.1 a.2.2.2.1 a.2.2.2.2.1 a.2.2.2.2.2).bind fun n => (some n))))) else ((shutterlaw17_awake.f k).bind fun m => (some m)))) else (none))
theorem shutterlaw17_KeysKeeps.mono_l : ∀ k, (∀ m n o p q s t u v w a b c d e f g i j, LeO (shutterlaw17_KeysKeeps.l0 k m n o p q s t u v w a b c d e f g i j) (shutterlaw17_KeysKeeps.l0 (k + 1) m n o p q s t u v w a b c d e f g i j))
 | 0 => fun _ _ _ _ _ _ _ _ _ _ _ _ _ _ _ _ _ _ _ r h => by simp [shutterlaw17_KeysKeeps.l0] at h
 | k + 1 => by
  have l := shutterlaw17_KeysKeeps.mono_l k
  ·intro m n o p q s t u v w a b c d e f g i j
   unfold shutterlaw17_KeysKeeps.l0
   repeat' first
   | (with_reducible exact l _ _ _ _ _ _ _ _ _ _ _ _ _ _ _ _ _ _ _)
   | (with_reducible exact keys_Do.mono _ _ _ _ _ _ _ _ _)
   | (with_reducible exact shutterlaw17_awake.mono _)
   | (with_reducible exact shutterref10_Few.mono _ _ _ _ _ _ _)
   | (with_reducible exact shutterref10_Same.mono _ _ _ _ _ _ _ _ _ _ _ _ _)
   | (with_reducible exact LeO.refl _)
   | (with_reducible exact LeO.none _)
   | (with_reducible refine LeO.ite ?_ ?_)
   | (with_reducible refine LeO.bind ?_ (fun _ => ?_))
   | exact l _ _ _ _ _ _ _ _ _ _ _ _ _ _ _ _ _ _ _
   | exact keys_Do.mono _ _ _ _ _ _ _ _ _
   | exact shutterlaw17_awake.mono _
   | exact shutterref10_Few.mono _ _ _ _ _ _ _
   | exact shutterref10_Same.mono _ _ _ _ _ _ _ _ _ _ _ _ _
   | exact LeO.none _
   | refine LeO.ite ?_ ?_
   | refine LeO.bind ?_ (fun _ => ?_)
theorem shutterlaw17_KeysKeeps.mono : ∀ a0 a1 b c a4 d e g k, LeO (shutterlaw17_KeysKeeps.f k a0 a1 b c a4 d e g) (shutterlaw17_KeysKeeps.f (k + 1) a0 a1 b c a4 d e g) := by
 intro a0 a1 b c a4 d e g k
 have a := shutterlaw17_KeysKeeps.mono_l k
 unfold shutterlaw17_KeysKeeps.f
 repeat' first
   | (with_reducible exact a _ _ _ _ _ _ _ _ _ _ _ _ _ _ _ _ _ _ _)
   | (with_reducible exact keys_Do.mono _ _ _ _ _ _ _ _ _)
   | (with_reducible exact shutterlaw17_awake.mono _)
   | (with_reducible exact shutterref10_Few.mono _ _ _ _ _ _ _)
   | (with_reducible exact shutterref10_Same.mono _ _ _ _ _ _ _ _ _ _ _ _ _)
   | (with_reducible exact LeO.refl _)
   | (with_reducible exact LeO.none _)
   | (with_reducible refine LeO.ite ?_ ?_)
   | (with_reducible refine LeO.bind ?_ (fun _ => ?_))
   | exact a _ _ _ _ _ _ _ _ _ _ _ _ _ _ _ _ _ _ _
   | exact keys_Do.mono _ _ _ _ _ _ _ _ _
   | exact shutterlaw17_awake.mono _
   | exact shutterref10_Few.mono _ _ _ _ _ _ _
   | exact shutterref10_Same.mono _ _ _ _ _ _ _ _ _ _ _ _ _
   | exact LeO.none _
   | refine LeO.ite ?_ ?_
   | refine LeO.bind ?_ (fun _ => ?_)
theorem shutterlaw17_KeysKeeps.calls (k : Nat) (A : Int) (B : Int) (av : Option Addr) (aw : Nat) (s : List (S35)) (D : Int) (E : Bool) (F : Bool) (af : Int) (ag : Int) (r : Bool) (w : World) (bm : Kd.C k35 w av s.length s) (bk : s.length ≤ aw) (hG : LaidG w) (h : shutterlaw17_KeysKeeps.f k A B s D E F af ag = some r) :
  Calls Tryd.prog 16 #[.agg #[.int .i64 A, .int .i64 B, .slice av s.length aw, .int .i64 D, .bool E, .bool F], .agg #[.int .i64 af, .int .u8 ag]] w fun e w' => e = .returned (.bool r) ∧ Below w.heap.size w w' := by
 have HG := Z hG
 clear hG
 have g7 := Tryd.underlying24
 have hc := Tryd.underlying58
 have g9 := Tryd.underlying35
 have g8 := Tryd.underlying28
 have ha := Tryd.underlying52
 have aE := Z bm
 have aD := Z bk
 clear bm bk
 have HB := Z (Below.refl w.heap.size w)
 have H : ((shutterlaw17_awake.f k).bind fun aY => (if aY = true then ((shutterref10_Few.f k A B s D E F).bind fun aI => (if aI = true then ((shutterref10_Copy.f A B s D E F).bind fun d => ((keys_Do.f k A B s D E F af ag).bind fun i => (if i.2.2.2.2.2.2.2.1.isNone = true then (shutterlaw17_KeysKeeps.l0 k 0 A B s D E F d.1 d.2.1 d.2.2.1 d.2.2.2.1 d.2.2.2.2.1 d.2.2.2.2.2 i.1 i.2.1 i.2.2.1 i.2.2.2.1 i.2.2.2.2.1 i.2.2.2.2.2.1) else ((shutterref10_Same.f k A B s D E F d.1 d.2.1 d.2.2.1 d.2.2.2.1 d.2.2.2.2.1 d.2.2.2.2.2).bind fun aa => (some aa))))) else ((shutterlaw17_awake.f k).bind fun ar => (some ar)))) else (none))) = some r := h
 clear h
 replace H := Option.bind_eq_some_iff.mp H
 obtain ⟨aY, c7, H⟩ := H
 replace H : (if aY = true then ((shutterref10_Few.f k A B s D E F).bind fun aI => (if aI = true then ((shutterref10_Copy.f A B s D E F).bind fun d => ((keys_Do.f k A B s D E F af ag).bind fun i => (if i.2.2.2.2.2.2.2.1.isNone = true then (shutterlaw17_KeysKeeps.l0 k 0 A B s D E F d.1 d.2.1 d.2.2.1 d.2.2.2.1 d.2.2.2.2.1 d.2.2.2.2.2 i.1 i.2.1 i.2.2.1 i.2.2.2.1 i.2.2.2.2.1 i.2.2.2.2.2.1) else ((shutterref10_Same.f k A B s D E F d.1 d.2.1 d.2.2.1 d.2.2.2.1 d.2.2.2.2.1 d.2.2.2.2.2).bind fun aa => (some aa))))) else ((shutterlaw17_awake.f k).bind fun ar => (some ar)))) else (none)) = some r := H
 have A3 := Z c7
 clear c7
 by_cases c4 : aY = true
 ·subst c4
  have H1 : ((shutterref10_Few.f k A B s D E F).bind fun aI => (if aI = true then ((shutterref10_Copy.f A B s D E F).bind fun d => ((keys_Do.f k A B s D E F af ag).bind fun i => (if i.2.2.2.2.2.2.2.1.isNone = true then (shutterlaw17_KeysKeeps.l0 k 0 A B s D E F d.1 d.2.1 d.2.2.1 d.2.2.2.1 d.2.2.2.2.1 d.2.2.2.2.2 i.1 i.2.1 i.2.2.1 i.2.2.2.1 i.2.2.2.2.1 i.2.2.2.2.2.1) else ((shutterref10_Same.f k A B s D E F d.1 d.2.1 d.2.2.1 d.2.2.2.1 d.2.2.2.2.1 d.2.2.2.2.2).bind fun aa => (some aa))))) else ((shutterlaw17_awake.f k).bind fun ar => (some ar)))) = some r := by rw [if_pos rfl] at H; exact H
  clear H
  have H := H1
  clear H1
  replace H := Option.bind_eq_some_iff.mp H
  obtain ⟨aI, c8, H⟩ := H
  replace H : (if aI = true then ((shutterref10_Copy.f A B s D E F).bind fun d => ((keys_Do.f k A B s D E F af ag).bind fun i => (if i.2.2.2.2.2.2.2.1.isNone = true then (shutterlaw17_KeysKeeps.l0 k 0 A B s D E F d.1 d.2.1 d.2.2.1 d.2.2.2.1 d.2.2.2.2.1 d.2.2.2.2.2 i.1 i.2.1 i.2.2.1 i.2.2.2.1 i.2.2.2.2.1 i.2.2.2.2.2.1) else ((shutterref10_Same.f k A B s D E F d.1 d.2.1 d.2.2.1 d.2.2.2.1 d.2.2.2.2.1 d.2.2.2.2.2).bind fun aa => (some aa))))) else ((shutterlaw17_awake.f k).bind fun ar => (some ar))) = some r := H
  have A5 := Z c8
  clear c8
  by_cases c6 : aI = true
  ·subst c6
   have H1 : ((shutterref10_Copy.f A B s D E F).bind fun d => ((keys_Do.f k A B s D E F af ag).bind fun i => (if i.2.2.2.2.2.2.2.1.isNone = true then (shutterlaw17_KeysKeeps.l0 k 0 A B s D E F d.1 d.2.1 d.2.2.1 d.2.2.2.1 d.2.2.2.2.1 d.2.2.2.2.2 i.1 i.2.1 i.2.2.1 i.2.2.2.1 i.2.2.2.2.1 i.2.2.2.2.2.1) else ((shutterref10_Same.f k A B s D E F d.1 d.2.1 d.2.2.1 d.2.2.2.1 d.2.2.2.2.1 d.2.2.2.2.2).bind fun aa => (some aa))))) = some r := by rw [if_pos rfl] at H; exact H
   clear H
   have H := H1
   clear H1
   replace H := Option.bind_eq_some_iff.mp H
   obtain ⟨⟨O, P, L, Q, S, T⟩, c9, H⟩ := H
   replace H : ((keys_Do.f k A B s D E F af ag).bind fun i => (if i.2.2.2.2.2.2.2.1.isNone = true then (shutterlaw17_KeysKeeps.l0 k 0 A B s D E F O P L Q S T i.1 i.2.1 i.2.2.1 i.2.2.2.1 i.2.2.2.2.1 i.2.2.2.2.2.1) else ((shutterref10_Same.f k A B s D E F O P L Q S T).bind fun aa => (some aa)))) = some r := H
   have A7 := Z c9
   clear c9
   replace H := Option.bind_eq_some_iff.mp H
   obtain ⟨⟨ah, ai, au, aj, ak, al, bn, bo, bp⟩, da, H⟩ := H
   replace H : (if bo.isNone = true then (shutterlaw17_KeysKeeps.l0 k 0 A B s D E F O P L Q S T ah ai au aj ak al) else ((shutterref10_Same.f k A B s D E F O P L Q S T).bind fun aa => (some aa))) = some r := H
   have A8 := Z da
   clear da
   rcases bo with _ | a9
   ·have H1 : (shutterlaw17_KeysKeeps.l0 k 0 A B s D E F O P L Q S T ah ai au aj ak al) = some r := by rw [if_pos (show (none : Option Er).isNone = true by rfl)] at H; exact H
    clear H
    have H := H1
    clear H1
    try simp only [errW_none, errW_some]
    have H' := Z H
    clear H
    go_enter Tryd.func16, Tryd.ntmps16
    go_wp2_with (first | ((with_reducible refine gate_dst (N := 2) rfl ?_); refine bx_ 2 24 #[.int .i64 A, .int .i64 B, .slice av s.length aw, .int .i64 D, .bool E, .bool F] ?_; intro X hg w9 hbox hb; have a := Z (hbox); have aO := Z (ln_ hg : w.heap.size ≤ X); have bb := aO; replace HB := bs_ hb; clear hb hbox hg) | ((with_reducible refine gate_dst (N := 3) rfl ?_); refine bx_ 3 58 #[.int .i64 af, .int .u8 ag] ?_; intro Y hg hu hbox hb; have b := Z (hbox); have aP := Z (ln_ hg : w.heap.size ≤ Y); have bc := aP; replace HB := bs_ hb; have an := nl' a hg; have ap := ng' a hg; replace a := kb' a hb; clear hb hbox hg) | ((with_reducible refine gate_callee (f := 41) rfl ?_); refine goesL_ (some 10) rfl rfl Tryd.func41 (by kernel_rfl) rfl #[] rfl ag_ ?_; (with_reducible refine (shutterlaw17_awake.calls k  true _ ?sideG A3.out).mono ?_); (case sideG => exact laidG_below HG.out bl_ rfl); rintro e hv ⟨rfl, hb⟩; refine ⟨_, rfl, ?_⟩; replace a := kb' a hb; replace b := kb' b hb; replace HB := bs_ hb; clear hb; have gg := an.out; have gD := ap.out; obtain ⟨bs, bt, bu, bv, bw, bx, bZ, b0, b1, b2, b3, b4⟩ := cells6 a.out) | (go_at_call 18; (with_reducible refine (shutterref10_Few.calls k A B _ _ s D E F true _ ?side1 ?side2 A5.out).mono ?_); (case side1 => repeat (first | exact (Kd.C_below aE.out HB.out) | (with_reducible apply pC))); (case side2 => exact aD.out); rintro e hx ⟨rfl, hb⟩; replace a := kb' a hb; replace b := kb' b hb; replace HB := bs_ hb; clear hb; obtain ⟨bz, bA, bB, bC, bD, bE, b5, b6, b7, b8, b9, ca⟩ := cells6 a.out) | ((with_reducible refine gate_callee (f := 23) rfl ?_); refine goesL_ (some 19) rfl rfl Tryd.func23 (by kernel_rfl) rfl #[.agg #[.int .i64 A, .int .i64 B, .slice av s.length aw, .int .i64 D, .bool E, .bool F]] rfl ag_ ?_; (with_reducible refine (shutterref10_Copy.calls A B _ _ s D E F O P L Q S T _ ?side1 ?side2 A7.out).mono ?_); (case side1 => repeat (first | exact (Kd.C_below aE.out HB.out) | (with_reducible apply pC))); (case side2 => exact aD.out); rintro e hy ⟨c3, rfl, aN, hb⟩; refine ⟨_, rfl, ?_⟩; have q := Z (Kd.R_lower aN (below_size bl_)); replace a := kb' a hb; replace b := kb' b hb; replace HB := bs_ hb; clear hb aN) | ((with_reducible refine gate_dst (N := 5) rfl ?_); refine bx_ 5 24 #[.int .i64 0, .int .i64 0, .slice none 0 0, .int .i64 0, .bool false, .bool false] ?_; intro J hg ge hbox hb; replace q := rb' q hb; have m := Z (hbox); have aV := Z (ln_ hg : w.heap.size ≤ J); have cz := aV; replace HB := bs_ hb; have ao := nl' a hg; have aB := ng' a hg; replace a := kb' a hb; have aq := nl' b hg; have aC := ng' b hg; replace b := kb' b hb; clear hb hbox hg; have gh := aB.out; have gE := ao.out; have gi := aC.out; have gF := aq.out; obtain ⟨bF, bG, bH, bI, bJ, bK, cb, cc, cd, ce, cf, cg⟩ := cells6 m.out; obtain ⟨aZ, a1, dg⟩ := Kd.R_slice q.out; subst dg) | ((with_reducible refine gate_store (t := 24) (p := 5) rfl ?_); refine sx_ 24 5 ((((((ge.setCell ⟨J, 0, none⟩ (.int .i64 O)).setCell ⟨J, 1, none⟩ (.int .i64 P)).setCell ⟨J, 2, none⟩ (.slice aZ L.length a1)).setCell ⟨J, 3, none⟩ (.int .i64 Q)).setCell ⟨J, 4, none⟩ (.bool S)).setCell ⟨J, 5, none⟩ (.bool T)) ?_; intro be hw; replace q : Aside0 (Kd.R k35 35 be w.heap.size (fun _ => True) (.slice aZ L.length a1) L) := ⟨(by rw [hw]; exact (by (with_reducible repeat apply pR); exact R_off q.out m.out (by decide) off2_))⟩; replace a : Aside0 (be.heap[X]? = some (.cells #[.int .i64 A, .int .i64 B, .slice av s.length aw, .int .i64 D, .bool E, .bool F] 24 (0, 0))) := ⟨(by rw [hw]; exact (by (with_reducible repeat apply pK); exact blk_off a.out ao.out off2_))⟩; replace b : Aside0 (be.heap[Y]? = some (.cells #[.int .i64 af, .int .u8 ag] 58 (0, 0))) := ⟨(by rw [hw]; exact (by (with_reducible repeat apply pK); exact blk_off b.out aq.out off2_))⟩; replace m : Aside0 (be.heap[J]? = some (.cells #[.int .i64 O, .int .i64 P, .slice aZ L.length a1, .int .i64 Q, .bool S, .bool T] 24 (0, 0))) := ⟨by rw [hw]; exact (put6 m.out)⟩; replace HB : Aside0 (Below w.heap.size w be) := ⟨by rw [hw]; exact bl_⟩; clear hw; obtain ⟨bL, bM, bN, bO, bP, bQ, ch, ci, cj, ck, cl, cm⟩ := cells6 a.out; obtain ⟨bR, bS, cn, co⟩ := cells2 b.out) | ((with_reducible refine gate_callee (f := 42) rfl ?_); refine goesL_ (some 23) rfl rfl Tryd.func42 (by kernel_rfl) rfl #[.agg #[.int .i64 A, .int .i64 B, .slice av s.length aw, .int .i64 D, .bool E, .bool F], .agg #[.int .i64 af, .int .u8 ag]] rfl ag_ ?_; (with_reducible refine (keys_Do.callsN k A B (fun k_ => k_ < w.heap.size) _ _ s D E F af ag ah ai au aj ak al bn bp _ ?side1 A8.out).mono ?_); (case side1 => exact Kd.V_mk aD.out (Kd.F_below (Kd.C_F k35_heap aE.out) bl_)); rintro e hz ⟨br, c5, rfl, aN, bd, hb⟩; refine ⟨_, rfl, ?_⟩; have ae := Z (Kd.R_lower (Kd.R_new' (Kd.R_mono (ok' := fun k_ => True) aN (fun _ hk_ => trivial)) (Kd.R_lt (by (with_reducible repeat apply pR); exact q.out))) (below_size bl_)); have ax := Z (Kd.V_lower (Kd.V_mono (ok' := fun k_ => some k_ ≠ (br : Value).ownBlock ∧ some k_ ≠ (.slice aZ L.length a1 : Value).ownBlock ∧ k_ ≠ X ∧ k_ ≠ Y ∧ k_ ≠ J) bd (fun k_ hk_ => ⟨hk_.2, Or.elim hk_.1 (fun hs_ => fun e_ => Nat.not_le.2 hs_ (Kd.R_base q.out k_ e_.symm)) (fun hn_ => (Kd.fresh' (Kd.R_lt (by (with_reducible repeat apply pR); exact q.out)) k_ hn_)), Or.elim hk_.1 (fun hs_ => fun e_ => Nat.not_le.2 hs_ (by rw [e_]; exact aO.out)) (fun hn_ => (fb a.out k_ hn_)), Or.elim hk_.1 (fun hs_ => fun e_ => Nat.not_le.2 hs_ (by rw [e_]; exact aP.out)) (fun hn_ => (fb b.out k_ hn_)), Or.elim hk_.1 (fun hs_ => fun e_ => Nat.not_le.2 hs_ (by rw [e_]; exact aV.out)) (fun hn_ => (fb m.out k_ hn_))⟩)) (below_size bl_)); replace q := Z (Kd.R_elder' (by (with_reducible repeat apply pR); exact q.out) (Kd.R_base aN) hb); replace a := kb' a hb; replace b := kb' b hb; replace m := kb' m hb; replace HB := bs_ hb; clear hb aN bd; (try simp only [errW_none, errW_some])) | ((with_reducible refine gate_dst (N := 6) rfl ?_); refine bx_ 6 24 #[.int .i64 0, .int .i64 0, .slice none 0 0, .int .i64 0, .bool false, .bool false] ?_; intro l hg hA hbox hb; replace q := rb' q hb; replace ae := rb' ae hb; replace ax := Z (ve ax.out hg hb); have K := Z (hbox); have cB := Z (ln_ hg : w.heap.size ≤ l); have cA := cB; replace HB := bs_ hb; have ab := nl' a hg; have ay := ng' a hg; replace a := kb' a hb; have ac := nl' b hg; have az := ng' b hg; replace b := kb' b hb; have ad := nl' m hg; have aA := ng' m hg; replace m := kb' m hb; clear hb hbox hg; have gj := ay.out; have gG := ab.out; have gl := az.out; have gH := ac.out; have gm := aA.out; have gI := ad.out; obtain ⟨bT, bU, bV, bW, bX, bY, cp, cq, cr, ct, cu, cv⟩ := cells6 K.out; obtain ⟨bg, bi, dh⟩ := Kd.R_slice ae.out; subst dh))
    go_loopg [9] k (fun kq v9 w' => ∃ (G : Int) (am : List (S35)) (u : List (S35)) (u1730002 : Value) (u1744002 : Value), v9 = .int .i64 G ∧ Aside0 (shutterlaw17_KeysKeeps.l0 kq G A B s D E F O P am Q S T ah ai u aj ak al = some r) ∧ Aside0 (kq ≤ k) ∧ Aside0 (Kd.R k35 35 w' w.heap.size (fun k_ => some k_ ≠ (u1744002 : Value).ownBlock) u1730002 am) ∧ Aside0 (Kd.R k35 35 w' w.heap.size (fun k_ => some k_ ≠ (u1730002 : Value).ownBlock) u1744002 u) ∧ Aside0 (w'.heap[X]? = some (.cells #[.int .i64 A, .int .i64 B, (.slice av s.length aw), .int .i64 D, .bool E, .bool F] 24 (0, 0))) ∧ Aside0 (w'.heap[Y]? = some (.cells #[.int .i64 af, .int .u8 ag] 58 (0, 0))) ∧ Aside0 (w'.heap[J]? = some (.cells #[.int .i64 O, .int .i64 P, u1730002, .int .i64 Q, .bool S, .bool T] 24 (0, 0))) ∧ Aside0 (w'.heap[l]? = some (.cells #[.int .i64 ah, .int .i64 ai, u1744002, .int .i64 aj, .bool ak, .bool al] 24 (0, 0))) ∧ Aside0 (Below w.heap.size w w'))
    case atStart => exact ⟨(0), (L), (au), (.slice aZ L.length a1), (.slice bg au.length bi), (dn_), H', ⟨Nat.le_refl _⟩, ⟨by (with_reducible repeat apply pR); exact Kd.R_mono (f6R l (Kd.R_types q.out K.out (by decide)) (fun _ hk => hk.2)) (fun _ hk => hk.1.2)⟩, ⟨by (with_reducible repeat apply pR); exact Kd.R_mono (f6R l (Kd.R_types ae.out K.out (by decide)) (fun _ hk => hk.2)) (fun _ hk => hk.1.2)⟩, ⟨by (with_reducible repeat apply pK); exact blk_off a.out ab.out off2_⟩, ⟨by (with_reducible repeat apply pK); exact blk_off b.out ac.out off2_⟩, ⟨by (with_reducible repeat apply pK); exact blk_off m.out ad.out off2_⟩, ⟨put6 K.out⟩, ⟨bl_⟩⟩
    case round =>
     clear H'
     clear bs bt bu bv bw bx bz bA bB bC bD bE bF bG bH bI bJ bK bL bM bN bO bP bQ bR bS bT bU bV bW bX bY bZ b0 b1 b2 b3 b4 b5 b6 b7 b8 b9 ca cb cc cd ce cf cg ch ci cj ck cl cm cn co cp cq cr ct cu cv
     obtain ⟨G, am, u, u1730002, u1744002, rfl, HA, dc, HO_1730002, HO_1744002, a, b, m, K, HB⟩ := hrel
     cases gk with
     | zero => exact absurd HA.out (by simp [shutterlaw17_KeysKeeps.l0])
     | succ k1 =>
      have H := HA.out
      clear HA
      simp only [shutterlaw17_KeysKeeps.l0] at H
      by_cases a8 : G < (u.length : Int)
      ·rw [if_pos a8] at H
       have cZ : decide (G < (u.length : Int)) = true := decide_eq_true a8
       clear a8
       by_cases bj : 0 ≤ G
       ·rw [if_pos bj] at H
        have gf : decide (0 ≤ G) = true := decide_eq_true bj
        clear bj
        obtain ⟨ba, aR⟩ : ∃ y_ : List (S35), y_ = (u.set (G : Int).toNat (⟨false, (⟨false, false, 0, false⟩ : S33), 7⟩ : S35)) := ⟨_, rfl⟩
        replace H : (shutterlaw17_KeysKeeps.l0 k1 (wrap64 (G + 1)) A B s D E F O P am Q S T ah ai ba aj ak al) = some r := by first | (rw [aR]; with_reducible exact H) | (have cC := (Option.bind_some _ _).symm.trans H; rw [aR]; with_reducible exact cC) | (have cC := (Option.bind_some _ _).symm.trans H; with_reducible exact cC) | with_reducible exact H | (rw [aR]; exact H) | exact H
        have cF := Z aR
        clear aR
        have H' := Z H
        clear H
        have gn := ay.out
        have gJ := ab.out
        have go := az.out
        have gK := ac.out
        have gp := aA.out
        have gL := ad.out
        obtain ⟨dp, dq, dr, ds, dt, du, eB, eC, eD, eE, eF, eG⟩ := cells6 K.out
        obtain ⟨gZ, aX, di⟩ := Kd.R_slice HO_1744002.out
        subst di
        have p34 : 0 ≤ (G : Int) := od_
        have cW : (G : Int) < ((u.length : Int) : Int) := od_
        obtain ⟨W, g5, cG, cH, dn, g4, cD⟩ := Kd.R_form HO_1744002.out (by omega)
        (first | cases cG | (injection cG with ea_ en_ ec_; (first | subst ea_ | (injection ea_ with ea_; subst ea_)); subst ec_; clear en_))
        have aW := Z cH
        have g1 := Z cD
        clear cH dn cD
        obtain ⟨g2, c0, cI, aJ, aK⟩ := Kd.R_elem HO_1744002.out z35 (G : Int) p34 cW
        obtain rfl := k35_openM cI
        have fY : wr.cell? ⟨W, (G : Int).toNat * 6, none⟩ = some (.bool ((rd_T35 u G).f0)) := aJ 0 _ rfl
        have fZ : wr.cell? ⟨W, (G : Int).toNat * 6 + 1, none⟩ = some (.bool ((rd_T35 u G).f1.f0)) := aJ 1 _ rfl
        have ga : wr.cell? ⟨W, (G : Int).toNat * 6 + 2, none⟩ = some (.bool ((rd_T35 u G).f1.f1)) := aJ 2 _ rfl
        have gb : wr.cell? ⟨W, (G : Int).toNat * 6 + 3, none⟩ = some (.int .i64 ((rd_T35 u G).f1.f2)) := aJ 3 _ rfl
        have gc : wr.cell? ⟨W, (G : Int).toNat * 6 + 4, none⟩ = some (.bool ((rd_T35 u G).f1.f3)) := aJ 4 _ rfl
        have gd : wr.cell? ⟨W, (G : Int).toNat * 6 + 5, none⟩ = some (.int .u8 ((rd_T35 u G).f2)) := aJ 5 _ rfl
        have fS : wr.frozen? ⟨W, (G : Int).toNat * 6, none⟩ = false := aK 0
        have fT : wr.frozen? ⟨W, (G : Int).toNat * 6 + 1, none⟩ = false := aK 1
        have fU : wr.frozen? ⟨W, (G : Int).toNat * 6 + 2, none⟩ = false := aK 2
        have fV : wr.frozen? ⟨W, (G : Int).toNat * 6 + 3, none⟩ = false := aK 3
        have fW : wr.frozen? ⟨W, (G : Int).toNat * 6 + 4, none⟩ = false := aK 4
        have fX : wr.frozen? ⟨W, (G : Int).toNat * 6 + 5, none⟩ = false := aK 5
        clear c0 aJ aK cI
        replace p34 := eq_true p34
        replace cW := eq_true cW
        have cE := Z (show Kd.R k35 35 wr w.heap.size (fun k_ => some k_ ≠ (u1730002 : Value).ownBlock) (.slice (some ⟨W, 0, none⟩) u.length aX) u from (by (with_reducible repeat apply pR); exact HO_1744002.out))
        obtain ⟨g3, bl, cJ, aG, aL⟩ := Kd.R_elem cE.out z35 (G : Int) (od_) (by have h_ : (G : Int) < ((u.length : Int) : Int) := od_; first | exact h_ | (have e_ := (Kd.R_reads' HO_1744002.out).1; omega) | simpa using h_)
        obtain rfl := k35_openM cJ
        have bh := Kd.R_seg cE.out (G : Int) (od_) (by have h_ : (G : Int) < ((u.length : Int) : Int) := od_; first | exact h_ | (have e_ := (Kd.R_reads' HO_1744002.out).1; omega) | simpa using h_) (seg := [.bool false, .bool false, .bool false, .int .i64 0, .bool false, .int .u8 7]) (j := 0) bl aG (show 6 ≤ 6 from by decide) (x' := (⟨false, (⟨false, false, 0, false⟩ : S33), 7⟩ : S35)) (k35_mkM _ _ _ (⟨false, (⟨false, false, 0, false⟩ : S33), 7⟩ : S35) ) (fun _ hk => hk)
        have cQ := aG 0 _ rfl
        (try simp only [show (k35).sz = 6 from rfl, Nat.mul_one, Nat.add_zero] at cQ)
        have cK := aL 0
        (try simp only [show (k35).sz = 6 from rfl, Nat.mul_one, Nat.add_zero] at cK)
        have cR := aG 1 _ rfl
        (try simp only [show (k35).sz = 6 from rfl, Nat.mul_one, Nat.add_zero] at cR)
        have cL := aL 1
        (try simp only [show (k35).sz = 6 from rfl, Nat.mul_one, Nat.add_zero] at cL)
        have cS := aG 2 _ rfl
        (try simp only [show (k35).sz = 6 from rfl, Nat.mul_one, Nat.add_zero] at cS)
        have cM := aL 2
        (try simp only [show (k35).sz = 6 from rfl, Nat.mul_one, Nat.add_zero] at cM)
        have cT := aG 3 _ rfl
        (try simp only [show (k35).sz = 6 from rfl, Nat.mul_one, Nat.add_zero] at cT)
        have cN := aL 3
        (try simp only [show (k35).sz = 6 from rfl, Nat.mul_one, Nat.add_zero] at cN)
        have cU := aG 4 _ rfl
        (try simp only [show (k35).sz = 6 from rfl, Nat.mul_one, Nat.add_zero] at cU)
        have cO := aL 4
        (try simp only [show (k35).sz = 6 from rfl, Nat.mul_one, Nat.add_zero] at cO)
        have cV := aG 5 _ rfl
        (try simp only [show (k35).sz = 6 from rfl, Nat.mul_one, Nat.add_zero] at cV)
        have cP := aL 5
        (try simp only [show (k35).sz = 6 from rfl, Nat.mul_one, Nat.add_zero] at cP)
        clear bl aG aL cJ
        go_wp2_with (first | ((with_reducible refine gate_store (t := 35) (p := 40) rfl ?_); refine sx_ 35 40 ((((((wr.setCell ⟨W, (G : Int).toNat * 6, none⟩ (.bool false)).setCell ⟨W, (G : Int).toNat * 6 + 1, none⟩ (.bool false)).setCell ⟨W, (G : Int).toNat * 6 + 2, none⟩ (.bool false)).setCell ⟨W, (G : Int).toNat * 6 + 3, none⟩ (.int .i64 0)).setCell ⟨W, (G : Int).toNat * 6 + 4, none⟩ (.bool false)).setCell ⟨W, (G : Int).toNat * 6 + 5, none⟩ (.int .u8 7)) ?_; intro cX hw; have hg : wr.grownBy cX (some W) := (by rw [hw]; exact bh.2); have hp_ : Kd.R k35 35 cX w.heap.size (fun k_ => some k_ ≠ (u1730002 : Value).ownBlock) (.slice (some ⟨W, 0, none⟩) u.length aX) ba := (by rw [hw, cF.out]; exact bh.1); clear bh; replace HO_1730002 := Z (Kd.R_after (v := (.slice (some ⟨W, 0, none⟩) u.length aX)) (v1 := (.slice (some ⟨W, 0, none⟩) u.length aX)) (ok := (fun _ => True)) (by (with_reducible repeat apply pR); exact Kd.R_mono HO_1730002.out (fun _ hk => ⟨trivial, hk⟩)) hg (.inl rfl)); replace a := Z (blk_grown (g := X) (o := .cells #[.int .i64 A, .int .i64 B, .slice av s.length aw, .int .i64 D, .bool E, .bool F] 24 (0, 0)) (vK a.out) hg (Kd.R_ne HO_1744002.out a.out (by decide))); replace b := Z (blk_grown (g := Y) (o := .cells #[.int .i64 af, .int .u8 ag] 58 (0, 0)) (vK b.out) hg (Kd.R_ne HO_1744002.out b.out (by decide))); replace m := Z (blk_grown (g := J) (o := .cells #[.int .i64 O, .int .i64 P, u1730002, .int .i64 Q, .bool S, .bool T] 24 (0, 0)) (vK m.out) hg (Kd.R_ne HO_1744002.out m.out (by decide))); replace K := Z (blk_grown (g := l) (o := .cells #[.int .i64 ah, .int .i64 ai, .slice (some ⟨W, 0, none⟩) u.length aX, .int .i64 aj, .bool ak, .bool al] 24 (0, 0)) (vK K.out) hg (Kd.R_ne HO_1744002.out K.out (by decide))); replace HO_1744002 := Z (hp_); replace HB := Z ((by rw [hw]; exact below_set (below_set (below_set (below_set (below_set (below_set (HB.out) aW.out) aW.out) aW.out) aW.out) aW.out) aW.out : Below w.heap.size w cX)); clear hg hw hp_))
        go_roundg k1
        case measure => have := dc.out; omega
        case rel => exact ⟨(wrap64 (G + 1)), (am), (ba), (u1730002), (.slice (some ⟨W, 0, none⟩) u.length aX), (dn_), H', ⟨by have := dc.out; omega⟩, ⟨by (with_reducible repeat apply pR); exact Kd.R_mono HO_1730002.out (fun _ hk => hk.2)⟩, ⟨by (with_reducible repeat apply pR); exact HO_1744002.out⟩, ⟨vK a.out⟩, ⟨vK b.out⟩, ⟨vK m.out⟩, ⟨vK K.out⟩, ⟨bl_⟩⟩
       ·rw [if_neg bj] at H
        exact absurd H (by simp)
      ·rw [if_neg a8] at H
       have cZ : decide (G < (u.length : Int)) = false := decide_eq_false a8
       clear a8
       replace H := Option.bind_eq_some_iff.mp H
       obtain ⟨bq, cw, H⟩ := H
       replace H : (some bq) = some r := H
       have fO := Z cw
       clear cw
       obtain rfl := Option.some.inj H
       have gq := ay.out
       have gM := ab.out
       have gr := az.out
       have gN := ac.out
       have gs := aA.out
       have gO := ad.out
       obtain ⟨dv, dw, dx, dy, dz, dA, eH, eI, eJ, eK, eL, eM⟩ := cells6 K.out
       obtain ⟨g0, g6, dj⟩ := Kd.R_slice HO_1744002.out
       subst dj
       have gt := an.out
       have gP := ap.out
       have gu := ao.out
       have gQ := aB.out
       obtain ⟨dB, dC, dD, dE, dF, dG, eN, eO, eP, eQ, eR, eS⟩ := cells6 a.out
       have gv := aC.out
       have gR := aq.out
       obtain ⟨dH, dI, dJ, dK, dL, dM, eT, eU, eV, eW, eX, eY⟩ := cells6 m.out
       obtain ⟨de, df, dk⟩ := Kd.R_slice HO_1730002.out
       subst dk
       go_wp2_with (first | ((with_reducible refine gate_callee (f := 24) rfl ?_); refine goesL_ (some 43) rfl rfl Tryd.func24 (by kernel_rfl) rfl #[.agg #[.int .i64 A, .int .i64 B, .slice av s.length aw, .int .i64 D, .bool E, .bool F], .agg #[.int .i64 O, .int .i64 P, .slice de am.length df, .int .i64 Q, .bool S, .bool T]] rfl ag_ ?_; (with_reducible refine (shutterref10_Same.calls k1 A B _ _ s D E F O P _ _ am Q S T bq _ ?side1 ?side2 ?side3 ?side4 fO.out).mono ?_); (case side1 => repeat (first | exact (Kd.C_below aE.out HB.out) | (with_reducible apply pC))); (case side2 => exact aD.out); (case side3 => repeat (first | exact (Kd.R_reads' HO_1730002.out).2.2 | (with_reducible apply pC))); (case side4 => exact (Kd.R_reads' HO_1730002.out).2.1); rintro e hB ⟨rfl, hb⟩; refine ⟨_, rfl, ?_⟩; replace HO_1730002 := rb' HO_1730002 hb; replace HO_1744002 := rb' HO_1744002 hb; replace a := kb' a hb; replace b := kb' b hb; replace m := kb' m hb; replace K := kb' K hb; replace HB := bs_ hb; clear hb))
       go_ret
       exact ⟨er_, bl_⟩
   ·have H1 : ((shutterref10_Same.f k A B s D E F O P L Q S T).bind fun aa => (some aa)) = some r := by rw [if_neg (show ¬ (some a9).isNone = true by simp)] at H; exact H
    clear H
    have H := H1
    clear H1
    try simp only [errW_none, errW_some]
    replace H := Option.bind_eq_some_iff.mp H
    obtain ⟨aa, cx, H⟩ := H
    replace H : (some aa) = some r := H
    have fP := Z cx
    clear cx
    obtain rfl := Option.some.inj H
    go_enter Tryd.func16, Tryd.ntmps16
    go_wp2_with (first | ((with_reducible refine gate_dst (N := 2) rfl ?_); refine bx_ 2 24 #[.int .i64 A, .int .i64 B, .slice av s.length aw, .int .i64 D, .bool E, .bool F] ?_; intro X hg hC hbox hb; have a := Z (hbox); have aO := Z (ln_ hg : w.heap.size ≤ X); have bb := aO; replace HB := bs_ hb; clear hb hbox hg) | ((with_reducible refine gate_dst (N := 3) rfl ?_); refine bx_ 3 58 #[.int .i64 af, .int .u8 ag] ?_; intro Y hg hD hbox hb; have b := Z (hbox); have aP := Z (ln_ hg : w.heap.size ≤ Y); have bc := aP; replace HB := bs_ hb; have an := nl' a hg; have ap := ng' a hg; replace a := kb' a hb; clear hb hbox hg) | ((with_reducible refine gate_callee (f := 41) rfl ?_); refine goesL_ (some 10) rfl rfl Tryd.func41 (by kernel_rfl) rfl #[] rfl ag_ ?_; (with_reducible refine (shutterlaw17_awake.calls k  true _ ?sideG A3.out).mono ?_); (case sideG => exact laidG_below HG.out bl_ rfl); rintro e hE ⟨rfl, hb⟩; refine ⟨_, rfl, ?_⟩; replace a := kb' a hb; replace b := kb' b hb; replace HB := bs_ hb; clear hb; have gw := an.out; have gS := ap.out; obtain ⟨dN, dO, dP, dQ, dR, dS, eZ, e0, e1, e2, e3, e4⟩ := cells6 a.out) | (go_at_call 18; (with_reducible refine (shutterref10_Few.calls k A B _ _ s D E F true _ ?side1 ?side2 A5.out).mono ?_); (case side1 => repeat (first | exact (Kd.C_below aE.out HB.out) | (with_reducible apply pC))); (case side2 => exact aD.out); rintro e hF ⟨rfl, hb⟩; replace a := kb' a hb; replace b := kb' b hb; replace HB := bs_ hb; clear hb; obtain ⟨dT, dU, dV, dW, dX, dY, e5, e6, e7, e8, e9, fa⟩ := cells6 a.out) | ((with_reducible refine gate_callee (f := 23) rfl ?_); refine goesL_ (some 19) rfl rfl Tryd.func23 (by kernel_rfl) rfl #[.agg #[.int .i64 A, .int .i64 B, .slice av s.length aw, .int .i64 D, .bool E, .bool F]] rfl ag_ ?_; (with_reducible refine (shutterref10_Copy.calls A B _ _ s D E F O P L Q S T _ ?side1 ?side2 A7.out).mono ?_); (case side1 => repeat (first | exact (Kd.C_below aE.out HB.out) | (with_reducible apply pC))); (case side2 => exact aD.out); rintro e hH ⟨c3, rfl, aN, hb⟩; refine ⟨_, rfl, ?_⟩; have q := Z (Kd.R_lower aN (below_size bl_)); replace a := kb' a hb; replace b := kb' b hb; replace HB := bs_ hb; clear hb aN) | ((with_reducible refine gate_dst (N := 5) rfl ?_); refine bx_ 5 24 #[.int .i64 0, .int .i64 0, .slice none 0 0, .int .i64 0, .bool false, .bool false] ?_; intro J hg w64 hbox hb; replace q := rb' q hb; have m := Z (hbox); have aV := Z (ln_ hg : w.heap.size ≤ J); have cz := aV; replace HB := bs_ hb; have ao := nl' a hg; have aB := ng' a hg; replace a := kb' a hb; have aq := nl' b hg; have aC := ng' b hg; replace b := kb' b hb; clear hb hbox hg; have gx := aB.out; have gT := ao.out; have gy := aC.out; have gU := aq.out; obtain ⟨dZ, d0, d1, d2, d3, d4, fc, fd, fe, ff, fg, fh⟩ := cells6 m.out; obtain ⟨aU, aQ, dl⟩ := Kd.R_slice q.out; subst dl) | ((with_reducible refine gate_store (t := 24) (p := 5) rfl ?_); refine sx_ 24 5 ((((((w64.setCell ⟨J, 0, none⟩ (.int .i64 O)).setCell ⟨J, 1, none⟩ (.int .i64 P)).setCell ⟨J, 2, none⟩ (.slice aU L.length aQ)).setCell ⟨J, 3, none⟩ (.int .i64 Q)).setCell ⟨J, 4, none⟩ (.bool S)).setCell ⟨J, 5, none⟩ (.bool T)) ?_; intro bf hw; replace q : Aside0 (Kd.R k35 35 bf w.heap.size (fun _ => True) (.slice aU L.length aQ) L) := ⟨(by rw [hw]; exact (by (with_reducible repeat apply pR); exact R_off q.out m.out (by decide) off2_))⟩; replace a : Aside0 (bf.heap[X]? = some (.cells #[.int .i64 A, .int .i64 B, .slice av s.length aw, .int .i64 D, .bool E, .bool F] 24 (0, 0))) := ⟨(by rw [hw]; exact (by (with_reducible repeat apply pK); exact blk_off a.out ao.out off2_))⟩; replace b : Aside0 (bf.heap[Y]? = some (.cells #[.int .i64 af, .int .u8 ag] 58 (0, 0))) := ⟨(by rw [hw]; exact (by (with_reducible repeat apply pK); exact blk_off b.out aq.out off2_))⟩; replace m : Aside0 (bf.heap[J]? = some (.cells #[.int .i64 O, .int .i64 P, .slice aU L.length aQ, .int .i64 Q, .bool S, .bool T] 24 (0, 0))) := ⟨by rw [hw]; exact (put6 m.out)⟩; replace HB : Aside0 (Below w.heap.size w bf) := ⟨by rw [hw]; exact bl_⟩; clear hw; obtain ⟨d5, d6, d7, d8, d9, ea, fi, fj, fk, fl, fm, fn⟩ := cells6 a.out; obtain ⟨eb, ec, fo, fp⟩ := cells2 b.out) | ((with_reducible refine gate_callee (f := 42) rfl ?_); refine goesL_ (some 23) rfl rfl Tryd.func42 (by kernel_rfl) rfl #[.agg #[.int .i64 A, .int .i64 B, .slice av s.length aw, .int .i64 D, .bool E, .bool F], .agg #[.int .i64 af, .int .u8 ag]] rfl ag_ ?_; (with_reducible refine (keys_Do.calls k A B (fun k_ => k_ < w.heap.size) _ _ s D E F af ag ah ai au aj ak al bn (some a9) bp _ ?side1 A8.out).mono ?_); (case side1 => exact Kd.V_mk aD.out (Kd.F_below (Kd.C_F k35_heap aE.out) bl_)); rintro e hI ⟨br, c5, rfl, aN, bd, hb⟩; refine ⟨_, rfl, ?_⟩; have ae := Z (Kd.V_lower (Kd.V_mono (ok' := fun k_ => some k_ ≠ (.slice aU L.length aQ : Value).ownBlock ∧ k_ ≠ X ∧ k_ ≠ Y ∧ k_ ≠ J) aN (fun k_ hk_ => ⟨Or.elim hk_ (fun hs_ => fun e_ => Nat.not_le.2 hs_ (Kd.R_base q.out k_ e_.symm)) (fun hn_ => (Kd.fresh' (Kd.R_lt (by (with_reducible repeat apply pR); exact q.out)) k_ hn_)), Or.elim hk_ (fun hs_ => fun e_ => Nat.not_le.2 hs_ (by rw [e_]; exact aO.out)) (fun hn_ => (fb a.out k_ hn_)), Or.elim hk_ (fun hs_ => fun e_ => Nat.not_le.2 hs_ (by rw [e_]; exact aP.out)) (fun hn_ => (fb b.out k_ hn_)), Or.elim hk_ (fun hs_ => fun e_ => Nat.not_le.2 hs_ (by rw [e_]; exact aV.out)) (fun hn_ => (fb m.out k_ hn_))⟩)) (below_size bl_)); have ax := Z (Kd.V_lower (Kd.V_mono (ok' := fun k_ => some k_ ≠ (.slice aU L.length aQ : Value).ownBlock ∧ k_ ≠ X ∧ k_ ≠ Y ∧ k_ ≠ J) bd (fun k_ hk_ => ⟨Or.elim hk_ (fun hs_ => fun e_ => Nat.not_le.2 hs_ (Kd.R_base q.out k_ e_.symm)) (fun hn_ => (Kd.fresh' (Kd.R_lt (by (with_reducible repeat apply pR); exact q.out)) k_ hn_)), Or.elim hk_ (fun hs_ => fun e_ => Nat.not_le.2 hs_ (by rw [e_]; exact aO.out)) (fun hn_ => (fb a.out k_ hn_)), Or.elim hk_ (fun hs_ => fun e_ => Nat.not_le.2 hs_ (by rw [e_]; exact aP.out)) (fun hn_ => (fb b.out k_ hn_)), Or.elim hk_ (fun hs_ => fun e_ => Nat.not_le.2 hs_ (by rw [e_]; exact aV.out)) (fun hn_ => (fb m.out k_ hn_))⟩)) (below_size bl_)); replace q := rb' q hb; replace a := kb' a hb; replace b := kb' b hb; replace m := kb' m hb; replace HB := bs_ hb; clear hb aN bd; (try simp only [errW_none, errW_some])) | ((with_reducible refine gate_dst (N := 6) rfl ?_); refine bx_ 6 24 #[.int .i64 0, .int .i64 0, .slice none 0 0, .int .i64 0, .bool false, .bool false] ?_; intro l hg hJ hbox hb; replace q := rb' q hb; replace ae := Z (ve ae.out hg hb); replace ax := Z (ve ax.out hg hb); have K := Z (hbox); have cB := Z (ln_ hg : w.heap.size ≤ l); have cA := cB; replace HB := bs_ hb; have ab := nl' a hg; have ay := ng' a hg; replace a := kb' a hb; have ac := nl' b hg; have az := ng' b hg; replace b := kb' b hb; have ad := nl' m hg; have aA := ng' m hg; replace m := kb' m hb; clear hb hbox hg; have gz := ay.out; have gV := ab.out; have gA := az.out; have gW := ac.out; have gB := aA.out; have gX := ad.out; obtain ⟨ed, ee, ef, eg, eh, ei, fq, fr, fs, ft, fu, fv⟩ := cells6 K.out; obtain ⟨a0, a2, dm⟩ := Kd.V_slice ae.out; subst dm; obtain ⟨ej, ek, el, em, en, eo, fw, fx, fy, fz, fA, fB⟩ := cells6 a.out; obtain ⟨ep, eq, er, es, et, eu, fC, fD, fE, fF, fG, fH⟩ := cells6 m.out) | ((with_reducible refine gate_callee (f := 24) rfl ?_); refine goesL_ (some 43) rfl rfl Tryd.func24 (by kernel_rfl) rfl #[.agg #[.int .i64 A, .int .i64 B, .slice av s.length aw, .int .i64 D, .bool E, .bool F], .agg #[.int .i64 O, .int .i64 P, .slice aU L.length aQ, .int .i64 Q, .bool S, .bool T]] rfl ag_ ?_; (with_reducible refine (shutterref10_Same.calls k A B _ _ s D E F O P _ _ L Q S T aa _ ?side1 ?side2 ?side3 ?side4 fP.out).mono ?_); (case side1 => exact Kd.C_below aE.out bl_); (case side2 => exact aD.out); (case side3 => refine (Kd.R_reads' (e := 35) (base := w.heap.size) (ok := fun k_ => True) (n := L.length) (c := aQ) ?_).2.2; exact (by (with_reducible repeat apply pR); exact (Kd.R_mono (f6R l (Kd.R_types q.out K.out (by decide)) (fun _ hk => hk.2)) (fun _ h_ => h_.1)))); (case side4 => exact (Kd.R_reads' q.out).2.1); rintro e hK ⟨rfl, hb⟩; refine ⟨_, rfl, ?_⟩; replace q := Z (Kd.R_below (by (with_reducible repeat apply pR); exact (Kd.R_mono (f6R l (Kd.R_types q.out K.out (by decide)) (fun _ hk => hk.2)) (fun _ h_ => h_.1))) hb); replace ae := Z (Kd.V_below (by (with_reducible repeat apply pV); exact (Kd.V_mono (f6V l (Kd.V_mono ae.out (fun k_ hk => (⟨hk, hk.2⟩ : _ ∧ k_ ≠ l))) (fun _ hk => hk.2)) (fun _ h_ => h_.1))) hb); replace ax := Z (Kd.V_below (by (with_reducible repeat apply pV); exact (Kd.V_mono (f6V l (Kd.V_mono ax.out (fun k_ hk => (⟨hk, hk.2⟩ : _ ∧ k_ ≠ l))) (fun _ hk => hk.2)) (fun _ h_ => h_.1))) hb); replace a := Z (blk_below (g := X) (o := .cells #[.int .i64 A, .int .i64 B, .slice av s.length aw, .int .i64 D, .bool E, .bool F] 24 (0, 0)) (by (with_reducible repeat apply pK); exact blk_off a.out ab.out off2_) hb); replace b := Z (blk_below (g := Y) (o := .cells #[.int .i64 af, .int .u8 ag] 58 (0, 0)) (by (with_reducible repeat apply pK); exact blk_off b.out ac.out off2_) hb); replace m := Z (blk_below (g := J) (o := .cells #[.int .i64 O, .int .i64 P, .slice aU L.length aQ, .int .i64 Q, .bool S, .bool T] 24 (0, 0)) (by (with_reducible repeat apply pK); exact blk_off m.out ad.out off2_) hb); replace K := Z (blk_below (g := l) (o := .cells #[.int .i64 ah, .int .i64 ai, .slice a0 au.length a2, .int .i64 aj, .bool ak, .bool al] 24 (0, 0)) (put6 K.out) hb); replace HB := bs_ hb; clear hb))
    go_ret
    exact ⟨er_, bl_⟩
  ·replace c6 := Bool.eq_false_iff.mpr c6
   subst c6
   have H1 : ((shutterlaw17_awake.f k).bind fun ar => (some ar)) = some r := by rw [if_neg (show ¬ (false = true) by decide)] at H; exact H
   clear H
   have H := H1
   clear H1
   replace H := Option.bind_eq_some_iff.mp H
   obtain ⟨ar, cy, H⟩ := H
   replace H : (some ar) = some r := H
   have db := Z cy
   clear cy
   obtain rfl := Option.some.inj H
   go_enter Tryd.func16, Tryd.ntmps16
   go_wp2_with (first | ((with_reducible refine gate_dst (N := 2) rfl ?_); refine bx_ 2 24 #[.int .i64 A, .int .i64 B, .slice av s.length aw, .int .i64 D, .bool E, .bool F] ?_; intro X hg hL hbox hb; have a := Z (hbox); have aO := Z (ln_ hg : w.heap.size ≤ X); have bb := aO; replace HB := bs_ hb; clear hb hbox hg) | ((with_reducible refine gate_dst (N := 3) rfl ?_); refine bx_ 3 58 #[.int .i64 af, .int .u8 ag] ?_; intro Y hg hM hbox hb; have b := Z (hbox); have aP := Z (ln_ hg : w.heap.size ≤ Y); have bc := aP; replace HB := bs_ hb; have an := nl' a hg; have ap := ng' a hg; replace a := kb' a hb; clear hb hbox hg) | ((with_reducible refine gate_callee (f := 41) rfl ?_); refine goesL_ (some 10) rfl rfl Tryd.func41 (by kernel_rfl) rfl #[] rfl ag_ ?_; (with_reducible refine (shutterlaw17_awake.calls k  true _ ?sideG A3.out).mono ?_); (case sideG => exact laidG_below HG.out bl_ rfl); rintro e hN ⟨rfl, hb⟩; refine ⟨_, rfl, ?_⟩; replace a := kb' a hb; replace b := kb' b hb; replace HB := bs_ hb; clear hb; have gC := an.out; have gY := ap.out; obtain ⟨ev, ew, ex, ey, ez, eA, fI, fJ, fK, fL, fM, fN⟩ := cells6 a.out) | (go_at_call 18; (with_reducible refine (shutterref10_Few.calls k A B _ _ s D E F false _ ?side1 ?side2 A5.out).mono ?_); (case side1 => repeat (first | exact (Kd.C_below aE.out HB.out) | (with_reducible apply pC))); (case side2 => exact aD.out); rintro e hO ⟨rfl, hb⟩; replace a := kb' a hb; replace b := kb' b hb; replace HB := bs_ hb; clear hb) | ((with_reducible refine gate_callee (f := 41) rfl ?_); refine goesL_ (some 17) rfl rfl Tryd.func41 (by kernel_rfl) rfl #[] rfl ag_ ?_; (with_reducible refine (shutterlaw17_awake.calls k  ar _ ?sideG db.out).mono ?_); (case sideG => exact laidG_below HG.out bl_ rfl); rintro e hP ⟨rfl, hb⟩; refine ⟨_, rfl, ?_⟩; replace a := kb' a hb; replace b := kb' b hb; replace HB := bs_ hb; clear hb))
   go_ret
   have e_ : ar = true := Option.some.inj (db.out.symm.trans A3.out)
   exact ⟨er_, bl_⟩
 ·replace c4 := Bool.eq_false_iff.mpr c4
  subst c4
  have H1 : (none) = some r := by rw [if_neg (show ¬ (false = true) by decide)] at H; exact H
  clear H
  have H := H1
  clear H1
  exact absurd H (by simp)
end Go.Proofs.YtggecanpjkpkiaaDoor.P
