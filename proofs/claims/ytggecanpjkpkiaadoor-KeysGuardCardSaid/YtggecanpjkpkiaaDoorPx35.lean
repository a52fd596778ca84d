/- pp.py and press2.py (wip/tools) wrote this text. -/
import Derived.Test.YtggecanpjkpkiaaDoorPx0
import Derived.Test.YtggecanpjkpkiaaDoorPxS
import Derived.Test.YtggecanpjkpkiaaDoorPx3
import Derived.Test.YtggecanpjkpkiaaDoorPx31
import Derived.Test.YtggecanpjkpkiaaDoorPx34
namespace Go.Proofs.YtggecanpjkpkiaaDoor.P
open Go.RowKit Go.Proofs.YtggecanpjkpkiaaDoorW.PrintWords Go.Proofs.YtggecanpjkpkiaaDoorW.PrintLast Go.Proofs.YtggecanpjkpkiaaDoorW.PrintMore
attribute [local go_sem] max2_int min2_int max_two min_two max_three min_three max_four min_four
attribute [local go_sem] Instr.field asAgg
set_option linter.unusedVariables false
set_option linter.unusedSimpArgs false

theorem V_ne_35 {α : Type} {d : Kd α} {e base g n c : Nat} {ok : Nat → Prop} {W : World} {ad : Addr} {xs : List α} (h : Kd.V d e W base ok (.slice (some ad) n c) xs) (hg : ∀ k, ok k → k ≠ g) (hn : 0 < n) (hs : 0 < d.sz) : ad.block ≠ g := by
 intro he
 have hl := (Kd.V_at h).1
 have hC : d.C { W with heap := W.heap.setIfInBounds g (.cells #[] 0) } (some ad) xs.length xs := (Kd.V_at h).2.2 _ (fun k hk _ => by simp [Ne.symm (hg k hk)])
 obtain ⟨ad', hea, hc⟩ := hC.2.2 (by omega)
 injection hea with hea
 subst hea
 obtain ⟨cl, hcl, _, hcell⟩ := hc 0 _ (List.getElem?_eq_getElem (by omega))
 have a := hcell 0 _ (List.getElem?_eq_getElem (by omega))
 rw [Nat.zero_mul, Nat.zero_add, Addr.add_zero'] at a
 subst he
 by_cases hlt : ad.block < W.heap.size <;> simp [World.cell?, hlt] at a
/-! ### keys_Do: function 42 -/
def keys_Do.f (k : Nat) (c : Int) (d : Int) (l : List (S35)) (e : Int) (g : Bool) (h : Bool) (i : Int) (j : Int) : Option (Int × Int × (List (S35)) × Int × Bool × Bool × Bool × Option Er × (List (S164))) := if i = 17 then ((keys_asks.f k c d l e g h j).bind fun a => (some (a.1, a.2.1, a.2.2.1, a.2.2.2.1, a.2.2.2.2.1, a.2.2.2.2.2.1, a.2.2.2.2.2.2.1, a.2.2.2.2.2.2.2.1, a.2.2.2.2.2.2.2.2))) else ((keys_plain.f k c d l e g h i j).bind fun b => (some (b.1, b.2.1, b.2.2.1, b.2.2.2.1, b.2.2.2.2.1, b.2.2.2.2.2.1, false, b.2.2.2.2.2.2.1, b.2.2.2.2.2.2.2)))
theorem keys_Do.mono : ∀ a0 a1 a b a4 c d e k, LeO (keys_Do.f k a0 a1 a b a4 c d e) (keys_Do.f (k + 1) a0 a1 a b a4 c d e) := by
 intro a0 a1 a b a4 c d e k
 unfold keys_Do.f
 repeat' first
   | (with_reducible exact keys_asks.mono _ _ _ _ _ _ _ _)
   | (with_reducible exact keys_plain.mono _ _ _ _ _ _ _ _ _)
   | (with_reducible exact LeO.refl _)
   | (with_reducible exact LeO.none _)
   | (with_reducible refine LeO.ite ?_ ?_)
   | (with_reducible refine LeO.bind ?_ (fun _ => ?_))
   | exact keys_asks.mono _ _ _ _ _ _ _ _
   | exact keys_plain.mono _ _ _ _ _ _ _ _ _
   | exact LeO.none _
   | refine LeO.ite ?_ ?_
   | refine LeO.bind ?_ (fun _ => ?_)
set_option maxHeartbeats 8000000 in
set_option maxRecDepth 100000 in
theorem keys_Do.calls (k : Nat) (Q : Int) (R : Int) (C : Nat → Prop) (ad : Option Addr) (ae : Nat) (z : List (S35)) (S : Int) (T : Bool) (U : Bool) (B : Int) (W : Int) (r1 : Int) (r2 : Int) (r3 : List (S35)) (r4 : Int) (r5 : Bool) (r6 : Bool) (r7 : Bool) (r8 : Option Er) (r9 : List (S164)) (w : World) (a0 : Kd.V k35 35 w w.heap.size (fun k_ => C k_) (.slice ad z.length ae) z) (h : keys_Do.f k Q R z S T U B W = some (r1, r2, r3, r4, r5, r6, r7, r8, r9)) :
  Calls Tryd.prog 42 #[.agg #[.int .i64 Q, .int .i64 R, .slice ad z.length ae, .int .i64 S, .bool T, .bool U], .agg #[.int .i64 B, .int .u8 W]] w fun e w' => ∃ a2 a3 : Value, e = .returned (.tuple #[.agg #[.int .i64 r1, .int .i64 r2, a2, .int .i64 r4, .bool r5, .bool r6], .bool r7, errW a3 r8]) ∧ Kd.V k35 35 w' w.heap.size (fun k_ => (C k_ ∨ w.heap.size ≤ k_)) a2 r3 ∧ Kd.V k164 164 w' w.heap.size (fun k_ => (C k_ ∨ w.heap.size ≤ k_)) a3 r9 ∧ Below w.heap.size w w' := by
 have cH := Tryd.underlying24
 have cI := Tryd.underlying58
 have d := Z (show Kd.V k35 35 w w.heap.size (fun k_ => (C k_ ∨ w.heap.size ≤ k_)) (.slice ad z.length ae) z from Kd.V_mono a0 (fun k_ hk => .inl hk))
 have HB := Z (Below.refl w.heap.size w)
 have H : (if B = 17 then ((keys_asks.f k Q R z S T U W).bind fun y => (some (y.1, y.2.1, y.2.2.1, y.2.2.2.1, y.2.2.2.2.1, y.2.2.2.2.2.1, y.2.2.2.2.2.2.1, y.2.2.2.2.2.2.2.1, y.2.2.2.2.2.2.2.2))) else ((keys_plain.f k Q R z S T U B W).bind fun E => (some (E.1, E.2.1, E.2.2.1, E.2.2.2.1, E.2.2.2.2.1, E.2.2.2.2.2.1, false, E.2.2.2.2.2.2.1, E.2.2.2.2.2.2.2)))) = some (r1, r2, r3, r4, r5, r6, r7, r8, r9) := h
 clear h
 by_cases c3 : B = 17
 ·rw [if_pos c3] at H
  have a4 : (B == 17) = true := beq_iff_eq.mpr c3
  have a5 : (B != 17) = false := bne_eq_false_iff_eq.mpr c3
  clear c3
  replace H := Option.bind_eq_some_iff.mp H
  obtain ⟨⟨ag, ah, ai, aj, ak, al, aA, aB, aC⟩, a1, H⟩ := H
  replace H : (some (ag, ah, ai, aj, ak, al, aA, aB, aC)) = some (r1, r2, r3, r4, r5, r6, r7, r8, r9) := H
  have A4 := Z a1
  clear a1
  simp only [Option.some.injEq, Prod.mk.injEq] at H
  obtain ⟨rfl, rfl, rfl, rfl, rfl, rfl, rfl, rfl, rfl⟩ := H
  go_enter Tryd.func42, Tryd.ntmps42
  go_wp2_with (first | ((with_reducible refine gate_dst (N := 2) rfl ?_); refine bx_ 2 24 #[.int .i64 Q, .int .i64 R, .slice ad z.length ae, .int .i64 S, .bool T, .bool U] ?_; intro r hg w5 hbox hb; replace d := Z (ve d.out hg hb); have b := Z (hbox); have aK := Z (ln_ hg : w.heap.size ≤ r); have aH := Z (ln_ hg : w.heap.size ≤ r); replace HB := Z (below_step bl_ hb); clear hb hbox hg) | ((with_reducible refine gate_dst (N := 3) rfl ?_); refine bx_ 3 58 #[.int .i64 B, .int .u8 W] ?_; intro s hg w6 hbox hb; replace d := Z (ve d.out hg hb); have c := Z (hbox); have aL := Z (ln_ hg : w.heap.size ≤ s); have aI := Z (ln_ hg : w.heap.size ≤ s); replace HB := Z (below_step bl_ hb); have J := Z (nl b.out hg); have L := Z (ng b.out hg); replace b := Z (kb b.out hb); clear hb hbox hg) | ((with_reducible refine gate_dst (N := 4) rfl ?_); refine bx_ 4 24 #[.int .i64 0, .int .i64 0, .slice none 0 0, .int .i64 0, .bool false, .bool false] ?_; intro a hg w7 hbox hb; replace d := Z (ve d.out hg hb); have g := Z (hbox); have aM := Z (ln_ hg : w.heap.size ≤ a); have aJ := Z (ln_ hg : w.heap.size ≤ a); replace HB := Z (below_step bl_ hb); have K := Z (nl b.out hg); have O := Z (ng b.out hg); replace b := Z (kb b.out hb); have M := Z (nl c.out hg); have P := Z (ng c.out hg); replace c := Z (kb c.out hb); clear hb hbox hg; have cD := L.out; have cF := J.out; have cE := M.out; have cG := P.out; obtain ⟨a8, a9, bH, bI⟩ := cells2 c.out; have cj := K.out; have cq := O.out; obtain ⟨ba, bb, bc, bd, be, bf, bJ, bK, bL, bM, bN, bO⟩ := cells6 b.out) | ((with_reducible refine gate_callee (f := 64) rfl ?_); refine goesL_ (some 15) rfl rfl Tryd.func64 (by kernel_rfl) rfl #[.agg #[.int .i64 Q, .int .i64 R, .slice ad z.length ae, .int .i64 S, .bool T, .bool U], .int .u8 W] rfl ag_ ?_; (with_reducible refine (keys_asks.calls k Q R (fun k_ => ((((C k_ ∨ w.heap.size ≤ k_) ∧ k_ ≠ r) ∧ k_ ≠ s) ∧ k_ ≠ a)) _ _ z S T U W ag ah ai aj ak al aA aB aC _ ?side1 A4.out).mono ?_); (case side1 => exact d.out); rintro e cJ ⟨cy, cz, rfl, aw, ax, hb⟩; refine ⟨_, rfl, ?_⟩; replace d := Z (vb d.out hb); have av := Z (Kd.V_lower (Kd.V_mono (ok' := fun k_ => (C k_ ∨ w.heap.size ≤ k_) ∧ k_ ≠ r ∧ k_ ≠ s ∧ k_ ≠ a) aw (fun k_ hk_ => hk_.elim (fun hs_ => ⟨hs_.1.1.1, hs_.1.1.2, hs_.1.2, hs_.2⟩) (fun hn_ => ⟨(ir_ hn_), (fb b.out k_ hn_), (fb c.out k_ hn_), (fb g.out k_ hn_)⟩))) (below_size bl_)); have aN := Z (Kd.V_lower (Kd.V_mono (ok' := fun k_ => (C k_ ∨ w.heap.size ≤ k_) ∧ k_ ≠ r ∧ k_ ≠ s ∧ k_ ≠ a) ax (fun k_ hk_ => hk_.elim (fun hs_ => ⟨hs_.1.1.1, hs_.1.1.2, hs_.1.2, hs_.2⟩) (fun hn_ => ⟨(ir_ hn_), (fb b.out k_ hn_), (fb c.out k_ hn_), (fb g.out k_ hn_)⟩))) (below_size bl_)); replace b := Z (kb b.out hb); replace c := Z (kb c.out hb); replace g := Z (kb g.out hb); replace HB := Z (below_step bl_ hb); (try clear hb); (try clear ci); (try clear hk); (try clear hi); (try clear aw); (try clear ax); (try simp only [errW_none, errW_some]); obtain ⟨bg, bh, bi, bj, bk, bl, bP, bQ, bR, bS, bT, bU⟩ := cells6 g.out; obtain ⟨ay, az, a6⟩ := Kd.V_slice av.out; subst a6))
  refine bodyPost_ret (results_ctt rfl _ _ a 24 #[.int .i64 ag, .int .i64 ah, .slice ay ai.length az, .int .i64 aj, .bool ak, .bool al] (0, 0) _ rfl (put6 g.out) Tryd.underlying24 rfl (by kernel_rfl)) rfl ?_
  exact ⟨_, _, er_, by (with_reducible repeat apply pV); exact Kd.V_mono (f6V a (Kd.V_mono av.out (fun k_ hk => (⟨hk, hk.2.2.2⟩ : _ ∧ k_ ≠ a))) (fun _ hk => hk.2)) (fun _ hk => hk.1.1), by (with_reducible repeat apply pV); exact Kd.V_mono (f6V a (Kd.V_mono aN.out (fun k_ hk => (⟨hk, hk.2.2.2⟩ : _ ∧ k_ ≠ a))) (fun _ hk => hk.2)) (fun _ hk => hk.1.1), bl_⟩
 ·rw [if_neg c3] at H
  have a4 : (B == 17) = false := beq_eq_false_iff_ne.mpr c3
  have a5 : (B != 17) = true := bne_iff_ne.mpr c3
  replace H := Option.bind_eq_some_iff.mp H
  obtain ⟨⟨u, A, D, F, I, X, aD, aE⟩, aF, H⟩ := H
  replace H : (some (u, A, D, F, I, X, false, aD, aE)) = some (r1, r2, r3, r4, r5, r6, r7, r8, r9) := H
  have cf := Z aF
  clear aF
  simp only [Option.some.injEq, Prod.mk.injEq] at H
  obtain ⟨rfl, rfl, rfl, rfl, rfl, rfl, rfl, rfl, rfl⟩ := H
  go_enter Tryd.func42, Tryd.ntmps42
  go_wp2_with (first | ((with_reducible refine gate_dst (N := 2) rfl ?_); refine bx_ 2 24 #[.int .i64 Q, .int .i64 R, .slice ad z.length ae, .int .i64 S, .bool T, .bool U] ?_; intro r hg cK hbox hb; replace d := Z (ve d.out hg hb); have b := Z (hbox); have aK := Z (ln_ hg : w.heap.size ≤ r); have aH := Z (ln_ hg : w.heap.size ≤ r); replace HB := Z (below_step bl_ hb); clear hb hbox hg) | ((with_reducible refine gate_dst (N := 3) rfl ?_); refine bx_ 3 58 #[.int .i64 B, .int .u8 W] ?_; intro s hg cL hbox hb; replace d := Z (ve d.out hg hb); have c := Z (hbox); have aL := Z (ln_ hg : w.heap.size ≤ s); have aI := Z (ln_ hg : w.heap.size ≤ s); replace HB := Z (below_step bl_ hb); have J := Z (nl b.out hg); have L := Z (ng b.out hg); replace b := Z (kb b.out hb); clear hb hbox hg) | ((with_reducible refine gate_dst (N := 4) rfl ?_); refine bx_ 4 24 #[.int .i64 0, .int .i64 0, .slice none 0 0, .int .i64 0, .bool false, .bool false] ?_; intro a hg cM hbox hb; replace d := Z (ve d.out hg hb); have g := Z (hbox); have aM := Z (ln_ hg : w.heap.size ≤ a); have aJ := Z (ln_ hg : w.heap.size ≤ a); replace HB := Z (below_step bl_ hb); have K := Z (nl b.out hg); have O := Z (ng b.out hg); replace b := Z (kb b.out hb); have M := Z (nl c.out hg); have P := Z (ng c.out hg); replace c := Z (kb c.out hb); clear hb hbox hg; have ck := L.out; have cr := J.out; have cl := M.out; have ct := P.out; obtain ⟨bm, bn, bV, bW⟩ := cells2 c.out; have cm := K.out; have cu := O.out; obtain ⟨bo, bp, bq, br, bs, bt, bX, bY, bZ, b0, b1, b2⟩ := cells6 b.out) | ((with_reducible refine gate_callee (f := 65) rfl ?_); refine goesL_ (some 22) rfl rfl Tryd.func65 (by kernel_rfl) rfl #[.agg #[.int .i64 Q, .int .i64 R, .slice ad z.length ae, .int .i64 S, .bool T, .bool U], .agg #[.int .i64 B, .int .u8 W]] rfl ag_ ?_; (with_reducible refine (keys_plain.calls k Q R (fun k_ => ((((C k_ ∨ w.heap.size ≤ k_) ∧ k_ ≠ r) ∧ k_ ≠ s) ∧ k_ ≠ a)) _ _ z S T U B W u A D F I X aD aE _ ?side1 cf.out).mono ?_); (case side1 => exact d.out); rintro e cN ⟨cA, cB, rfl, aw, ax, hb⟩; refine ⟨_, rfl, ?_⟩; replace d := Z (vb d.out hb); have aa := Z (Kd.V_lower (Kd.V_mono (ok' := fun k_ => (C k_ ∨ w.heap.size ≤ k_) ∧ k_ ≠ r ∧ k_ ≠ s ∧ k_ ≠ a) aw (fun k_ hk_ => hk_.elim (fun hs_ => ⟨hs_.1.1.1, hs_.1.1.2, hs_.1.2, hs_.2⟩) (fun hn_ => ⟨(ir_ hn_), (fb b.out k_ hn_), (fb c.out k_ hn_), (fb g.out k_ hn_)⟩))) (below_size bl_)); have af := Z (Kd.V_lower (Kd.V_mono (ok' := fun k_ => (C k_ ∨ w.heap.size ≤ k_) ∧ k_ ≠ r ∧ k_ ≠ s ∧ k_ ≠ a) ax (fun k_ hk_ => hk_.elim (fun hs_ => ⟨hs_.1.1.1, hs_.1.1.2, hs_.1.2, hs_.2⟩) (fun hn_ => ⟨(ir_ hn_), (fb b.out k_ hn_), (fb c.out k_ hn_), (fb g.out k_ hn_)⟩))) (below_size bl_)); replace b := Z (kb b.out hb); replace c := Z (kb c.out hb); replace g := Z (kb g.out hb); replace HB := Z (below_step bl_ hb); (try clear hb); (try clear ci); (try clear hk); (try clear hi); (try clear aw); (try clear ax); (try simp only [errW_none, errW_some])) | ((with_reducible refine gate_dst (N := 7) rfl ?_); refine bx_ 7 24 #[.int .i64 0, .int .i64 0, .slice none 0 0, .int .i64 0, .bool false, .bool false] ?_; intro i hg cO hbox hb; replace d := Z (ve d.out hg hb); replace aa := Z (ve aa.out hg hb); replace af := Z (ve af.out hg hb); have aG := Z (hbox); have ch := Z (ln_ hg : w.heap.size ≤ i); have cg := Z (ln_ hg : w.heap.size ≤ i); replace HB := Z (below_step bl_ hb); have ao := Z (nl b.out hg); have aq := Z (ng b.out hg); replace b := Z (kb b.out hb); have ap := Z (nl c.out hg); have ar := Z (ng c.out hg); replace c := Z (kb c.out hb); have j := Z (nl g.out hg); have au := Z (ng g.out hg); replace g := Z (kb g.out hb); clear hb hbox hg; have cn := aq.out; have cv := ao.out; have co := ar.out; have cw := ap.out; have cp := au.out; have cx := j.out; obtain ⟨bu, bv, bw, bx, bz, bA, b3, b4, b5, b6, b7, b8⟩ := cells6 aG.out; obtain ⟨Y, ab, a7⟩ := Kd.V_slice aa.out; subst a7; obtain ⟨bB, bC, bD, bE, bF, bG, b9, ca, cb, cc, cd, ce⟩ := cells6 g.out))
  refine bodyPost_ret (results_ctt rfl _ _ a 24 #[.int .i64 u, .int .i64 A, .slice Y D.length ab, .int .i64 F, .bool I, .bool X] (0, 0) _ rfl (by (with_reducible repeat apply pK); refine blk_put (cs := #[.int .i64 u, .int .i64 A, .slice Y D.length ab, .int .i64 F, .bool I, .bool false]) ?_ 5 _ rfl; (with_reducible repeat apply pK); refine blk_put (cs := #[.int .i64 u, .int .i64 A, .slice Y D.length ab, .int .i64 F, .bool false, .bool false]) ?_ 4 _ rfl; (with_reducible repeat apply pK); refine blk_put (cs := #[.int .i64 u, .int .i64 A, .slice Y D.length ab, .int .i64 0, .bool false, .bool false]) ?_ 3 _ rfl; (with_reducible repeat apply pK); refine blk_put (cs := #[.int .i64 u, .int .i64 A, .slice none 0 0, .int .i64 0, .bool false, .bool false]) ?_ 2 _ rfl; (with_reducible repeat apply pK); refine blk_put (cs := #[.int .i64 u, .int .i64 0, .slice none 0 0, .int .i64 0, .bool false, .bool false]) ?_ 1 _ rfl; (with_reducible repeat apply pK); refine blk_put (cs := #[.int .i64 0, .int .i64 0, .slice none 0 0, .int .i64 0, .bool false, .bool false]) ?_ 0 _ rfl; (with_reducible repeat apply pK); refine blk_far ?_ j.out _; (with_reducible repeat apply pK); refine blk_far ?_ j.out _; (with_reducible repeat apply pK); refine blk_far ?_ j.out _; (with_reducible repeat apply pK); refine blk_far ?_ j.out _; (with_reducible repeat apply pK); refine blk_far ?_ j.out _; (with_reducible repeat apply pK); refine blk_far ?_ j.out _; (with_reducible repeat apply pK); exact g.out) Tryd.underlying24 rfl (by kernel_rfl)) rfl ?_
  exact ⟨_, _, er_, by (with_reducible repeat apply pV); exact Kd.V_mono (f6V a (f6V i (Kd.V_mono (Kd.V_mono aa.out (fun k_ hk => (⟨hk, hk.2⟩ : _ ∧ k_ ≠ i))) (fun k_ hk => (⟨hk, hk.1.1.2.2.2⟩ : _ ∧ k_ ≠ a))) (fun _ hk => hk.1.2)) (fun _ hk => hk.2)) (fun _ hk => hk.1.1.1.1), by (with_reducible repeat apply pV); exact Kd.V_mono (f6V a (f6V i (Kd.V_mono (Kd.V_mono af.out (fun k_ hk => (⟨hk, hk.2⟩ : _ ∧ k_ ≠ i))) (fun k_ hk => (⟨hk, hk.1.1.2.2.2⟩ : _ ∧ k_ ≠ a))) (fun _ hk => hk.1.2)) (fun _ hk => hk.2)) (fun _ hk => hk.1.1.1.1), bl_⟩
/-! ### keys_Refused: function 63 -/
section
open Go.RowKit Go.Extern.Stop Go.Stop Go.Extern
/-! ### errors.Is of a number, or of a spot that bears one, and a number -/
theorem IS.equalIn (w : World) (d : Nat) {ti tn : TypeId} {ms : Array (String × TypeId)} {i : TypeInfo} {k : IntKind} (a b : Int)
  (hi : Tryd.prog.underlying ti = some (.interface ms)) (hn : Tryd.prog.underlying tn = some (.int k)) (hinfo : Tryd.prog.info? tn = some i) (hcomp : i.comparable = true) :
  (Op.equalIn (d + 2) ti (.iface tn (.int k a)) (.iface tn (.int k b))).run Tryd.prog w = .ok (a == b) w := by
 simp [Op.equalIn, run_underlying hi, run_underlying hn, typeInfo, hinfo, hcomp]
theorem IS.eql (w : World) {ti tn : TypeId} {ms : Array (String × TypeId)} {i : TypeInfo} {k : IntKind} (a b : Int)
  (hi : Tryd.prog.underlying ti = some (.interface ms)) (hn : Tryd.prog.underlying tn = some (.int k)) (hinfo : Tryd.prog.info? tn = some i) (hcomp : i.comparable = true) :
  (binOp .eql ti (.iface tn (.int k a)) (.iface tn (.int k b))).run Tryd.prog w = .ok (.bool (a == b)) w := by
 simp only [binOp]
 simp [Op.equal, Op.maxDepth, IS.equalIn w 9998 a b hi hn hinfo hcomp]
theorem IS.typeOf (v : Value) (w : World) : (Extern.ReflectliteType.typeOf #[.iface 52 v]).run Tryd.prog w = .ok (.iface 112 (.agg #[.pointer (some ⟨1, 52, none⟩)])) w := by kernel_rfl
theorem IS.comp (w : World) : ((Extern.ReflectliteType.method fun t => do Rtype.noPackHeld "Comparable" t; pure (.bool (← typeInfo t).comparable)) #[.agg #[.pointer (some ⟨1, 52, none⟩)]]).run Tryd.prog w = .ok (.bool true) w := by kernel_rfl
theorem IS.call (w : World) : (callFunc 129 #[.agg #[.pointer (some ⟨1, 52, none⟩)]]).run Tryd.prog w = .ok (.value (.bool true)) w := by
 rw [@run_callFunc_extern Tryd.prog 129 _ (Extern.ReflectliteType.method fun t => do Rtype.noPackHeld "Comparable" t; pure (.bool (← typeInfo t).comparable)) Tryd.func129 (by kernel_rfl) (by kernel_rfl) (by kernel_rfl) (by kernel_rfl), IS.comp]
 rfl
theorem IS.meth (v : Value) (w : World) : (Go.method 262 112 v "Comparable").run Tryd.prog w = .ok (129, v) w := by kernel_rfl
theorem IS.info : (Tryd.prog.info? 52).map (·.comparable) = some true := by kernel_rfl
theorem IS.noIsE (v : Value) (xT : TypeId) (w : World) : (Instr.typeAssert (.iface 52 v) xT 131 true).run Tryd.prog w = .ok (.tuple #[.nilIface, .bool false]) w := run_typeAssert_lacksB Tryd.underlying131 (by kernel_rfl) (by kernel_rfl) v xT w
theorem IS.noUnE (v : Value) (xT : TypeId) (w : World) : (Instr.typeAssert (.iface 52 v) xT 120 true).run Tryd.prog w = .ok (.tuple #[.nilIface, .bool false]) w := run_typeAssert_lacksB Tryd.underlying120 (by kernel_rfl) (by kernel_rfl) v xT w
theorem IS.noUnsE (v : Value) (xT : TypeId) (w : World) : (Instr.typeAssert (.iface 52 v) xT 122 true).run Tryd.prog w = .ok (.tuple #[.nilIface, .bool false]) w := run_typeAssert_lacksB Tryd.underlying122 (by kernel_rfl) (by kernel_rfl) v xT w
theorem IS.noIsS (v : Value) (xT : TypeId) (w : World) : (Instr.typeAssert (.iface 76 v) xT 131 true).run Tryd.prog w = .ok (.tuple #[.nilIface, .bool false]) w := run_typeAssert_lacksB Tryd.underlying131 (by kernel_rfl) (by kernel_rfl) v xT w
theorem IS.hasUnS (v : Value) (xT : TypeId) (w : World) : (Instr.typeAssert (.iface 76 v) xT 120 true).run Tryd.prog w = .ok (.tuple #[.iface 76 v, .bool true]) w := run_typeAssert_hasB Tryd.underlying120 (by kernel_rfl) v xT w
theorem IS.methUn (v : Value) (w : World) : (Go.method 262 76 v "Unwrap").run Tryd.prog w = .ok (123, v) w := by kernel_rfl
set_option maxRecDepth 100000 in
set_option maxHeartbeats 4000000 in
theorem IS.num (n m : Int) (w : World) : Calls Tryd.prog 83 #[.iface 52 (.int .i64 n), .iface 52 (.int .i64 m)] w fun e w' => e = .returned (.bool (n == m)) ∧ w' = w := by
 obtain ⟨i, hi, hcmp⟩ := Option.map_eq_some_iff.1 IS.info
 have a := @run_callFunc_extern Tryd.prog 90 _ Extern.ReflectliteType.typeOf Tryd.func90 (by kernel_rfl) (by kernel_rfl) (by kernel_rfl) (by kernel_rfl)
 have hC := IS.call
 have tT := IS.typeOf
 have mR := IS.meth
 have nE := IS.noIsE
 have uE := IS.noUnE
 have vE := IS.noUnsE
 have heq := fun w => IS.eql w n m Tryd.underlying28 Tryd.underlying52 hi hcmp
 clear hi hcmp
 cases hb : (n == m) with
 | true =>
  go_enter Tryd.func83, Tryd.ntmps83
  go_wp2
  refine wp_loop_rounds 1 ?_
  rw [rounds_succ]
  go_wp2
  go_ret
  exact ⟨rfl, rfl⟩
 | false =>
  go_enter Tryd.func83, Tryd.ntmps83
  go_wp2
  refine wp_loop_rounds 1 ?_
  rw [rounds_succ]
  go_wp2
  go_ret
  exact ⟨rfl, rfl⟩
set_option maxRecDepth 100000 in
set_option maxHeartbeats 4000000 in
theorem IS.nil (m : Int) (w : World) : Calls Tryd.prog 83 #[.nilIface, .iface 52 (.int .i64 m)] w fun e w' => e = .returned (.bool false) ∧ w' = w := by
 have hn := run_eql_iface_nil_left (P := Tryd.prog) w 52 (.int .i64 m) Tryd.underlying28
 go_enter Tryd.func83, Tryd.ntmps83
 go_wp2
 go_ret
 exact ⟨rfl, rfl⟩
set_option maxRecDepth 100000 in
set_option maxHeartbeats 4000000 in
theorem IS.spot (ad : Addr) (n m : Int) (w : World) (a : w.cell? ⟨ad.block, ad.off + 1, none⟩ = some (.iface 52 (.int .i64 n))) : Calls Tryd.prog 83 #[.iface 76 (.pointer (some ad)), .iface 52 (.int .i64 m)] w fun e w' => e = .returned (.bool (n == m)) ∧ w' = w := by
 obtain ⟨i, hi, hcmp⟩ := Option.map_eq_some_iff.1 IS.info
 have c := @run_callFunc_extern Tryd.prog 90 _ Extern.ReflectliteType.typeOf Tryd.func90 (by kernel_rfl) (by kernel_rfl) (by kernel_rfl) (by kernel_rfl)
 have hC := IS.call
 have tT := IS.typeOf
 have mR := IS.meth
 have nE := IS.noIsE
 have uE := IS.noUnE
 have vE := IS.noUnsE
 have nW := IS.noIsS
 have uW := IS.hasUnS
 have mU := IS.methUn
 have hty := run_eql_iface_types (P := Tryd.prog) 76 52 (.pointer (some ad)) (.int .i64 m) Tryd.underlying28 (by decide) w
 have heq := fun w => IS.eql w n m Tryd.underlying28 Tryd.underlying52 hi hcmp
 have hu := Tryd.underlying79
 clear hi hcmp
 obtain ⟨b, o, s⟩ := ad
 cases hb : (n == m) with
 | true =>
  go_enter Tryd.func83, Tryd.ntmps83
  go_wp2
  refine wp_loop_rounds 2 ?_
  rw [rounds_succ]
  go_wp2
  rw [rounds_succ]
  go_wp2
  go_ret
  exact ⟨rfl, rfl⟩
 | false =>
  go_enter Tryd.func83, Tryd.ntmps83
  go_wp2
  refine wp_loop_rounds 2 ?_
  rw [rounds_succ]
  go_wp2
  rw [rounds_succ]
  go_wp2
  go_ret
  exact ⟨rfl, rfl⟩
/-- keys.Refused: of a key that was: its error's number, or its spot's, is one of four. -/
def refusedI (n : Int) : Bool := decide (7 ≤ n ∧ n ≤ 10)
def keys_Refused.f (a : Option Er) (b : List S164) : Option Bool :=
 match a with
 | none => some false
 | some (.num n) => some (refusedI n)
 | some .spot => match b with | [s] => some (refusedI s.f1) | _ => none
def refO : Option Int → Bool
 | none => false
 | some n => refusedI n
theorem refO_false {x : Option Int} (b : (x == some 7) = false) (c : (x == some 8) = false) (d : (x == some 9) = false) (a : (x == some 10) = false) : refO x = false := by
 cases x with
 | none => rfl
 | some n =>
  simp only [Option.some_beq_some, beq_eq_false_iff_ne] at b c d a
  exact decide_eq_false (by omega)
theorem refO_true {x : Option Int} {m : Int} (h : (x == some m) = true) (a : 7 ≤ m ∧ m ≤ 10) : refO x = true := by
 obtain rfl := of_decide_eq_true (by simpa using h : decide (x = some m) = true)
 exact decide_eq_true a
set_option maxRecDepth 100000 in
set_option maxHeartbeats 4000000 in
theorem refused_walk (v : Value) (x : Option Int) (w : World) (hI : ∀ (m : Int) (W : World), Below w.heap.size w W → Calls Tryd.prog 83 #[v, .iface 52 (.int .i64 m)] W fun e w' => e = .returned (.bool (x == some m)) ∧ w' = W) :
  Calls Tryd.prog 63 #[v] w fun e w' => e = .returned (.bool (refO x)) ∧ Below w.heap.size w w' := by
 have HI := Z hI
 have hu := Tryd.underlying107
 clear hI
 cases b : (x == some 7) with
 | true =>
  rw [refO_true b (by decide)]
  go_enter Tryd.func63, Tryd.ntmps63
  go_wp2
  refine wp_loop_rounds 1 ?_
  rw [rounds_succ]
  go_wp2_with (go_at_call 83; (with_reducible refine (HI.out _ _ ?bl_).mono ?_); (case bl_ => repeat (first | exact Below.refl _ _ | refine below_alloc ?_ _)); rintro e w' ⟨rfl, rfl⟩)
  go_ret
  exact ⟨rfl, below_alloc (Below.refl _ _) _⟩
 | false =>
  cases c : (x == some 8) with
  | true =>
   rw [refO_true c (by decide)]
   go_enter Tryd.func63, Tryd.ntmps63
   go_wp2
   refine wp_loop_rounds 2 ?_
   rw [rounds_succ]
   go_wp2_with (go_at_call 83; (with_reducible refine (HI.out _ _ ?bl_).mono ?_); (case bl_ => repeat (first | exact Below.refl _ _ | refine below_alloc ?_ _)); rintro e w' ⟨rfl, rfl⟩)
   rw [rounds_succ]
   go_wp2_with (go_at_call 83; (with_reducible refine (HI.out _ _ ?bl_).mono ?_); (case bl_ => repeat (first | exact Below.refl _ _ | refine below_alloc ?_ _)); rintro e w' ⟨rfl, rfl⟩)
   go_ret
   exact ⟨rfl, below_alloc (Below.refl _ _) _⟩
  | false =>
   cases d : (x == some 9) with
   | true =>
    rw [refO_true d (by decide)]
    go_enter Tryd.func63, Tryd.ntmps63
    go_wp2
    refine wp_loop_rounds 3 ?_
    rw [rounds_succ]
    go_wp2_with (go_at_call 83; (with_reducible refine (HI.out _ _ ?bl_).mono ?_); (case bl_ => repeat (first | exact Below.refl _ _ | refine below_alloc ?_ _)); rintro e w' ⟨rfl, rfl⟩)
    rw [rounds_succ]
    go_wp2_with (go_at_call 83; (with_reducible refine (HI.out _ _ ?bl_).mono ?_); (case bl_ => repeat (first | exact Below.refl _ _ | refine below_alloc ?_ _)); rintro e w' ⟨rfl, rfl⟩)
    rw [rounds_succ]
    go_wp2_with (go_at_call 83; (with_reducible refine (HI.out _ _ ?bl_).mono ?_); (case bl_ => repeat (first | exact Below.refl _ _ | refine below_alloc ?_ _)); rintro e w' ⟨rfl, rfl⟩)
    go_ret
    exact ⟨rfl, below_alloc (Below.refl _ _) _⟩
   | false =>
    cases a : (x == some 10) with
    | true =>
     rw [refO_true a (by decide)]
     go_enter Tryd.func63, Tryd.ntmps63
     go_wp2
     refine wp_loop_rounds 4 ?_
     rw [rounds_succ]
     go_wp2_with (go_at_call 83; (with_reducible refine (HI.out _ _ ?bl_).mono ?_); (case bl_ => repeat (first | exact Below.refl _ _ | refine below_alloc ?_ _)); rintro e w' ⟨rfl, rfl⟩)
     rw [rounds_succ]
     go_wp2_with (go_at_call 83; (with_reducible refine (HI.out _ _ ?bl_).mono ?_); (case bl_ => repeat (first | exact Below.refl _ _ | refine below_alloc ?_ _)); rintro e w' ⟨rfl, rfl⟩)
     rw [rounds_succ]
     go_wp2_with (go_at_call 83; (with_reducible refine (HI.out _ _ ?bl_).mono ?_); (case bl_ => repeat (first | exact Below.refl _ _ | refine below_alloc ?_ _)); rintro e w' ⟨rfl, rfl⟩)
     rw [rounds_succ]
     go_wp2_with (go_at_call 83; (with_reducible refine (HI.out _ _ ?bl_).mono ?_); (case bl_ => repeat (first | exact Below.refl _ _ | refine below_alloc ?_ _)); rintro e w' ⟨rfl, rfl⟩)
     go_ret
     exact ⟨rfl, below_alloc (Below.refl _ _) _⟩
    | false =>
     rw [refO_false b c d a]
     go_enter Tryd.func63, Tryd.ntmps63
     go_wp2
     refine wp_loop_rounds 5 ?_
     rw [rounds_succ]
     go_wp2_with (go_at_call 83; (with_reducible refine (HI.out _ _ ?bl_).mono ?_); (case bl_ => repeat (first | exact Below.refl _ _ | refine below_alloc ?_ _)); rintro e w' ⟨rfl, rfl⟩)
     rw [rounds_succ]
     go_wp2_with (go_at_call 83; (with_reducible refine (HI.out _ _ ?bl_).mono ?_); (case bl_ => repeat (first | exact Below.refl _ _ | refine below_alloc ?_ _)); rintro e w' ⟨rfl, rfl⟩)
     rw [rounds_succ]
     go_wp2_with (go_at_call 83; (with_reducible refine (HI.out _ _ ?bl_).mono ?_); (case bl_ => repeat (first | exact Below.refl _ _ | refine below_alloc ?_ _)); rintro e w' ⟨rfl, rfl⟩)
     rw [rounds_succ]
     go_wp2_with (go_at_call 83; (with_reducible refine (HI.out _ _ ?bl_).mono ?_); (case bl_ => repeat (first | exact Below.refl _ _ | refine below_alloc ?_ _)); rintro e w' ⟨rfl, rfl⟩)
     rw [rounds_succ]
     go_wp2
     go_ret
     exact ⟨rfl, below_alloc (Below.refl _ _) _⟩
theorem keys_Refused.calls (b : Option Er) (d : Option Addr) (c : Nat) (a : List S164) (r : Bool) (w : World) (i : Kd.C k164 w d a.length a) (g : a.length ≤ c) (h : keys_Refused.f b a = some r) :
  Calls Tryd.prog 63 #[errW (.slice d a.length c) b] w fun e w' => e = .returned (.bool r) ∧ Below w.heap.size w w' := by
 rcases b with _ | q
 ·obtain rfl := Option.some.inj h
  rw [errW_none]
  exact refused_walk .nilIface none w (fun m W _ => IS.nil m W)
 ·cases q with
  | num n =>
   obtain rfl := Option.some.inj h
   rw [errW_some, show (Er.num n).ty = 52 from rfl, show (Er.num n).pay _ = .int .i64 n from rfl]
   exact refused_walk _ (some n) w (fun m W _ => by rw [Option.some_beq_some]; exact IS.num n m W)
  | spot =>
   match a, i, g, h with
   | [s], hr, hc, h =>
    obtain rfl := Option.some.inj h
    obtain ⟨ad, rfl, k, j⟩ := spot_at hr
    rw [errW_some, show Er.spot.ty = 76 from rfl, show Er.spot.pay (.slice (some ad) ([s] : List S164).length c) = .pointer (some ad) from rfl]
    have hlt := bk_ w ⟨ad.block, ad.off + 1, none⟩ j
    exact refused_walk _ (some s.f1) w (fun m W hB => by rw [Option.some_beq_some]; exact IS.spot ad s.f1 m W ((hB.cell (p := ⟨ad.block, ad.off + 1, none⟩) hlt).trans j))
end

end Go.Proofs.YtggecanpjkpkiaaDoor.P
