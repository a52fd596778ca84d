/- Lemmas for what the printed walks say again and again (press2.py turns the texts to them). -/
import Derived.Test.YtjpedimndkibnaaGreatDoorPx0
namespace Go.Proofs.YtjpedimndkibnaaGreatDoor.P
open Go.RowKit Go.Proofs.YtjpedimndkibnaaGreatDoorW.PrintWords Go.Proofs.YtjpedimndkibnaaGreatDoorW.PrintLast Go.Proofs.YtjpedimndkibnaaGreatDoorW.PrintMore
class PeelWs (W1 : World) (W : World) : Prop where
  bel : Below W.heap.size W W1
instance (W : World) : PeelWs W W := ⟨Below.refl _ _⟩
instance (W1 W2 W : World) [p : PeelW W1 W2] [q : PeelWs W2 W] : PeelWs W1 W := ⟨below_step q.bel p.bel⟩
theorem vK {W W1 : World} {g : Nat} {o : Obj} [p : PeelWs W1 W] (h : W.heap[g]? = some o) : W1.heap[g]? = some o := blk_below h p.bel
theorem vV {α : Type} {d : Kd α} {e base : Nat} {ok : Nat → Prop} {v : Value} {xs : List α} {W W1 : World} [p : PeelWs W1 W] (h : Kd.V d e W base ok v xs) : Kd.V d e W1 base ok v xs := Kd.V_below h p.bel
theorem qM {w w1 w' : World} {m : Nat} {o : Obj} (h : w1 = w') [p : PeelW w1 w] (x : w.heap[m]? = some o) : w'.heap[m]? = some o := h ▸ pK x
theorem qV {α : Type} {d : Kd α} {e base : Nat} {ok : Nat → Prop} {v : Value} {xs : List α} {w w1 w' : World} (h : w1 = w') [p : PeelW w1 w] (x : Kd.V d e w base ok v xs) : Kd.V d e w' base ok v xs := h ▸ pV x
theorem qB {v w w1 w' : World} (h : w1 = w') [p : PeelW w1 w] (x : Below v.heap.size v w) : Below v.heap.size v w' := h ▸ pL x
theorem sM {w w1 : World} {m : Nat} {o : Option Obj} (h : w = w1) (x : w1.heap[m]? = o) : w.heap[m]? = o := h ▸ x
theorem ln_ {w W : World} {m : Nat} (h : m = W.heap.size) (hb : Below w.heap.size w W := by exact bl_) : w.heap.size ≤ m := le_new h (below_size hb)
theorem ir_ {p : Prop} {w W : World} {k : Nat} (hn : W.heap.size ≤ k) (hb : Below w.heap.size w W := by exact bl_) : p ∨ w.heap.size ≤ k := .inr (Nat.le_trans (below_size hb) hn)
theorem er_ {P : Prop} (h : P := by first | rfl | (simp [errW_none, errW_some] <;> rfl) | (simp [*, errW_none, errW_some] <;> rfl)) : P := h
theorem dn_ {P : Prop} (h : P := by first | rfl | (simp; done) | (simp [*]; done)) : P := h
theorem dr_ {P : Prop} (h : P := by repeat (first | exact Drawn0.refl _ | apply Drawn0.step)) : P := h
theorem f6V {α : Type} {d : Kd α} {e base : Nat} {ok : Nat → Prop} {v : Value} {xs : List α} {W : World} (x : Nat) (h : Kd.V d e W base ok v xs) (ne : ∀ k, ok k → k ≠ x) {v0 v1 v2 v3 v4 v5 : Value} : Kd.V d e ((((((W.setCell ⟨x, 0, none⟩ v0).setCell ⟨x, 1, none⟩ v1).setCell ⟨x, 2, none⟩ v2).setCell ⟨x, 3, none⟩ v3).setCell ⟨x, 4, none⟩ v4).setCell ⟨x, 5, none⟩ v5) base ok v xs :=
  Kd.V_far (p := ⟨x, 5, none⟩) (Kd.V_far (p := ⟨x, 4, none⟩) (Kd.V_far (p := ⟨x, 3, none⟩) (Kd.V_far (p := ⟨x, 2, none⟩) (Kd.V_far (p := ⟨x, 1, none⟩) (Kd.V_far (p := ⟨x, 0, none⟩) h ne v0) ne v1) ne v2) ne v3) ne v4) ne v5
theorem f6R {α : Type} {d : Kd α} {e base : Nat} {ok : Nat → Prop} {v : Value} {xs : List α} {W : World} (x : Nat) (h : Kd.R d e W base ok v xs) (ne : ∀ k, ok k → k ≠ x) {v0 v1 v2 v3 v4 v5 : Value} : Kd.R d e ((((((W.setCell ⟨x, 0, none⟩ v0).setCell ⟨x, 1, none⟩ v1).setCell ⟨x, 2, none⟩ v2).setCell ⟨x, 3, none⟩ v3).setCell ⟨x, 4, none⟩ v4).setCell ⟨x, 5, none⟩ v5) base ok v xs :=
  Kd.R_far (p := ⟨x, 5, none⟩) (Kd.R_far (p := ⟨x, 4, none⟩) (Kd.R_far (p := ⟨x, 3, none⟩) (Kd.R_far (p := ⟨x, 2, none⟩) (Kd.R_far (p := ⟨x, 1, none⟩) (Kd.R_far (p := ⟨x, 0, none⟩) h ne v0) ne v1) ne v2) ne v3) ne v4) ne v5
section
variable {P : Program} {ops : Array Oper} {rest : List Oper} {o : Oper} {a : Act} {Q : Exit → Act → World → Prop}
theorem bx_ {W : World} (N : Tmp) (t : TypeId) (cs : Array Value)
    (h : ∀ g, g = W.heap.size → ∀ w1, w1.heap[g]? = some (.cells cs t (0, 0)) → Below W.heap.size W w1 → wpList P ops Q rest (a.put o.dst (.pointer (some ⟨g, 0, none⟩))) w1)
    (hgd : o.guard = none := by rfl) (hd : o.dst = some N := by rfl)
    (hrun : (execOp a.eval o).run P W = .ok (.value (.pointer (some ⟨W.heap.size, 0, none⟩))) (W.alloc (.cells cs t (0, 0))) := by first | (go_simp; done) | (go_simp; rfl)) : wpList P ops Q (o :: rest) a W := box_event hgd hd hrun h
theorem sx_ {W : World} (t : TypeId) (p : Tmp) (w1 : World) {v : Operand} (h : ∀ w', w' = w1 → wpList P ops Q rest a w')
    (ho : o.op = .store t (.tmp p) v := by rfl) (hgd : o.guard = none := by rfl) (hN : o.dst = none := by rfl)
    (hrun : (execOp a.eval o).run P W = .ok .skip w1 := by first | (go_simp; done) | (go_simp; rfl)) : wpList P ops Q (o :: rest) a W := store_event hgd ho hN hrun h
end
section
variable {P : Program} {md : Region.Mode} {ops : Array Oper} {Q : Exit → Act → World → Prop} {S : World → Prop} {ds : List Nat} {T : Bool × List (List Nat × List Nat)} {oi : Oper} {v : Value} {fuel : Nat} {l : Array Bool} {a a' : Act} {w : World}
theorem pA_ (i n m : Nat) (N : Option Tmp) (h : wpAnyLast P md ops Q S ds fuel (bv n m) a' w) (hi : ops[i]? = some oi := by exact rfl) (hN : oi.dst = N := by exact rfl) (hc : anyB md ops l (bv n m) i = true := by kernel_rfl)
    (hQ : ∀ c a w, Q (.panic c) (a.put oi.dst v) w → Q (.panic c) a w := by exact fun _ _ _ h => h) (hw : Region.wanted oi (yielded ops a.tmps) = true := by rfl) (hy : ∀ w, (execOp a.eval oi).run P w = .ok (.value v) w := by intro w'; go_simp; with_reducible rfl)
    (ha : a.put N v = a' := by simp only [Act.put, sA, sB, sC, i64_w, i32_w]; rfl) : wpAnyLast P md ops Q S ds (fuel + 1) l a w := pure_ (bv n m) hi hN hc hQ (Or.inl ⟨hw, hy⟩) ha h
theorem pT_ (HT : Aside0 (rtab md ops = T)) (i n m : Nat) (N : Option Tmp) (h : wpAnyLast P md ops Q S ds fuel (bv n m) a' w) (hi : ops[i]? = some oi := by exact rfl) (hN : oi.dst = N := by exact rfl) (hc : anyT T l.toList (bv n m).toList i = true := by kernel_rfl)
    (hQ : ∀ c a w, Q (.panic c) (a.put oi.dst v) w → Q (.panic c) a w := by exact fun _ _ _ h => h) (hw : Region.wanted oi (yielded ops a.tmps) = true := by rfl) (hy : ∀ w, (execOp a.eval oi).run P w = .ok (.value v) w := by intro w'; go_simp; with_reducible rfl)
    (ha : a.put N v = a' := by simp only [Act.put, sA, sB, sC, i64_w, i32_w]; rfl) : wpAnyLast P md ops Q S ds (fuel + 1) l a w := pure_ (bv n m) hi hN (any_of HT.out hc) hQ (Or.inl ⟨hw, hy⟩) ha h
theorem pU_ (HT : Aside0 (rtab md ops = T)) (i n m : Nat) (N : Option Tmp) (h : wpAnyLast P md ops Q S ds fuel (bv n m) a' w) (hi : ops[i]? = some oi := by exact rfl) (hN : oi.dst = N := by exact rfl) (hc : anyT T l.toList (bv n m).toList i = true := by kernel_rfl)
    (hQ : ∀ c a w, Q (.panic c) (a.put oi.dst undef) w → Q (.panic c) a w := by exact fun _ _ _ h => h) (hw : Region.wanted oi (yielded ops a.tmps) = false := by rfl)
    (ha : a.put N undef = a' := by simp only [Act.put, sA, sB, sC, i64_w, i32_w]; rfl) : wpAnyLast P md ops Q S ds (fuel + 1) l a w := pure_ (bv n m) hi hN (any_of HT.out hc) hQ (Or.inr ⟨hw, rfl⟩) ha h
theorem tA_ (hS : S w) (i n m : Nat) (N : Option Tmp) (h : wpAnyLast P md ops Q S ds fuel (bv n m) a' w) (hi : ops[i]? = some oi := by exact rfl) (hN : oi.dst = N := by exact rfl) (hc : takeB md ops ds l (bv n m) i = true := by kernel_rfl)
    (hQ : ∀ c a w, Q (.panic c) (a.put oi.dst v) w → Q (.panic c) a w := by exact fun _ _ _ h => h) (hw : Region.wanted oi (yielded ops a.tmps) = true := by rfl) (hy : ∀ w, S w → (execOp a.eval oi).run P w = .ok (.value v) w := by intro w' hs_; (repeat (have hl_ := hs_.1; replace hs_ := hs_.2)); go_simp; with_reducible rfl)
    (ha : a.put N v = a' := by simp only [Act.put, sA, sB, sC, i64_w, i32_w]; rfl) : wpAnyLast P md ops Q S ds (fuel + 1) l a w := take_ (bv n m) hi hN hc hQ (Or.inl ⟨hw, hy⟩) hS ha h
theorem tT_ {B : List Nat} (HT : Aside0 (rtab md ops = T)) (HW : Aside0 (waitsOk T.2 B = true)) (hS : S w) (i n m : Nat) (N : Option Tmp) (h : wpAnyLast P md ops Q S ds fuel (bv n m) a' w) (hi : ops[i]? = some oi := by exact rfl) (hN : oi.dst = N := by exact rfl) (hc : takeW T B ds l.toList (bv n m).toList i = true := by kernel_rfl)
    (hQ : ∀ c a w, Q (.panic c) (a.put oi.dst v) w → Q (.panic c) a w := by exact fun _ _ _ h => h) (hw : Region.wanted oi (yielded ops a.tmps) = true := by rfl) (hy : ∀ w, S w → (execOp a.eval oi).run P w = .ok (.value v) w := by intro w' hs_; (repeat (have hl_ := hs_.1; replace hs_ := hs_.2)); go_simp; with_reducible rfl)
    (ha : a.put N v = a' := by simp only [Act.put, sA, sB, sC, i64_w, i32_w]; rfl) : wpAnyLast P md ops Q S ds (fuel + 1) l a w := take_ (bv n m) hi hN (take_ofW HT.out HW.out hc) hQ (Or.inl ⟨hw, hy⟩) hS ha h
theorem oT_ (HT : Aside0 (rtab md ops = T)) (i n m : Nat) (N : Option Tmp) (h : ∀ K : Act → World → Prop, Shut (∀ a' w', S w' → (S w' → wpAnyLast P md ops Q S ds fuel (bv n m) a' w') → K a' w') → if Region.wanted oi (yielded ops a.tmps) = true then Oper.wp P oi a w K Q else K (a.put N undef) w)
    (hi : ops[i]? = some oi := by exact rfl) (hN : oi.dst = N := by exact rfl) (hc : (readyT T.2 l.toList == [i] && l.toList.set i true == (bv n m).toList) = true := by kernel_rfl) (hd : i ∉ ds := by decide) : wpAnyLast P md ops Q S ds (fuel + 1) l a w := one_ (bv n m) hi hN (one_of HT.out hc) hd h
theorem nA_ (N : Option Tmp) (h : wpAnyLast P md ops Q S ds fuel l a' w) (ha : a.put N v = a' := by simp only [Act.put, sA, sB, sC, i64_w, i32_w]; rfl) : wpAnyLast P md ops Q S ds fuel l (a.put N v) w := norm_ ha h
end
theorem kb' {W W1 W2 : World} {g : Nat} {o : Obj} [p : Peels W1 W] (h : Aside0 (W.heap[g]? = some o)) (hb : Below W1.heap.size W1 W2) : Aside0 (W2.heap[g]? = some o) := ⟨kb h.out hb⟩
theorem rb' {α : Type} {d : Kd α} {e base : Nat} {ok : Nat → Prop} {v : Value} {xs : List α} {W W1 W2 : World} [p : Peels W1 W] (h : Aside0 (Kd.R d e W base ok v xs)) (hb : Below W1.heap.size W1 W2) : Aside0 (Kd.R d e W2 base ok v xs) := ⟨rb h.out hb⟩
theorem vb' {α : Type} {d : Kd α} {e base : Nat} {ok : Nat → Prop} {v : Value} {xs : List α} {W W1 W2 : World} [p : Peels W1 W] (h : Aside0 (Kd.V d e W base ok v xs)) (hb : Below W1.heap.size W1 W2) : Aside0 (Kd.V d e W2 base ok v xs) := ⟨vb h.out hb⟩
theorem nl' {W W1 : World} {g g2 : Nat} {o : Obj} [p : Peels W1 W] (h : Aside0 (W.heap[g]? = some o)) (hg : g2 = W1.heap.size) : Aside0 (g ≠ g2) := ⟨nl h.out hg⟩
theorem ng' {W W1 : World} {g g2 : Nat} {o : Obj} [p : Peels W1 W] (h : Aside0 (W.heap[g]? = some o)) (hg : g2 = W1.heap.size) : Aside0 (g2 ≠ g) := ⟨ng h.out hg⟩
theorem eT_ {α : Type} [BEq α] [LawfulBEq α] {a b : α} (h : a = b) : (a == b) = true ∧ (a != b) = false := ⟨beq_iff_eq.mpr h, bne_eq_false_iff_eq.mpr h⟩
theorem eF_ {α : Type} [BEq α] [LawfulBEq α] {a b : α} (h : ¬a = b) : (a == b) = false ∧ (a != b) = true := ⟨beq_eq_false_iff_ne.mpr h, bne_iff_ne.mpr h⟩
theorem nT_ {α : Type} [BEq α] [LawfulBEq α] {a b : α} (h : a = b) : (a != b) = false ∧ (a == b) = true := ⟨bne_eq_false_iff_eq.mpr h, beq_iff_eq.mpr h⟩
theorem nF_ {α : Type} [BEq α] [LawfulBEq α] {a b : α} (h : ¬a = b) : (a != b) = true ∧ (a == b) = false := ⟨bne_iff_ne.mpr h, beq_eq_false_iff_ne.mpr h⟩
theorem bs_ {w W W1 : World} (hb : Below W.heap.size W W1) (h : Below w.heap.size w W := by exact bl_) : Aside0 (Below w.heap.size w W1) := ⟨below_step h hb⟩
theorem fC6 (x : Nat) {W : World} {a : Addr} {r : Option Value} (h : a.block ≠ x) (y : W.cell? a = r) {i0 i1 i2 i3 i4 i5 : Nat} {v0 v1 v2 v3 v4 v5 : Value} : ((((((W.setCell ⟨x, i0, none⟩ v0).setCell ⟨x, i1, none⟩ v1).setCell ⟨x, i2, none⟩ v2).setCell ⟨x, i3, none⟩ v3).setCell ⟨x, i4, none⟩ v4).setCell ⟨x, i5, none⟩ v5).cell? a = r :=
  (cell_far (p := ⟨x, _, none⟩) h _).trans ((cell_far (p := ⟨x, _, none⟩) h _).trans ((cell_far (p := ⟨x, _, none⟩) h _).trans ((cell_far (p := ⟨x, _, none⟩) h _).trans ((cell_far (p := ⟨x, _, none⟩) h _).trans ((cell_far (p := ⟨x, _, none⟩) h _).trans y)))))
theorem nb_ {P Q : Prop} {W : World} {ad : Addr} {v : Value} (x : W.cell? ad = some v) (a : Q) (e : ad.block < W.heap.size → Q → P := by intro t_ a_; first | exact Nat.ne_of_lt (Nat.lt_of_lt_of_le (by first | exact t_ | rwa [add_block] at t_) a_) | (rw [add_block]; exact Nat.ne_of_lt (Nat.lt_of_lt_of_le (by first | exact t_ | rwa [add_block] at t_) a_)) | (show (Addr.add _ _).block ≠ _; rw [add_block]; exact Nat.ne_of_lt (Nat.lt_of_lt_of_le (by first | exact t_ | rwa [add_block] at t_) a_)) | (dsimp only; exact Nat.ne_of_lt (Nat.lt_of_lt_of_le (by first | exact t_ | rwa [add_block] at t_) a_))) : P := e (bk_ _ _ x) a
end Go.Proofs.YtjpedimndkibnaaGreatDoor.P
