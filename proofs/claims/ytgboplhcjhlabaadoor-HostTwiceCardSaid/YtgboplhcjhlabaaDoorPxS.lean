/- Lemmas for what the printed walks say again and again (press2.py turns the texts to them). -/
import Derived.Test.YtgboplhcjhlabaaDoorPx0
namespace Go.Proofs.YtgboplhcjhlabaaDoor.P
open Go.RowKit Go.Proofs.YtgboplhcjhlabaaDoorW.PrintWords Go.Proofs.YtgboplhcjhlabaaDoorW.PrintLast Go.Proofs.YtgboplhcjhlabaaDoorW.PrintMore
class PeelWs (W1 : World) (W : World) : Prop where
  bel : Below W.heap.size W W1
instance (W : World) : PeelWs W W := ⟨Below.refl _ _⟩
instance (W1 W2 W : World) [p : PeelW W1 W2] [q : PeelWs W2 W] : PeelWs W1 W := ⟨below_step q.bel p.bel⟩
theorem vK {W W1 : World} {g : Nat} {o : Obj} [p : PeelWs W1 W] (h : W.heap[g]? = some o) : W1.heap[g]? = some o := blk_below h p.bel
theorem vV {α : Type} {d : Kd α} {e base : Nat} {ok : Nat → Prop} {v : Value} {xs : List α} {W W1 : World} [p : PeelWs W1 W] (h : Kd.V d e W base ok v xs) : Kd.V d e W1 base ok v xs := Kd.V_below h p.bel
theorem qM {w w1 w' : World} {m : Nat} {o : Obj} (h : w1 = w') [p : PeelW w1 w] (x : w.heap[m]? = some o) : w'.heap[m]? = some o := h ▸ pK x
theorem qV {α : Type} {d : Kd α} {e base : Nat} {ok : Nat → Prop} {v : Value} {xs : List α} {w w1 w' : World} (h : w1 = w') [p : PeelW w1 w] (x : Kd.V d e w base ok v xs) : Kd.V d e w' base ok v xs := h ▸ pV x
theorem qB {v w w1 w' : World} (h : w1 = w') [p : PeelW w1 w] (x : Below v.heap.size v w) : Below v.heap.size v w' := h ▸ pL x
theorem sM {w w1 : World} {m : Nat} {o : Option Obj} (h : w = w1) (x : w1.heap[m]? = o) : w.heap[m]? = o := h ▸ x
theorem ln_ {w W : World} {m : Nat} (h : m = W.heap.size) (hb : Below w.heap.size w W := by exact bl_) : w.heap.size ≤ m := le_new h (below_size hb)
theorem ir_ {p : Prop} {w W : World} {k : Nat} (hn : W.heap.size ≤ k) (hb : Below w.heap.size w W := by exact bl_) : p ∨ w.heap.size ≤ k := .inr (Nat.le_trans (below_size hb) hn)
theorem er_ {P : Prop} (h : P := by first | rfl | (simp [errW_none, errW_some] <;> rfl) | (simp [*, errW_none, errW_some] <;> rfl)) : P := h
theorem dn_ {P : Prop} (h : P := by first | rfl | (simp; done) | (simp [*]; done)) : P := h
theorem dr_ {P : Prop} (h : P := by repeat (first | exact Drawn0.refl _ | apply Drawn0.step)) : P := h
theorem f6V {α : Type} {d : Kd α} {e base : Nat} {ok : Nat → Prop} {v : Value} {xs : List α} {W : World} (x : Nat) (h : Kd.V d e W base ok v xs) (ne : ∀ k, ok k → k ≠ x) {v0 v1 v2 v3 v4 v5 : Value} : Kd.V d e ((((((W.setCell ⟨x, 0, none⟩ v0).setCell ⟨x, 1, none⟩ v1).setCell ⟨x, 2, none⟩ v2).setCell ⟨x, 3, none⟩ v3).setCell ⟨x, 4, none⟩ v4).setCell ⟨x, 5, none⟩ v5) base ok v xs :=
  Kd.V_far (p := ⟨x, 5, none⟩) (Kd.V_far (p := ⟨x, 4, none⟩) (Kd.V_far (p := ⟨x, 3, none⟩) (Kd.V_far (p := ⟨x, 2, none⟩) (Kd.V_far (p := ⟨x, 1, none⟩) (Kd.V_far (p := ⟨x, 0, none⟩) h ne v0) ne v1) ne v2) ne v3) ne v4) ne v5
theorem f6R {α : Type} {d : Kd α} {e base : Nat} {ok : Nat → Prop} {v : Value} {xs : List α} {W : World} (x : Nat) (h : Kd.R d e W base ok v xs) (ne : ∀ k, ok k → k ≠ x) {v0 v1 v2 v3 v4 v5 : Value} : Kd.R d e ((((((W.setCell ⟨x, 0, none⟩ v0).setCell ⟨x, 1, none⟩ v1).setCell ⟨x, 2, none⟩ v2).setCell ⟨x, 3, none⟩ v3).setCell ⟨x, 4, none⟩ v4).setCell ⟨x, 5, none⟩ v5) base ok v xs :=
  Kd.R_far (p := ⟨x, 5, none⟩) (Kd.R_far (p := ⟨x, 4, none⟩) (Kd.R_far (p := ⟨x, 3, none⟩) (Kd.R_far (p := ⟨x, 2, none⟩) (Kd.R_far (p := ⟨x, 1, none⟩) (Kd.R_far (p := ⟨x, 0, none⟩) h ne v0) ne v1) ne v2) ne v3) ne v4) ne v5
section
variable {P : Program} {ops : Array Oper} {rest : List Oper} {o : Oper} {a : Act} {Q : Exit → Act → World → Prop}
theorem bx_ {W : World} (N : Tmp) (t : TypeId) (cs : Array Value)
    (h : ∀ g, g = W.heap.size → ∀ w1, w1.heap[g]? = some (.cells cs t (0, 0)) → Below W.heap.size W w1 → wpList P ops Q rest (a.put o.dst (.pointer (some ⟨g, 0, none⟩))) w1)
    (hgd : o.guard = none := by rfl) (hd : o.dst = some N := by rfl)
    (hrun : (execOp a.eval o).run P W = .ok (.value (.pointer (some ⟨W.heap.size, 0, none⟩))) (W.alloc (.cells cs t (0, 0))) := by first | (go_simp; done) | (go_simp; rfl)) : wpList P ops Q (o :: rest) a W := box_event hgd hd hrun h
theorem sx_ {W : World} (t : TypeId) (p : Tmp) (w1 : World) {v : Operand} (h : ∀ w', w' = w1 → wpList P ops Q rest a w')
    (ho : o.op = .store t (.tmp p) v := by rfl) (hgd : o.guard = none := by rfl) (hN : o.dst = none := by rfl)
    (hrun : (execOp a.eval o).run P W = .ok .skip w1 := by first | (go_simp; done) | (go_simp; rfl)) : wpList P ops Q (o :: rest) a W := store_event hgd ho hN hrun h
end
end Go.Proofs.YtgboplhcjhlabaaDoor.P
