/- Lemmas for what the printed walks say again and again (sq5.py turns the texts to them). -/
import Derived.Test.YtjpedimndkibnaaGreatDoorPxS
namespace Go.Proofs.YtjpedimndkibnaaGreatDoor.P
open Go.RowKit Go.Proofs.YtjpedimndkibnaaGreatDoorW.PrintWords Go.Proofs.YtjpedimndkibnaaGreatDoorW.PrintLast Go.Proofs.YtjpedimndkibnaaGreatDoorW.PrintMore
theorem bn_ {α β : Type} {x : Option α} {f : α → Option β} {b : β} (h : x.bind f = some b) : ∃ a, Aside0 (x = some a) ∧ f a = some b := by
  obtain ⟨a, ha, hf⟩ := Option.bind_eq_some_iff.mp h; exact ⟨a, ⟨ha⟩, hf⟩
section
variable {α : Type} {d : Kd α} {e base : Nat} {W W1 w : World} {ok : Nat → Prop} {A : Option Addr} {n c : Nat} {xs : List α}
theorem vC_ [p : PeelWs W1 W] (h : Aside0 (Kd.V d e W base ok (.slice A n c) xs)) : Kd.C d W1 A xs.length xs := Kd.C_below (Kd.V_reads' h.out).2.2 p.bel
theorem vL_ (h : Aside0 (Kd.V d e W base ok (.slice A n c) xs)) : n ≤ c := (Kd.V_reads' h.out).2.1
theorem rC_ [p : PeelWs W1 W] (h : Aside0 (Kd.R d e W base ok (.slice A n c) xs)) : Kd.C d W1 A xs.length xs := Kd.C_below (Kd.R_reads' h.out).2.2 p.bel
theorem rL_ (h : Aside0 (Kd.R d e W base ok (.slice A n c) xs)) : n ≤ c := (Kd.R_reads' h.out).2.1
theorem cB_ [p : PeelWs W1 W] (h : Aside0 (Kd.C d w A n xs)) (hb : Aside0 (Below w.heap.size w W)) : Kd.C d W1 A n xs := Kd.C_below (Kd.C_below h.out hb.out) p.bel
theorem ve' {g : Nat} {v : Value} {W2 : World} [p : Peels W1 W] (h : Aside0 (Kd.V d e W base ok v xs)) (hg : g = W1.heap.size) (hb : Below W1.heap.size W1 W2) : Aside0 (Kd.V d e W2 base (fun k => ok k ∧ k ≠ g) v xs) := ⟨ve h.out hg hb⟩
end
theorem ln' (w : World) {W : World} {m : Nat} (h : m = W.heap.size) (hb : Below w.heap.size w W := by exact bl_) : Aside0 (w.heap.size ≤ m) := ⟨le_new h (below_size hb)⟩
theorem ns_ {α : Type} {a b : α} (h : Aside0 (a ≠ b)) : a ≠ b ∧ b ≠ a := ⟨h.out, h.out.symm⟩
theorem gw_ {w w1 : World} {g : Nat} {o : Obj} {row : Option Nat} (h : Aside0 (w.heap[g]? = some o)) (hg : w.grownBy w1 row) (hne : some g ≠ row) : Aside0 (w1.heap[g]? = some o) := ⟨blk_grown h.out hg hne⟩
section
variable {P : Program} {ops : Array Oper} {Q : Exit → Act → World → Prop} {rest : List Oper} {oi : Oper} {a : Act} {w : World}
theorem gF_ (f : FuncId) {us : Array Operand} {ts : Array TypeId} (_ho : oi.op = .call { callee := .value (.func f), args := us, argTypes := ts }) (h : wpList P ops Q (oi :: rest) a w) : wpList P ops Q (oi :: rest) a w := h
theorem gD_ (N : Tmp) (_hN : oi.dst = some N) (h : wpList P ops Q (oi :: rest) a w) : wpList P ops Q (oi :: rest) a w := h
theorem gd_ {fn : Func} {f : FuncId} {us : Array Operand} {ts : Array TypeId} {args : Array Value} {R : Ending → World → Prop} (N : Option Tmp) (hf : P.funcs[f]? = some fn) (hC : Calls P f args w R)
    (h : ∀ e w', R e w' → ∃ v, e = .returned v ∧ wpList P ops Q rest (a.put N v) w') (hd : oi.dst = N := by rfl) (hg : oi.guard = none := by rfl) (hname : (fn.name == "runtime.NumGoroutine") = false := by kernel_rfl) (hb : fn.body.isSome = true := by rfl)
    (hop : oi.op = .call { callee := .value (.func f), args := us, argTypes := ts } := by rfl) (hargs : us.map a.eval = args := by exact ag_) : wpList P ops Q (oi :: rest) a w := goesL_ N hd hg hf hname hb args hop hargs (hC.mono h)
end
section
variable {P : Program} {fn : Func} {R : Ending → World → Prop} {a : Act} {w : World} {g p u u2 : Nat} {t ty : TypeId} {cs : Array Value} {d : TypeDesc}
theorem rc1_ (hg : w.heap[g]? = some (.cells cs t (0, 0))) (hu : P.underlying ty = some d) (hR : R (.returned (.agg cs)) w) (h : fn.results = #[.cell p ty] := by rfl) (hp : a.tmps.getD p undef = .pointer (some ⟨g, 0, none⟩) := by rfl)
    (hs : (match d with | .struct _ | .array _ _ => true | _ => false) = true := by rfl) (hi : (P.info? ty).map (·.size) = some cs.size := by kernel_rfl) (hd : a.defers = [] := by rfl) : bodyPost P fn R .ret a w :=
  bodyPost_ret (results_cell_row h a.tmps w g t cs (0, 0) d hp hg hu hs hi) hd hR
theorem rc2_ (hg : w.heap[g]? = some (.cells cs t (0, 0))) (hu : P.underlying ty = some d) (hR : R (.returned (.tuple #[.agg cs, a.tmps.getD u undef])) w) (h : fn.results = #[.cell p ty, .tmp u] := by rfl) (hp : a.tmps.getD p undef = .pointer (some ⟨g, 0, none⟩) := by rfl)
    (hs : (match d with | .struct _ | .array _ _ => true | _ => false) = true := by rfl) (hi : (P.info? ty).map (·.size) = some cs.size := by kernel_rfl) (hd : a.defers = [] := by rfl) : bodyPost P fn R .ret a w :=
  bodyPost_ret (results_ct h a.tmps w g t cs (0, 0) d hp hg hu hs hi) hd hR
theorem rc3_ (hg : w.heap[g]? = some (.cells cs t (0, 0))) (hu : P.underlying ty = some d) (hR : R (.returned (.tuple #[.agg cs, a.tmps.getD u undef, a.tmps.getD u2 undef])) w) (h : fn.results = #[.cell p ty, .tmp u, .tmp u2] := by rfl) (hp : a.tmps.getD p undef = .pointer (some ⟨g, 0, none⟩) := by rfl)
    (hs : (match d with | .struct _ | .array _ _ => true | _ => false) = true := by rfl) (hi : (P.info? ty).map (·.size) = some cs.size := by kernel_rfl) (hd : a.defers = [] := by rfl) : bodyPost P fn R .ret a w :=
  bodyPost_ret (results_ctt h a.tmps w g t cs (0, 0) d hp hg hu hs hi) hd hR
end
theorem ce_ {W : World} {g : Nat} {xs : List S55} {i : Int} (h : ∀ j u, [Value.bool (xs.getD i.toNat z55).f0, .bool (xs.getD i.toNat z55).f1.f0, .bool (xs.getD i.toNat z55).f1.f1, .int .i64 (xs.getD i.toNat z55).f1.f2, .bool (xs.getD i.toNat z55).f1.f3, .int .u8 (xs.getD i.toNat z55).f2][j]? = some u → W.cell? ⟨g, i.toNat * k55.sz + j, none⟩ = some u) :
    W.cell? ⟨g, i.toNat * 6, none⟩ = some (.bool (rd_T55 xs i).f0) ∧ W.cell? ⟨g, i.toNat * 6 + 1, none⟩ = some (.bool (rd_T55 xs i).f1.f0) ∧ W.cell? ⟨g, i.toNat * 6 + 2, none⟩ = some (.bool (rd_T55 xs i).f1.f1) ∧ W.cell? ⟨g, i.toNat * 6 + 3, none⟩ = some (.int .i64 (rd_T55 xs i).f1.f2) ∧ W.cell? ⟨g, i.toNat * 6 + 4, none⟩ = some (.bool (rd_T55 xs i).f1.f3) ∧ W.cell? ⟨g, i.toNat * 6 + 5, none⟩ = some (.int .u8 (rd_T55 xs i).f2) :=
  ⟨h 0 _ rfl, h 1 _ rfl, h 2 _ rfl, h 3 _ rfl, h 4 _ rfl, h 5 _ rfl⟩
theorem cf_ {W : World} {g : Nat} {i : Nat} (h : ∀ j, W.frozen? ⟨g, i * k55.sz + j, none⟩ = false) :
    W.frozen? ⟨g, i * 6, none⟩ = false ∧ W.frozen? ⟨g, i * 6 + 1, none⟩ = false ∧ W.frozen? ⟨g, i * 6 + 2, none⟩ = false ∧ W.frozen? ⟨g, i * 6 + 3, none⟩ = false ∧ W.frozen? ⟨g, i * 6 + 4, none⟩ = false ∧ W.frozen? ⟨g, i * 6 + 5, none⟩ = false := ⟨h 0, h 1, h 2, h 3, h 4, h 5⟩
class Im (p q : Prop) : Prop where
  im : p → q
instance (p : Prop) : Im p p := ⟨id⟩
instance (p : Prop) : Im p True := ⟨fun _ => trivial⟩
instance (p q r : Prop) [x : Im p q] [y : Im p r] : Im p (q ∧ r) := ⟨fun h => ⟨x.im h, y.im h⟩⟩
instance (p q r : Prop) [x : Im p q] : Im (p ∧ r) q := ⟨fun h => x.im h.1⟩
instance (p q r : Prop) [x : Im r q] : Im (p ∧ r) q := ⟨fun h => x.im h.2⟩
theorem im_ {p q : Nat → Prop} [h : ∀ k, Im (p k) (q k)] (k : Nat) (x : p k) : q k := (h k).im x
theorem gt_ {α : Type} {p : Prop} [Decidable p] {x : Option α} {r : α} (h : (if p then x else none) = some r) : p ∧ x = some r := by
  by_cases c : p
  · exact ⟨c, (if_pos c).symm.trans h⟩
  · rw [if_neg c] at h; cases h
theorem gf_ {α : Type} {p : Prop} [Decidable p] {x : Option α} {r : α} (h : (if p then none else x) = some r) : ¬p ∧ x = some r := by
  by_cases c : p
  · rw [if_pos c] at h; cases h
  · exact ⟨c, (if_neg c).symm.trans h⟩
theorem iF_ {α : Sort _} {a b : α} : (if false = true then a else b) = b := if_neg Bool.false_ne_true
theorem ij2_ {A0 : Type} {A1 : Type} {x0 y0 : A0} {x1 y1 : A1} (h : some (x0, x1) = some (y0, y1)) : x0 = y0 ∧ x1 = y1 := by
  simpa only [Option.some.injEq, Prod.mk.injEq] using h
theorem ij3_ {A0 : Type} {A1 : Type} {A2 : Type} {x0 y0 : A0} {x1 y1 : A1} {x2 y2 : A2} (h : some (x0, x1, x2) = some (y0, y1, y2)) : x0 = y0 ∧ x1 = y1 ∧ x2 = y2 := by
  simpa only [Option.some.injEq, Prod.mk.injEq] using h
theorem ij4_ {A0 : Type} {A1 : Type} {A2 : Type} {A3 : Type} {x0 y0 : A0} {x1 y1 : A1} {x2 y2 : A2} {x3 y3 : A3} (h : some (x0, x1, x2, x3) = some (y0, y1, y2, y3)) : x0 = y0 ∧ x1 = y1 ∧ x2 = y2 ∧ x3 = y3 := by
  simpa only [Option.some.injEq, Prod.mk.injEq] using h
theorem ij5_ {A0 : Type} {A1 : Type} {A2 : Type} {A3 : Type} {A4 : Type} {x0 y0 : A0} {x1 y1 : A1} {x2 y2 : A2} {x3 y3 : A3} {x4 y4 : A4} (h : some (x0, x1, x2, x3, x4) = some (y0, y1, y2, y3, y4)) : x0 = y0 ∧ x1 = y1 ∧ x2 = y2 ∧ x3 = y3 ∧ x4 = y4 := by
  simpa only [Option.some.injEq, Prod.mk.injEq] using h
theorem ij6_ {A0 : Type} {A1 : Type} {A2 : Type} {A3 : Type} {A4 : Type} {A5 : Type} {x0 y0 : A0} {x1 y1 : A1} {x2 y2 : A2} {x3 y3 : A3} {x4 y4 : A4} {x5 y5 : A5} (h : some (x0, x1, x2, x3, x4, x5) = some (y0, y1, y2, y3, y4, y5)) : x0 = y0 ∧ x1 = y1 ∧ x2 = y2 ∧ x3 = y3 ∧ x4 = y4 ∧ x5 = y5 := by
  simpa only [Option.some.injEq, Prod.mk.injEq] using h
theorem ij7_ {A0 : Type} {A1 : Type} {A2 : Type} {A3 : Type} {A4 : Type} {A5 : Type} {A6 : Type} {x0 y0 : A0} {x1 y1 : A1} {x2 y2 : A2} {x3 y3 : A3} {x4 y4 : A4} {x5 y5 : A5} {x6 y6 : A6} (h : some (x0, x1, x2, x3, x4, x5, x6) = some (y0, y1, y2, y3, y4, y5, y6)) : x0 = y0 ∧ x1 = y1 ∧ x2 = y2 ∧ x3 = y3 ∧ x4 = y4 ∧ x5 = y5 ∧ x6 = y6 := by
  simpa only [Option.some.injEq, Prod.mk.injEq] using h
theorem ij8_ {A0 : Type} {A1 : Type} {A2 : Type} {A3 : Type} {A4 : Type} {A5 : Type} {A6 : Type} {A7 : Type} {x0 y0 : A0} {x1 y1 : A1} {x2 y2 : A2} {x3 y3 : A3} {x4 y4 : A4} {x5 y5 : A5} {x6 y6 : A6} {x7 y7 : A7} (h : some (x0, x1, x2, x3, x4, x5, x6, x7) = some (y0, y1, y2, y3, y4, y5, y6, y7)) : x0 = y0 ∧ x1 = y1 ∧ x2 = y2 ∧ x3 = y3 ∧ x4 = y4 ∧ x5 = y5 ∧ x6 = y6 ∧ x7 = y7 := by
  simpa only [Option.some.injEq, Prod.mk.injEq] using h
theorem ij9_ {A0 : Type} {A1 : Type} {A2 : Type} {A3 : Type} {A4 : Type} {A5 : Type} {A6 : Type} {A7 : Type} {A8 : Type} {x0 y0 : A0} {x1 y1 : A1} {x2 y2 : A2} {x3 y3 : A3} {x4 y4 : A4} {x5 y5 : A5} {x6 y6 : A6} {x7 y7 : A7} {x8 y8 : A8} (h : some (x0, x1, x2, x3, x4, x5, x6, x7, x8) = some (y0, y1, y2, y3, y4, y5, y6, y7, y8)) : x0 = y0 ∧ x1 = y1 ∧ x2 = y2 ∧ x3 = y3 ∧ x4 = y4 ∧ x5 = y5 ∧ x6 = y6 ∧ x7 = y7 ∧ x8 = y8 := by
  simpa only [Option.some.injEq, Prod.mk.injEq] using h
/-- The cells of a screen that is not yet told. -/
abbrev zS_ : Array Value := #[.int .i64 0, .int .i64 0, .slice none 0 0, .int .i64 0, .bool false, .bool false]
end Go.Proofs.YtjpedimndkibnaaGreatDoor.P
