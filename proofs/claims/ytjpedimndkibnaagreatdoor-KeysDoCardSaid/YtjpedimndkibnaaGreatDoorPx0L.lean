/- More struct types of the seat's laws. Written by pp.py (wip/tools), a program of this session, on the kit's print. -/
import Derived.Test.YtjpedimndkibnaaGreatDoorPx0
namespace Go.Proofs.YtjpedimndkibnaaGreatDoor.P
open Go.RowKit Go.Proofs.YtjpedimndkibnaaGreatDoorW.PrintWords Go.Proofs.YtjpedimndkibnaaGreatDoorW.PrintLast Go.Proofs.YtjpedimndkibnaaGreatDoorW.PrintMore
attribute [local go_sem] max2_int min2_int max_two min_two max_three min_three max_four min_four   -- for this text's walks alone
attribute [local go_sem] Instr.field asAgg
set_option linter.unusedVariables false
set_option linter.unusedSimpArgs false

def rd_L7 (xs : List (List Int)) (i : Int) : (List Int) := xs.getD i.toNat ([] : List Int)
theorem at_L7 {w : World} {A : Option Addr} {n : Nat} {xs : List (List Int)} (h : Kd.C (Kd.slice 5 (Kd.int .u8)) w A n xs) (i : Int) (h0 : 0 ≤ i) (h1 : i < n) : ∃ ad A0 c0, A = some ad ∧ w.cell? (ad.add i.toNat) = some (.slice A0 (rd_L7 xs i).length c0) ∧ (rd_L7 xs i).length ≤ c0 ∧ (Kd.int .u8).C w A0 (rd_L7 xs i).length (rd_L7 xs i) := by
 obtain ⟨ad, c, e, _, hK, hc0⟩ := Kd.C_get h ([] : List Int) i h0 h1
 have hc : ∀ j u, c[j]? = some u → w.cell? (ad.add (i.toNat * 1 + j)) = some u := hc0
 obtain ⟨A0, c0, rfl, l0, g0⟩ := hK
 exact ⟨ad, A0, c0, e, by have hq := hc 0 _ rfl; rwa [Nat.mul_one, Nat.add_zero] at hq, l0, g0⟩

/-! #### struct type 57 -/
structure S57 where
 f0 : Int
 f1 : (List Int)
 f2 : S53
 f3 : Int
 f4 : Int
def z57 : S57 := ⟨(0 : Int), ([] : List Int), z53, (0 : Int), (0 : Int)⟩
def k57 : Kd S57 := Kd.iso (Kd.pair (Kd.int .i64) (Kd.pair (Kd.slice 5 (Kd.int .u8)) (Kd.pair k53 (Kd.pair (Kd.int .i64) (Kd.int .u8))))) (fun x : S57 => (x.f0, x.f1, x.f2, x.f3, x.f4))
theorem k57_heap : Kd.Heap k57 := Kd.heap_iso _ (Kd.heap_pair (Kd.heap_int .i64) (Kd.heap_pair (Kd.heap_slice 5 (Kd.heap_int .u8)) (Kd.heap_pair k53_heap (Kd.heap_pair (Kd.heap_int .i64) (Kd.heap_int .u8)))))
theorem k57_open {w : World} {x : S57} {cs : List Value} (h : k57.K w x cs) : ∃ A1 c1, cs = [.int .i64 x.f0, .slice A1 x.f1.length c1, .bool x.f2.f0, .bool x.f2.f1, .int .i64 x.f2.f2, .bool x.f2.f3, .int .i64 x.f3, .int .u8 x.f4] ∧ x.f1.length ≤ c1 ∧ (Kd.int .u8).C w A1 x.f1.length x.f1 := by
 obtain ⟨_, _, rfl, rfl, ⟨_, _, rfl, ⟨A1, c1, rfl, l1, g1⟩, ⟨_, _, rfl, s2, ⟨_, _, rfl, rfl, rfl⟩⟩⟩⟩ := h
 obtain rfl := k53_open s2
 exact ⟨A1, c1, rfl, l1, g1⟩
theorem k57_openM {w : World} {base : Nat} {ok : Nat → Prop} {x : S57} {cs : List Value} (h : k57.M w base ok x cs) : ∃ v1, cs = [.int .i64 x.f0, v1, .bool x.f2.f0, .bool x.f2.f1, .int .i64 x.f2.f2, .bool x.f2.f3, .int .i64 x.f3, .int .u8 x.f4] ∧ (Kd.int .u8).R 5 w base ok v1 x.f1 := by
 obtain ⟨_, _, rfl, rfl, ⟨_, _, rfl, ⟨v1, rfl, g1⟩, ⟨_, _, rfl, s2, ⟨_, _, rfl, rfl, rfl⟩⟩⟩⟩ := h
 obtain rfl := k53_openM s2
 exact ⟨v1, rfl, g1⟩
theorem k57_mk (w : World) (x : S57) {A1 : Option Addr} {c1 : Nat} (l1 : x.f1.length ≤ c1) (g1 : (Kd.int .u8).C w A1 x.f1.length x.f1) : k57.K w x [.int .i64 x.f0, .slice A1 x.f1.length c1, .bool x.f2.f0, .bool x.f2.f1, .int .i64 x.f2.f2, .bool x.f2.f3, .int .i64 x.f3, .int .u8 x.f4] := ⟨[.int .i64 x.f0], [.slice A1 x.f1.length c1, .bool x.f2.f0, .bool x.f2.f1, .int .i64 x.f2.f2, .bool x.f2.f3, .int .i64 x.f3, .int .u8 x.f4], rfl, rfl, ⟨[.slice A1 x.f1.length c1], [.bool x.f2.f0, .bool x.f2.f1, .int .i64 x.f2.f2, .bool x.f2.f3, .int .i64 x.f3, .int .u8 x.f4], rfl, ⟨A1, c1, rfl, l1, g1⟩, ⟨[.bool x.f2.f0, .bool x.f2.f1, .int .i64 x.f2.f2, .bool x.f2.f3], [.int .i64 x.f3, .int .u8 x.f4], rfl, (k53_mk w x.f2 ), ⟨[.int .i64 x.f3], [.int .u8 x.f4], rfl, rfl, rfl⟩⟩⟩⟩
theorem k57_mkM (w : World) (base : Nat) (ok : Nat → Prop) (x : S57) {v1 : Value} (g1 : (Kd.int .u8).R 5 w base ok v1 x.f1) : k57.M w base ok x [.int .i64 x.f0, v1, .bool x.f2.f0, .bool x.f2.f1, .int .i64 x.f2.f2, .bool x.f2.f3, .int .i64 x.f3, .int .u8 x.f4] := ⟨[.int .i64 x.f0], [v1, .bool x.f2.f0, .bool x.f2.f1, .int .i64 x.f2.f2, .bool x.f2.f3, .int .i64 x.f3, .int .u8 x.f4], rfl, rfl, ⟨[v1], [.bool x.f2.f0, .bool x.f2.f1, .int .i64 x.f2.f2, .bool x.f2.f3, .int .i64 x.f3, .int .u8 x.f4], rfl, ⟨v1, rfl, g1⟩, ⟨[.bool x.f2.f0, .bool x.f2.f1, .int .i64 x.f2.f2, .bool x.f2.f3], [.int .i64 x.f3, .int .u8 x.f4], rfl, (k53_mkM w base ok x.f2 ), ⟨[.int .i64 x.f3], [.int .u8 x.f4], rfl, rfl, rfl⟩⟩⟩⟩
theorem k57_openF {W : World} {ok : Nat → Prop} {x : S57} {cs : List Value} (h : Kd.FK k57 W ok x cs) : ∃ A1 c1, cs = [.int .i64 x.f0, .slice A1 x.f1.length c1, .bool x.f2.f0, .bool x.f2.f1, .int .i64 x.f2.f2, .bool x.f2.f3, .int .i64 x.f3, .int .u8 x.f4] ∧ x.f1.length ≤ c1 ∧ Kd.F (Kd.int .u8) W ok A1 x.f1.length x.f1 := by
 obtain ⟨A1, c1, rfl, l1, _⟩ := k57_open (Kd.FK_now h)
 exact ⟨A1, c1, rfl, l1, (fun W' hW => by obtain ⟨A1_, c1_, he, l1_, g1_⟩ := k57_open (h W' hW); injection (Option.some.inj (show some (Value.slice A1 x.f1.length c1) = some (Value.slice A1_ x.f1.length c1_) from congrArg (fun l => l[1]?) he)) with ha_ _ _; rw [ha_]; exact g1_)⟩
theorem k57_mkF (W : World) (ok : Nat → Prop) (x : S57) {A1 : Option Addr} {c1 : Nat} (l1 : x.f1.length ≤ c1) (g1 : Kd.F (Kd.int .u8) W ok A1 x.f1.length x.f1) : Kd.FK k57 W ok x [.int .i64 x.f0, .slice A1 x.f1.length c1, .bool x.f2.f0, .bool x.f2.f1, .int .i64 x.f2.f2, .bool x.f2.f3, .int .i64 x.f3, .int .u8 x.f4] := fun W2 hW => k57_mk W2 x l1 (g1 W2 hW)
def rd_T57 (xs : List S57) (i : Int) : S57 := xs.getD i.toNat z57
theorem at_T57 {w : World} {A : Option Addr} {n : Nat} {xs : List S57} (h : Kd.C k57 w A n xs) (i : Int) (h0 : 0 ≤ i) (h1 : i < n) : ∃ ad A1 c1, A = some ad ∧ w.cell? (ad.add (i.toNat * 8)) = some (.int .i64 (rd_T57 xs i).f0) ∧ w.cell? ⟨(ad.add (i.toNat * 8)).block, (ad.add (i.toNat * 8)).off + 1, none⟩ = some (.slice A1 (rd_T57 xs i).f1.length c1) ∧ w.cell? ⟨(ad.add (i.toNat * 8)).block, (ad.add (i.toNat * 8)).off + 2, none⟩ = some (.bool (rd_T57 xs i).f2.f0) ∧ w.cell? ⟨(ad.add (i.toNat * 8)).block, (ad.add (i.toNat * 8)).off + 3, none⟩ = some (.bool (rd_T57 xs i).f2.f1) ∧ w.cell? ⟨(ad.add (i.toNat * 8)).block, (ad.add (i.toNat * 8)).off + 4, none⟩ = some (.int .i64 (rd_T57 xs i).f2.f2) ∧ w.cell? ⟨(ad.add (i.toNat * 8)).block, (ad.add (i.toNat * 8)).off + 5, none⟩ = some (.bool (rd_T57 xs i).f2.f3) ∧ w.cell? ⟨(ad.add (i.toNat * 8)).block, (ad.add (i.toNat * 8)).off + 6, none⟩ = some (.int .i64 (rd_T57 xs i).f3) ∧ w.cell? ⟨(ad.add (i.toNat * 8)).block, (ad.add (i.toNat * 8)).off + 7, none⟩ = some (.int .u8 (rd_T57 xs i).f4) ∧ (rd_T57 xs i).f1.length ≤ c1 ∧ (Kd.int .u8).C w A1 (rd_T57 xs i).f1.length (rd_T57 xs i).f1 := by
 obtain ⟨ad, c, e, _, hK, hc0⟩ := Kd.C_get h z57 i h0 h1
 have hc : ∀ j u, c[j]? = some u → w.cell? (ad.add (i.toNat * 8 + j)) = some u := hc0
 obtain ⟨A1, c1, rfl, l1, g1⟩ := k57_open hK
 exact ⟨ad, A1, c1, e, hc 0 _ rfl, by rw [← add_field _ _ 1 (by omega)]; exact hc 1 _ rfl, by rw [← add_field _ _ 2 (by omega)]; exact hc 2 _ rfl, by rw [← add_field _ _ 3 (by omega)]; exact hc 3 _ rfl, by rw [← add_field _ _ 4 (by omega)]; exact hc 4 _ rfl, by rw [← add_field _ _ 5 (by omega)]; exact hc 5 _ rfl, by rw [← add_field _ _ 6 (by omega)]; exact hc 6 _ rfl, by rw [← add_field _ _ 7 (by omega)]; exact hc 7 _ rfl, l1, g1⟩

end Go.Proofs.YtjpedimndkibnaaGreatDoor.P
