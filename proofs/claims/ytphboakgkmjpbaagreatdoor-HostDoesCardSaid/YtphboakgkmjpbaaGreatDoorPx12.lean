/- pp.py and press2.py (wip/tools) wrote this text. -/
import Derived.Test.YtphboakgkmjpbaaGreatDoorJHostDoes1
import Derived.Test.YtphboakgkmjpbaaGreatDoorPx4
import Derived.Test.YtphboakgkmjpbaaGreatDoorPx5
import Derived.Test.YtphboakgkmjpbaaGreatDoorPx7
import Derived.Test.YtphboakgkmjpbaaGreatDoorPx11
namespace Go.Proofs.YtphboakgkmjpbaaGreatDoor.P
open Go.RowKit Go.Proofs.YtphboakgkmjpbaaGreatDoorW.PrintWords Go.Proofs.YtphboakgkmjpbaaGreatDoorW.PrintLast Go.Proofs.YtphboakgkmjpbaaGreatDoorW.PrintMore
attribute [local go_sem] max2_int min2_int max_two min_two max_three min_three max_four min_four
attribute [local go_sem] Instr.field asAgg
set_option linter.unusedVariables false
set_option linter.unusedSimpArgs false
set_option maxHeartbeats 8000000
set_option maxRecDepth 100000

/-! ### slices_Clone_byte_byte: function 80 -/
section
theorem infoU8_ : (Tryz.prog.info? 5).map (fun i => (i.zero, i.size, i.bytes)) = some (some (.int .u8 0), 1, 1) := by kernel_rfl
/-- slices.Clone of bytes: a nil row stays one, any other is made anew. -/
def slices_Clone_byte_byte.f (l : List Int) : Option (List Int) := if l.length ≤ 16383 then some l else none
theorem slices_Clone_byte_byte.calls (g : Option Addr) (c0 : Nat) (l0 r : List Int) (w : World) (hr0 : Kd.C (Kd.int .u8) w g l0.length l0) (o : l0.length ≤ c0) (h : slices_Clone_byte_byte.f l0 = some r) :
  Calls Tryz.prog 80 #[.slice g l0.length c0] w fun e w' => ∃ d : Value, e = .returned (d) ∧ Kd.R (Kd.int .u8) 5 w' w.heap.size (fun _ => True) d r ∧ Below w.heap.size w w' := by
 unfold slices_Clone_byte_byte.f at h
 by_cases hn : l0.length ≤ 16383
 rotate_left
 ·rw [if_neg hn] at h
  cases h
 rw [if_pos hn] at h
 obtain rfl := Option.some.inj h
 have HR := Z hr0
 clear h hr0
 rcases g with _ | ad
 ·have hl : l0 = [] := by
   rcases Nat.eq_zero_or_pos l0.length with i | i
   ·exact List.eq_nil_of_length_eq_zero i
   ·obtain ⟨ad, h, _⟩ := HR.out.2.2 i
    cases h
  subst hl
  have hE := fun (w : World) => Lib.run_eql_slice_nil (P := Tryz.prog) w 37 5 none 0 c0 0 0 Tryz.underlying37
  rw [List.length_nil]
  go_enter Tryz.func80, Tryz.ntmps80
  go_wp2
  go_ret
  exact ⟨_, rfl, Kd.R_nil _ _ _ _ _, Below.refl _ _⟩
 have HB := Z (Below.refl w.heap.size w)
 have hE := fun (w : World) => Lib.run_eql_slice_nil (P := Tryz.prog) w 37 5 (some ad) l0.length c0 0 0 Tryz.underlying37
 go_enter Tryz.func80, Tryz.ntmps80
 go_wp2_with (first
  | ((with_reducible refine gD_ 5 rfl ?_); refine Kd.R_lit (Kd.int .u8) w.heap.size 5 ?hg (N := 5) ?hd (xs := ([] : List Int)) (inner := []) (ok := fun _ => True) (okp := fun _ => True) ?hr ?hp (fun _ hk => hk) trivial (Below.refl _ _) (Nat.le_refl _) (by simp) ?_; (case hd => rfl); (case hg => rfl); (case hr => first | (go_simp; done) | (go_simp; rfl)); (case hp => exact (Reps.none _ _)); intro n w1 ho hb hg_ hnew_; clear hg_ hnew_; have HO := Z ho; have hB := Z hb; clear ho hb HB; have HB := hB; clear hB)
  | ((with_reducible refine gate_builtin (b := .append) (xs := #[.tmp 5, .tmp 6]) rfl ?_); at_builtin; refine Kd.R_append_rows (Kd.int .u8) (w0 := w) w.heap.size rfl (.tmp 5) (.tmp 6) 37 5 (.int .u8 0) 1 rfl Tryz.underlying37 infoU8_ rfl (by decide) (by omega) n ([] : List Int) l0 _ _ _ (fun _ => True) (fun _ => False) rfl rfl ?aO ?aR (fun _ _ h => h) (fun _ h => h.elim) ?aF ?aB ?aS ?aL ?_; (case aR => repeat (first | exact (Kd.C_below HR.out HB.out) | (with_reducible apply pC))); (case aB => exact bl_); (case aF => exact (fun _ _ => trivial)); (case aO => exact (by (with_reducible repeat apply pR); exact HO.out)); (case aS => exact (below_size bl_)); (case aL => simp only [List.length_nil]; omega); intro p w2 c a m j; clear m j; have l := Z c; have k := Z a; clear c a))
 go_ret
 exact ⟨_, rfl, by have := l.out; rwa [List.nil_append] at this, k.out⟩
end

/-! ### order_Put: function 56 -/
section
def byteT (k : Int) : Int := if k = 2 then 29 else if k = 3 then 17 else if k = 4 then 19 else if k = 5 then 5 else if k = 6 then 60 else 18
theorem run_index8 (w : World) (k : Int) (hk : k = 2 ∨ k = 3 ∨ k = 4 ∨ k = 5 ∨ k = 6 ∨ k = 7) : (Instr.index 143 (.agg #[.int .u8 0, .int .u8 0, .int .u8 29, .int .u8 17, .int .u8 19, .int .u8 5, .int .u8 60, .int .u8 18]) (.int .i64 k)).run Tryz.prog w = .ok (.int .u8 (byteT k)) w := by
 have hu := Tryz.underlying143
 have hs : Tryz.prog.cellsOf 5 = 1 := by kernel_rfl
 rcases hk with rfl | rfl | rfl | rfl | rfl | rfl <;> simp [Instr.index, asIntOf, run_underlying hu, byteT, hs] <;> rfl
attribute [local go_sem] run_index8
theorem byteOf_calls (k : Int) (a : 2 ≤ k) (b : k ≤ 7) (w : World) : Calls Tryz.prog 81 #[.int .i64 k] w fun e w' => e = .returned (.int .u8 (byteT k)) ∧ w' = w := by
 have hk : k = 2 ∨ k = 3 ∨ k = 4 ∨ k = 5 ∨ k = 6 ∨ k = 7 := by omega
 clear a b
 go_enter Tryz.func81, Tryz.ntmps81
 go_wp2
 go_ret
 exact ⟨rfl, rfl⟩
end
section
theorem six_all : ∀ n : Fin 64, (((six_at.f (n.val : Int)).map fun x => decide (0 ≤ x) && decide (x ≤ 255)) = some true) := by decide +kernel
def sixT (n : Int) : Int := (six_at.f n).getD 0
theorem six_some (n : Int) (b : 0 ≤ n) (c : n < 64) : six_at.f n = some (sixT n) ∧ 0 ≤ sixT n ∧ sixT n ≤ 255 := by
 obtain ⟨m, rfl⟩ := Int.eq_ofNat_of_zero_le b
 have h := six_all ⟨m, by omega⟩
 unfold sixT
 cases hq : six_at.f (m : Int) with
 | none => rw [show (((⟨m, by omega⟩ : Fin 64)).val : Int) = (m : Int) from rfl, hq] at h; cases h
 | some x =>
  rw [show (((⟨m, by omega⟩ : Fin 64)).val : Int) = (m : Int) from rfl, hq] at h
  have a : (decide (0 ≤ x) && decide (x ≤ 255)) = true := Option.some.inj h
  rw [Bool.and_eq_true] at a
  exact ⟨rfl, of_decide_eq_true a.1, of_decide_eq_true a.2⟩
theorem six_put (n : Int) (a : 0 ≤ n) (b : n < 64) : six_Put.f n = some (sixT n, none, []) := by
 unfold six_Put.f
 rw [if_neg (by omega), if_neg (by omega), (six_some n a b).1, Option.bind_some]
theorem addr_sized (s : Int) (a : 1 ≤ s) (b : s ≤ 16383) (w : World) : Calls Tryz.prog 90 #[.int .i64 s] w fun e w' => e = .returned (.bool true) ∧ w' = w := by
 have c : (s ≥ 1) = True := eq_true a
 have d : (s ≤ 16383) = True := eq_true b
 have f : decide (1 ≤ s) = true := decide_eq_true a
 have g : decide (s ≤ 16383) = true := decide_eq_true b
 go_enter Tryz.func90, Tryz.ntmps90
 go_wp2
 go_ret
 exact ⟨rfl, rfl⟩
theorem addr_Long (s : Int) (a : s ≤ 4096) (w : World) : Calls Tryz.prog 91 #[.int .i64 s] w fun e w' => e = .returned (.bool false) ∧ w' = w := by
 have b : decide (4096 < s) = false := decide_eq_false (by omega)
 go_enter Tryz.func91, Tryz.ntmps91
 go_wp2
 go_ret
 exact ⟨rfl, rfl⟩
theorem b_and63 (a : Int) (c : 0 ≤ a) (d : a < 4096) : bits .and .i64 a 63 = a % 64 := by
 have h := bits_mask .i64 63 (by decide) (fun n h₀ h₁ => by rw [IntKind.wrap_i64]; omega) 6 (by decide) a (by omega) (by omega)
 have e : ((2 : Int) ^ 6 - 1) = 63 := by decide
 have b : ((2 : Int) ^ 6) = 64 := by decide
 rw [e, b] at h
 exact h
theorem addr_Put_calls (a s : Int) (D : 0 ≤ a) (J : a < s) (E : s ≤ 4096) (w : World) : Calls Tryz.prog 82 #[.int .i64 a, .int .i64 s] w fun e w' => e = .returned (.tuple #[.agg #[.int .u8 (sixT (a / 64)), .int .u8 (sixT (a % 64))], .nilIface]) ∧ Below w.heap.size w w' := by
 have HB := Z (Below.refl w.heap.size w)
 have hu := Tryz.underlying136
 have K : decide (a < 0) = false := decide_eq_false (by omega)
 have L : decide (s ≤ a) = false := decide_eq_false (by omega)
 have hsz := addr_sized s (by omega) (by omega)
 have hlg := addr_Long s E
 have HS := Z hsz
 have HL := Z hlg
 clear hsz hlg
 go_enter Tryz.func82, Tryz.ntmps82
 go_wp2_with (first
  | ((with_reducible refine gD_ 4 rfl ?_); refine bx_ 4 136 #[.int .u8 0, .int .u8 0] ?_; intro u hg w1 hbox hb; have d := bs_ hb; have g := Z hbox; have h := Z (le_new hg (below_size bl_) : w.heap.size ≤ u); clear HB hb hbox hg; have HB := d; have b := g; have F := h; clear d g h)
  | ((with_reducible refine gF_ 90 rfl ?_); refine gd_ (some 13) Tryz.func90 (HS.out _) ?_; rintro e w' ⟨rfl, rfl⟩; refine ⟨_, rfl, ?_⟩)
  | ((with_reducible refine gF_ 91 rfl ?_); refine gd_ (some 29) Tryz.func91 (HL.out _) ?_; rintro e w' ⟨rfl, rfl⟩; refine ⟨_, rfl, ?_⟩)
  | ((with_reducible refine gD_ 6 rfl ?_); refine bx_ 6 136 #[.int .u8 0, .int .u8 0] ?_; intro z hg w2 hbox hb; have d := bs_ hb; have g := Z hbox; have h := Z (le_new hg (below_size bl_) : w.heap.size ≤ z); have j := kb' b hb; have A := nl' b hg; clear HB b hb hbox hg; have HB := d; have c := g; have G := h; have b := j; have q := A; clear d g h j A))
 rw [b_and63 a D (by omega)]
 obtain ⟨w3, k⟩ : ∃ w3 : World, w3 = w2.alloc (.cells #[.int .i64 (a / 64), .int .i64 (a % 64)] 3) := ⟨_, rfl⟩
 obtain ⟨n, l⟩ : ∃ n : Nat, n = w2.heap.size := ⟨_, rfl⟩
 rw [← k, ← l]
 have d := Z (show w3.heap[n]? = some (.cells #[.int .i64 (a / 64), .int .i64 (a % 64)] 3 (0, 0)) by rw [k, l]; exact blk_new _ _)
 have g := Z (show w3.heap[u]? = some (.cells #[.int .u8 0, .int .u8 0] 136 (0, 0)) by rw [k]; exact pK b.out)
 have h := Z (show w3.heap[z]? = some (.cells #[.int .u8 0, .int .u8 0] 136 (0, 0)) by rw [k]; exact pK c.out)
 have j := Z (show Below w.heap.size w w3 by rw [k]; exact bl_)
 have C := Z (show u ≠ n by rw [l]; exact Nat.ne_of_lt (blk_lt b.out))
 have r := Z (show z ≠ n by rw [l]; exact Nat.ne_of_lt (blk_lt c.out))
 clear k l b c HB
 have i := d
 have b := g
 have c := h
 have HB := j
 clear d g h j
 go_loopg [42] 2 (fun m B w' => ∃ (y v x : Int), B = .int .i64 y ∧ Aside0 ((y = 0 ∧ v = 0 ∧ x = 0) ∨ (y = 1 ∧ v = sixT (a / 64) ∧ x = 0) ∨ (y = 2 ∧ v = sixT (a / 64) ∧ x = sixT (a % 64))) ∧ Aside0 (y + (m : Int) = 2) ∧ Aside0 (w'.heap[u]? = some (.cells #[.int .u8 0, .int .u8 0] 136 (0, 0))) ∧ Aside0 (w'.heap[z]? = some (.cells #[.int .u8 v, .int .u8 x] 136 (0, 0))) ∧ Aside0 (w'.heap[n]? = some (.cells #[.int .i64 (a / 64), .int .i64 (a % 64)] 3 (0, 0))) ∧ Aside0 (Below w.heap.size w w'))
 case atStart => exact ⟨0, 0, 0, rfl, ⟨.inl ⟨rfl, rfl, rfl⟩⟩, ⟨by omega⟩, b, c, i, HB⟩
 case round =>
  clear b c i HB
  obtain ⟨y, v, x, rfl, HY, YM, b, c, i, HB⟩ := hrel
  have ym := YM.out
  rcases HY.out with ⟨rfl, rfl, rfl⟩ | ⟨rfl, rfl, rfl⟩ | ⟨rfl, rfl, rfl⟩
  ·obtain rfl : gk = 2 := by omega
   clear HY YM ym
   have k0 := cells2 i.out
   go_wp2_with (first | ((with_reducible refine gF_ 58 rfl ?_); refine gd_ (some 49) Tryz.func58 (six_Put.calls (a / 64) (sixT (a / 64)) none [] _ (six_put _ (by omega) (by omega))) ?_; rintro e w5 ⟨vi, rfl, _, hb⟩; refine ⟨_, rfl, ?_⟩; simp only [errW_none]; replace b := kb' b hb; replace c := kb' c hb; replace i := kb' i hb; replace HB := bs_ hb; clear hb k0; have k0 := cells2 c.out))
   go_roundg 1
   case measure => omega
   case rel => exact ⟨1, sixT (a / 64), 0, rfl, ⟨.inr (.inl ⟨rfl, rfl, rfl⟩)⟩, ⟨by omega⟩, ⟨blk_off b.out q.out off2_⟩, ⟨blk_put (cs := #[.int .u8 0, .int .u8 0]) c.out 0 _ rfl⟩, ⟨blk_off i.out r.out.symm off2_⟩, ⟨bl_⟩⟩
  ·obtain rfl : gk = 1 := by omega
   clear HY YM ym
   have k0 := cells2 i.out
   go_wp2_with (first | ((with_reducible refine gF_ 58 rfl ?_); refine gd_ (some 49) Tryz.func58 (six_Put.calls (a % 64) (sixT (a % 64)) none [] _ (six_put _ (by omega) (by omega))) ?_; rintro e w5 ⟨vi, rfl, _, hb⟩; refine ⟨_, rfl, ?_⟩; simp only [errW_none]; replace b := kb' b hb; replace c := kb' c hb; replace i := kb' i hb; replace HB := bs_ hb; clear hb k0; have k0 := cells2 c.out))
   go_roundg 0
   case measure => omega
   case rel => exact ⟨2, sixT (a / 64), sixT (a % 64), rfl, ⟨.inr (.inr ⟨rfl, rfl, rfl⟩)⟩, ⟨by omega⟩, ⟨blk_off b.out q.out off2_⟩, ⟨blk_put (cs := #[.int .u8 (sixT (a / 64)), .int .u8 0]) c.out 1 _ rfl⟩, ⟨blk_off i.out r.out.symm off2_⟩, ⟨bl_⟩⟩
  clear HY YM ym
  have k0 := cells2 c.out
  have M := cells2 b.out
  go_wp2
  refine bodyPost_ret (results_ct rfl _ _ u 136 #[.int .u8 (sixT (a / 64)), .int .u8 (sixT (a % 64))] (0, 0) _ rfl (blk_put (cs := #[.int .u8 (sixT (a / 64)), .int .u8 0]) (blk_put (cs := #[.int .u8 0, .int .u8 0]) b.out 0 _ rfl) 1 _ rfl) Tryz.underlying136 rfl (by kernel_rfl)) rfl ?_
  exact ⟨rfl, bl_⟩
end
section
theorem two_C {w : World} {g : Nat} {x y : Int} (h : w.heap[g]? = some (.cells #[.int .u8 x, .int .u8 y] 136 (0, 0))) : Kd.C (Kd.int .u8) w (some ⟨g, 0, none⟩) 2 [x, y] := by
 obtain ⟨k0, k1, _, _⟩ := cells2 h
 refine Kd.C_of_reads (d := (0 : Int)) ⟨rfl, by decide, fun _ => ⟨⟨g, 0, none⟩, rfl, fun j hj => ?_⟩⟩
 match j, hj with
 | 0, _ => exact k0
 | 1, _ => exact k1
theorem order_Put1 (kz : Nat) (c : Option Addr) (c1 : Nat) (tx : List Int) (ap an : Bool) (as_ : Int) (am : Bool) (ad ch s : Int) (w : World) (hr : Kd.C (Kd.int .u8) w c tx.length tx) (hc : tx.length ≤ c1) (hn : tx.length ≤ 16383) (A : List S177) (hR : order_Right.f kz 1 tx ap an as_ am ad ch s = some (none, A)) : Calls Tryz.prog 56 #[.agg #[.int .i64 1, .slice c tx.length c1, .bool ap, .bool an, .int .i64 as_, .bool am, .int .i64 ad, .int .u8 ch], .int .i64 s] w fun e w' => ∃ z : Value, e = .returned (.tuple #[z, .nilIface]) ∧ Kd.R (Kd.int .u8) 5 w' w.heap.size (fun k_ => w.heap.size ≤ k_) z tx ∧ Below w.heap.size w w' := by
 have HT := Z hr
 have HTc := Z hc
 have HB := Z (Below.refl w.heap.size w)
 have HR := Z hR
 have hu := Tryz.underlying49
 have B := Tryz.underlying34
 have D := Tryz.underlying45
 have E := Tryz.underlying136
 clear hr hc hR
 have HC := Z (show slices_Clone_byte_byte.f tx = some tx from if_pos hn)
 go_enter Tryz.func56, Tryz.ntmps56
 go_wp2_with (first | ((with_reducible refine gD_ 2 rfl ?_); refine bx_ 2 49 #[.int .i64 1, .slice c tx.length c1, .bool ap, .bool an, .int .i64 as_, .bool am, .int .i64 ad, .int .u8 ch] ?_; intro g hg w1 hbox hb; have BK := Z hbox; replace HB := bs_ hb; clear hb hbox hg; have d := cells8 BK.out) | ((with_reducible refine gate_callee (f := 39) rfl ?_); refine goesL_ (some 14) rfl rfl Tryz.func39 (by kernel_rfl) rfl #[.agg #[.int .i64 1, .slice c tx.length c1, .bool ap, .bool an, .int .i64 as_, .bool am, .int .i64 ad, .int .u8 ch], .int .i64 s] rfl ag_ ?_; (with_reducible refine (order_Right.calls kz 1 c c1 tx ap an as_ am ad ch s none A _ ?s1 ?s2 HR.out).mono ?_); (case s1 => exact Kd.C_below HT.out HB.out); (case s2 => exact HTc.out); rintro e w5 ⟨ev, rfl, he, hb⟩; refine ⟨_, rfl, ?_⟩; simp only [errW_none]; clear he; clear d; replace BK := kb' BK hb; replace HB := bs_ hb; clear hb; have d := cells8 BK.out) | ((with_reducible refine gate_callee (f := 80) rfl ?_); refine goesL_ (some 23) rfl rfl Tryz.func80 (by kernel_rfl) rfl #[.slice c tx.length c1] rfl ag_ ?_; (with_reducible refine (slices_Clone_byte_byte.calls c c1 tx tx _ ?s1 ?s2 HC.out).mono ?_); (case s1 => exact Kd.C_below HT.out HB.out); (case s2 => exact HTc.out); rintro e w6 ⟨F, rfl, ho, hb⟩; refine ⟨_, rfl, ?_⟩; have HO := Z (Kd.R_lower ho (below_size bl_)); have a := bs_ hb; clear HB ho hb BK; clear d; have HB := a; clear a))
 go_ret2
 exact ⟨_, rfl, Kd.R_reok (ok := fun k_ => w.heap.size ≤ k_) rfl HO.out (fun k_ e_ => Kd.R_base HO.out k_ e_), bl_⟩
theorem order_Put4 (kz : Nat) (y : Option Addr) (c1 : Nat) (tx : List Int) (ap an : Bool) (as_ : Int) (am : Bool) (ad ch s : Int) (w : World) (hr : Kd.C (Kd.int .u8) w y tx.length tx) (hc : tx.length ≤ c1) (A : List S177) (hR : order_Right.f kz 4 tx ap an as_ am ad ch s = some (none, A)) : Calls Tryz.prog 56 #[.agg #[.int .i64 4, .slice y tx.length c1, .bool ap, .bool an, .int .i64 as_, .bool am, .int .i64 ad, .int .u8 ch], .int .i64 s] w fun e w' => ∃ z : Value, e = .returned (.tuple #[z, .nilIface]) ∧ Kd.R (Kd.int .u8) 5 w' w.heap.size (fun k_ => w.heap.size ≤ k_) z [byteT 4] ∧ Below w.heap.size w w' := by
 have HT := Z hr
 have HTc := Z hc
 have HB := Z (Below.refl w.heap.size w)
 have HR := Z hR
 have hu := Tryz.underlying49
 have B := Tryz.underlying34
 have D := Tryz.underlying45
 have E := Tryz.underlying136
 clear hr hc hR
 go_enter Tryz.func56, Tryz.ntmps56
 go_wp2_with (first | ((with_reducible refine gD_ 2 rfl ?_); refine bx_ 2 49 #[.int .i64 4, .slice y tx.length c1, .bool ap, .bool an, .int .i64 as_, .bool am, .int .i64 ad, .int .u8 ch] ?_; intro g hg w1 hbox hb; have BK := Z hbox; replace HB := bs_ hb; clear hb hbox hg; have c := cells8 BK.out) | ((with_reducible refine gate_callee (f := 39) rfl ?_); refine goesL_ (some 14) rfl rfl Tryz.func39 (by kernel_rfl) rfl #[.agg #[.int .i64 4, .slice y tx.length c1, .bool ap, .bool an, .int .i64 as_, .bool am, .int .i64 ad, .int .u8 ch], .int .i64 s] rfl ag_ ?_; (with_reducible refine (order_Right.calls kz 4 y c1 tx ap an as_ am ad ch s none A _ ?s1 ?s2 HR.out).mono ?_); (case s1 => exact Kd.C_below HT.out HB.out); (case s2 => exact HTc.out); rintro e w5 ⟨ev, rfl, he, hb⟩; refine ⟨_, rfl, ?_⟩; simp only [errW_none]; clear he; clear c; replace BK := kb' BK hb; replace HB := bs_ hb; clear hb; have c := cells8 BK.out) | ((with_reducible refine gF_ 81 rfl ?_); refine gd_ (some 26) Tryz.func81 (byteOf_calls 4 (by omega) (by omega) _) ?_; rintro e w' ⟨rfl, rfl⟩; refine ⟨_, rfl, ?_⟩) | ((with_reducible refine gD_ 27 rfl ?_); refine Kd.R_lit (Kd.int .u8) w.heap.size 5 ?hg (N := 27) ?hd (xs := ([byteT 4] : List Int)) (inner := [.int .u8 (byteT 4)]) (ok := fun _ => True) (okp := fun _ => True) ?hr ?hp (fun _ hk => hk) trivial HB.out (below_size HB.out) (by simp) ?_; (case hd => rfl); (case hg => rfl); (case hr => first | (go_simp; done) | (go_simp; rfl)); (case hp => exact (Reps.one (show Kd.M (Kd.int .u8) _ _ _ (byteT 4) [.int .u8 (byteT 4)] from rfl) (Reps.none _ _))); intro G F ho hb hg_ hnew_; have a := Z (blk_grown BK.out hg_ (by simp)); have HO := Z ho; clear ho HB BK hg_ hnew_; clear c; have HB := Z hb; have BK := a; clear hb a; have c := cells8 BK.out))
 go_ret2
 exact ⟨_, rfl, Kd.R_reok (ok := fun k_ => w.heap.size ≤ k_) rfl HO.out (fun k_ e_ => Kd.R_base HO.out k_ e_), bl_⟩
theorem order_Put5 (kz : Nat) (y : Option Addr) (c1 : Nat) (tx : List Int) (ap an : Bool) (as_ : Int) (am : Bool) (ad ch s : Int) (w : World) (hr : Kd.C (Kd.int .u8) w y tx.length tx) (hc : tx.length ≤ c1) (A : List S177) (hR : order_Right.f kz 5 tx ap an as_ am ad ch s = some (none, A)) : Calls Tryz.prog 56 #[.agg #[.int .i64 5, .slice y tx.length c1, .bool ap, .bool an, .int .i64 as_, .bool am, .int .i64 ad, .int .u8 ch], .int .i64 s] w fun e w' => ∃ z : Value, e = .returned (.tuple #[z, .nilIface]) ∧ Kd.R (Kd.int .u8) 5 w' w.heap.size (fun k_ => w.heap.size ≤ k_) z [byteT 5] ∧ Below w.heap.size w w' := by
 have HT := Z hr
 have HTc := Z hc
 have HB := Z (Below.refl w.heap.size w)
 have HR := Z hR
 have hu := Tryz.underlying49
 have B := Tryz.underlying34
 have D := Tryz.underlying45
 have E := Tryz.underlying136
 clear hr hc hR
 go_enter Tryz.func56, Tryz.ntmps56
 go_wp2_with (first | ((with_reducible refine gD_ 2 rfl ?_); refine bx_ 2 49 #[.int .i64 5, .slice y tx.length c1, .bool ap, .bool an, .int .i64 as_, .bool am, .int .i64 ad, .int .u8 ch] ?_; intro g hg w1 hbox hb; have BK := Z hbox; replace HB := bs_ hb; clear hb hbox hg; have c := cells8 BK.out) | ((with_reducible refine gate_callee (f := 39) rfl ?_); refine goesL_ (some 14) rfl rfl Tryz.func39 (by kernel_rfl) rfl #[.agg #[.int .i64 5, .slice y tx.length c1, .bool ap, .bool an, .int .i64 as_, .bool am, .int .i64 ad, .int .u8 ch], .int .i64 s] rfl ag_ ?_; (with_reducible refine (order_Right.calls kz 5 y c1 tx ap an as_ am ad ch s none A _ ?s1 ?s2 HR.out).mono ?_); (case s1 => exact Kd.C_below HT.out HB.out); (case s2 => exact HTc.out); rintro e w5 ⟨ev, rfl, he, hb⟩; refine ⟨_, rfl, ?_⟩; simp only [errW_none]; clear he; clear c; replace BK := kb' BK hb; replace HB := bs_ hb; clear hb; have c := cells8 BK.out) | ((with_reducible refine gF_ 81 rfl ?_); refine gd_ (some 26) Tryz.func81 (byteOf_calls 5 (by omega) (by omega) _) ?_; rintro e w' ⟨rfl, rfl⟩; refine ⟨_, rfl, ?_⟩) | ((with_reducible refine gD_ 27 rfl ?_); refine Kd.R_lit (Kd.int .u8) w.heap.size 5 ?hg (N := 27) ?hd (xs := ([byteT 5] : List Int)) (inner := [.int .u8 (byteT 5)]) (ok := fun _ => True) (okp := fun _ => True) ?hr ?hp (fun _ hk => hk) trivial HB.out (below_size HB.out) (by simp) ?_; (case hd => rfl); (case hg => rfl); (case hr => first | (go_simp; done) | (go_simp; rfl)); (case hp => exact (Reps.one (show Kd.M (Kd.int .u8) _ _ _ (byteT 5) [.int .u8 (byteT 5)] from rfl) (Reps.none _ _))); intro G F ho hb hg_ hnew_; have a := Z (blk_grown BK.out hg_ (by simp)); have HO := Z ho; clear ho HB BK hg_ hnew_; clear c; have HB := Z hb; have BK := a; clear hb a; have c := cells8 BK.out))
 go_ret2
 exact ⟨_, rfl, Kd.R_reok (ok := fun k_ => w.heap.size ≤ k_) rfl HO.out (fun k_ e_ => Kd.R_base HO.out k_ e_), bl_⟩
theorem order_Put2 (kz : Nat) (z : Option Addr) (c1 : Nat) (tx : List Int) (ap an : Bool) (as_ : Int) (am : Bool) (ad ch s : Int) (w : World) (hr : Kd.C (Kd.int .u8) w z tx.length tx) (hc : tx.length ≤ c1) (p1 : Int) (p3 : List S177) (hP : attr_Put.f kz ap an as_ am = some (p1, none, p3)) (E : List S177) (hR : order_Right.f kz 2 tx ap an as_ am ad ch s = some (none, E)) : Calls Tryz.prog 56 #[.agg #[.int .i64 2, .slice z tx.length c1, .bool ap, .bool an, .int .i64 as_, .bool am, .int .i64 ad, .int .u8 ch], .int .i64 s] w fun e w' => ∃ D : Value, e = .returned (.tuple #[D, .nilIface]) ∧ Kd.R (Kd.int .u8) 5 w' w.heap.size (fun k_ => w.heap.size ≤ k_) D [byteT 2, p1] ∧ Below w.heap.size w w' := by
 have HT := Z hr
 have HTc := Z hc
 have HB := Z (Below.refl w.heap.size w)
 have HR := Z hR
 have hu := Tryz.underlying49
 have F := Tryz.underlying34
 have G := Tryz.underlying45
 have H := Tryz.underlying136
 clear hr hc hR
 have HP := Z hP
 clear hP
 go_enter Tryz.func56, Tryz.ntmps56
 go_wp2_with (first | ((with_reducible refine gD_ 2 rfl ?_); refine bx_ 2 49 #[.int .i64 2, .slice z tx.length c1, .bool ap, .bool an, .int .i64 as_, .bool am, .int .i64 ad, .int .u8 ch] ?_; intro g hg w1 hbox hb; have BK := Z hbox; replace HB := bs_ hb; clear hb hbox hg; have d := cells8 BK.out) | ((with_reducible refine gate_callee (f := 39) rfl ?_); refine goesL_ (some 14) rfl rfl Tryz.func39 (by kernel_rfl) rfl #[.agg #[.int .i64 2, .slice z tx.length c1, .bool ap, .bool an, .int .i64 as_, .bool am, .int .i64 ad, .int .u8 ch], .int .i64 s] rfl ag_ ?_; (with_reducible refine (order_Right.calls kz 2 z c1 tx ap an as_ am ad ch s none E _ ?s1 ?s2 HR.out).mono ?_); (case s1 => exact Kd.C_below HT.out HB.out); (case s2 => exact HTc.out); rintro e w5 ⟨ev, rfl, he, hb⟩; refine ⟨_, rfl, ?_⟩; simp only [errW_none]; clear he; clear d; replace BK := kb' BK hb; replace HB := bs_ hb; clear hb; have d := cells8 BK.out) | ((with_reducible refine gF_ 81 rfl ?_); refine gd_ (some 26) Tryz.func81 (byteOf_calls 2 (by omega) (by omega) _) ?_; rintro e w' ⟨rfl, rfl⟩; refine ⟨_, rfl, ?_⟩) | ((with_reducible refine gD_ 27 rfl ?_); refine Kd.R_lit (Kd.int .u8) w.heap.size 5 ?hg (N := 27) ?hd (xs := ([byteT 2] : List Int)) (inner := [.int .u8 (byteT 2)]) (ok := fun _ => True) (okp := fun _ => True) ?hr ?hp (fun _ hk => hk) trivial HB.out (below_size HB.out) (by simp) ?_; (case hd => rfl); (case hg => rfl); (case hr => first | (go_simp; done) | (go_simp; rfl)); (case hp => exact (Reps.one (show Kd.M (Kd.int .u8) _ _ _ (byteT 2) [.int .u8 (byteT 2)] from rfl) (Reps.none _ _))); intro L I ho hb hg_ hnew_; have a := Z (blk_grown BK.out hg_ (by simp)); have HO := Z ho; clear ho HB BK hg_ hnew_; clear d; have HB := Z hb; have BK := a; clear hb a; have d := cells8 BK.out) | ((with_reducible refine gF_ 62 rfl ?_); refine gd_ (some 35) Tryz.func62 (attr_Put.calls kz ap an as_ am p1 none p3 _ HP.out) ?_; rintro e J ⟨ev, rfl, he, hb⟩; refine ⟨_, rfl, ?_⟩; simp only [errW_none]; clear d; replace BK := kb' BK hb; replace HO := rb' HO hb; replace HB := bs_ hb; clear he hb; obtain ⟨Ao, co, eo⟩ := Kd.R_slice HO.out; subst eo; have d := cells8 BK.out) | ((with_reducible refine gate_builtin (b := .append) (xs := #[.tmp 38, .tmp 40]) rfl ?_); at_builtin; refine Kd.R_append (Kd.int .u8) (w0 := w) w.heap.size rfl (.tmp 38) (.tmp 40) 37 5 (.int .u8 0) 1 rfl Tryz.underlying37 infoU8_ rfl (by decide) (by omega) (.slice Ao 1 co) [byteT 2] (p1) [.int .u8 (p1)] (fun _ => True) (fun _ => False) rfl rfl ?aP (fun _ hk => hk.elim) ?aF ?aO ?aB ?aS ?aL ?_; (case aP => exact rfl); (case aB => exact bl_); (case aF => exact fun _ _ => trivial); (case aO => exact HO.out); (case aS => exact (below_size bl_)); (case aL => simp); intro O K ho hb hg hat; clear d; clear BK; have A := Z ho; clear ho HB HO; have HB := Z hb; have HO := A; clear A hb hg hat))
 go_ret2
 exact ⟨_, rfl, Kd.R_reok (ok := fun k_ => w.heap.size ≤ k_) rfl HO.out (fun k_ e_ => Kd.R_base HO.out k_ e_), bl_⟩
theorem order_Put3 (kz : Nat) (F : Option Addr) (c1 : Nat) (tx : List Int) (ap an : Bool) (as_ : Int) (am : Bool) (ad ch s : Int) (w : World) (hr : Kd.C (Kd.int .u8) w F tx.length tx) (hc : tx.length ≤ c1) (I : 0 ≤ ad) (hA1 : ad < s) (J : s ≤ 4096) (e2 : List S177) (hR : order_Right.f kz 3 tx ap an as_ am ad ch s = some (none, e2)) : Calls Tryz.prog 56 #[.agg #[.int .i64 3, .slice F tx.length c1, .bool ap, .bool an, .int .i64 as_, .bool am, .int .i64 ad, .int .u8 ch], .int .i64 s] w fun e w' => ∃ V : Value, e = .returned (.tuple #[V, .nilIface]) ∧ Kd.R (Kd.int .u8) 5 w' w.heap.size (fun k_ => w.heap.size ≤ k_) V [byteT 3, sixT (ad / 64), sixT (ad % 64)] ∧ Below w.heap.size w w' := by
 have HT := Z hr
 have HTc := Z hc
 have HB := Z (Below.refl w.heap.size w)
 have HR := Z hR
 have hu := Tryz.underlying49
 have ag := Tryz.underlying34
 have ah := Tryz.underlying45
 have ai := Tryz.underlying136
 clear hr hc hR
 have W := Z I
 have X := Z hA1
 have Y := Z J
 clear I hA1 J
 go_enter Tryz.func56, Tryz.ntmps56
 go_wp2_with (first | ((with_reducible refine gD_ 2 rfl ?_); refine bx_ 2 49 #[.int .i64 3, .slice F tx.length c1, .bool ap, .bool an, .int .i64 as_, .bool am, .int .i64 ad, .int .u8 ch] ?_; intro g hg w1 hbox hb; have BK := Z hbox; replace HB := bs_ hb; clear hb hbox hg; have c := cells8 BK.out) | ((with_reducible refine gate_callee (f := 39) rfl ?_); refine goesL_ (some 14) rfl rfl Tryz.func39 (by kernel_rfl) rfl #[.agg #[.int .i64 3, .slice F tx.length c1, .bool ap, .bool an, .int .i64 as_, .bool am, .int .i64 ad, .int .u8 ch], .int .i64 s] rfl ag_ ?_; (with_reducible refine (order_Right.calls kz 3 F c1 tx ap an as_ am ad ch s none e2 _ ?s1 ?s2 HR.out).mono ?_); (case s1 => exact Kd.C_below HT.out HB.out); (case s2 => exact HTc.out); rintro e w5 ⟨ev, rfl, he, hb⟩; refine ⟨_, rfl, ?_⟩; simp only [errW_none]; clear he; clear c; replace BK := kb' BK hb; replace HB := bs_ hb; clear hb; have c := cells8 BK.out) | ((with_reducible refine gF_ 81 rfl ?_); refine gd_ (some 26) Tryz.func81 (byteOf_calls 3 (by omega) (by omega) _) ?_; rintro e w' ⟨rfl, rfl⟩; refine ⟨_, rfl, ?_⟩) | ((with_reducible refine gD_ 27 rfl ?_); refine Kd.R_lit (Kd.int .u8) w.heap.size 5 ?hg (N := 27) ?hd (xs := ([byteT 3] : List Int)) (inner := [.int .u8 (byteT 3)]) (ok := fun _ => True) (okp := fun _ => True) ?hr ?hp (fun _ hk => hk) trivial HB.out (below_size HB.out) (by simp) ?_; (case hd => rfl); (case hg => rfl); (case hr => first | (go_simp; done) | (go_simp; rfl)); (case hp => exact (Reps.one (show Kd.M (Kd.int .u8) _ _ _ (byteT 3) [.int .u8 (byteT 3)] from rfl) (Reps.none _ _))); intro v1 aj ho hb hg_ hnew_; have a := Z (blk_grown BK.out hg_ (by simp)); have HO := Z ho; clear ho HB BK hg_ hnew_; clear c; have HB := Z hb; have BK := a; clear hb a; have c := cells8 BK.out) | ((with_reducible refine gF_ 82 rfl ?_); refine gd_ (some 51) Tryz.func82 (addr_Put_calls ad s W.out X.out Y.out _) ?_; rintro e ak ⟨rfl, hb⟩; refine ⟨_, rfl, ?_⟩; clear c; replace BK := kb' BK hb; replace HO := rb' HO hb; replace HB := bs_ hb; clear hb; have c := cells8 BK.out) | ((with_reducible refine gD_ 10 rfl ?_); refine bx_ 10 136 #[.int .u8 0, .int .u8 0] ?_; intro G hg ac hbox hb; clear c; have NB := nl' BK hg; have NO := Z (own_newB HO.out hg); have GE := Z (le_new hg (below_size bl_) : w.heap.size ≤ G); replace BK := kb' BK hb; replace HO := rb' HO hb; have BA := Z hbox; replace HB := bs_ hb; clear hb hbox hg; have c := cells8 BK.out; have k0 := cells2 BA.out) | ((with_reducible refine gate_store (t := 136) (p := 10) rfl ?_); refine sx_ 136 10 ((ac.setCell ⟨G, 0, none⟩ (.int .u8 (sixT (ad / 64)))).setCell ⟨G, 1, none⟩ (.int .u8 (sixT (ad % 64)))) ?_; intro E hw; have K : Aside0 (E.heap[G]? = some (.cells #[.int .u8 (sixT (ad / 64)), .int .u8 (sixT (ad % 64))] 136 (0, 0))) := ⟨by rw [hw]; exact blk_put (cs := #[.int .u8 (sixT (ad / 64)), .int .u8 0]) (blk_put (cs := #[.int .u8 0, .int .u8 0]) BA.out 0 _ rfl) 1 _ rfl⟩; have L : Aside0 (E.heap[g]? = some (.cells #[.int .i64 3, .slice F tx.length c1, .bool ap, .bool an, .int .i64 as_, .bool am, .int .i64 ad, .int .u8 ch] 49 (0, 0))) := ⟨by rw [hw]; exact blk_off BK.out NB.out off2_⟩; have O : Aside0 (Kd.R (Kd.int .u8) 5 E w.heap.size (fun _ => True) v1 [byteT 3]) := ⟨by rw [hw]; exact R_offoB HO.out rfl NO.out off2_⟩; have P : Aside0 (Below w.heap.size w E) := ⟨by rw [hw]; exact bl_⟩; clear hw k0 HO BA BK HB; clear c; have BA := K; have BK := L; have HO := O; have HB := P; clear K L O P; have c := cells8 BK.out) | ((with_reducible refine gate_builtin (b := .append) (xs := #[.tmp 57, .tmp 58]) rfl ?_); at_builtin; refine Kd.R_append_rows (Kd.int .u8) (w0 := w) w.heap.size rfl (.tmp 57) (.tmp 58) 37 5 (.int .u8 0) 1 rfl Tryz.underlying37 infoU8_ rfl (by decide) (by omega) v1 [byteT 3] [sixT (ad / 64), sixT (ad % 64)] (some ⟨G, 0, none⟩) 2 2 (fun _ => True) (fun _ => False) rfl rfl ?aO ?aR (fun _ _ h => h) (fun _ h => h.elim) ?aF ?aB ?aS ?aL ?_; (case aR => exact two_C BA.out); (case aB => exact bl_); (case aF => exact fun _ _ => trivial); (case aO => exact HO.out); (case aS => exact (below_size bl_)); (case aL => simp); intro v2 al ho hb hg hat; have a := Z (blk_grown BK.out hg (Kd.R_ne (HO.out) BK.out (by decide))); clear c; clear BK; have BK := a; clear a; have H := Z ho; clear ho HB HO BA NO; have HB := Z hb; have HO := H; clear H hb hg hat; have c := cells8 BK.out))
 go_ret2
 exact ⟨_, rfl, Kd.R_reok (ok := fun k_ => w.heap.size ≤ k_) rfl HO.out (fun k_ e_ => Kd.R_base HO.out k_ e_), bl_⟩
theorem order_Put7 (kz : Nat) (F : Option Addr) (c1 : Nat) (tx : List Int) (ap an : Bool) (as_ : Int) (am : Bool) (ad ch s : Int) (w : World) (hr : Kd.C (Kd.int .u8) w F tx.length tx) (hc : tx.length ≤ c1) (I : 0 ≤ ad) (hA1 : ad < s) (J : s ≤ 4096) (e2 : List S177) (hR : order_Right.f kz 7 tx ap an as_ am ad ch s = some (none, e2)) : Calls Tryz.prog 56 #[.agg #[.int .i64 7, .slice F tx.length c1, .bool ap, .bool an, .int .i64 as_, .bool am, .int .i64 ad, .int .u8 ch], .int .i64 s] w fun e w' => ∃ V : Value, e = .returned (.tuple #[V, .nilIface]) ∧ Kd.R (Kd.int .u8) 5 w' w.heap.size (fun k_ => w.heap.size ≤ k_) V [byteT 7, sixT (ad / 64), sixT (ad % 64)] ∧ Below w.heap.size w w' := by
 have HT := Z hr
 have HTc := Z hc
 have HB := Z (Below.refl w.heap.size w)
 have HR := Z hR
 have hu := Tryz.underlying49
 have ag := Tryz.underlying34
 have ah := Tryz.underlying45
 have ai := Tryz.underlying136
 clear hr hc hR
 have W := Z I
 have X := Z hA1
 have Y := Z J
 clear I hA1 J
 go_enter Tryz.func56, Tryz.ntmps56
 go_wp2_with (first | ((with_reducible refine gD_ 2 rfl ?_); refine bx_ 2 49 #[.int .i64 7, .slice F tx.length c1, .bool ap, .bool an, .int .i64 as_, .bool am, .int .i64 ad, .int .u8 ch] ?_; intro g hg w1 hbox hb; have BK := Z hbox; replace HB := bs_ hb; clear hb hbox hg; have c := cells8 BK.out) | ((with_reducible refine gate_callee (f := 39) rfl ?_); refine goesL_ (some 14) rfl rfl Tryz.func39 (by kernel_rfl) rfl #[.agg #[.int .i64 7, .slice F tx.length c1, .bool ap, .bool an, .int .i64 as_, .bool am, .int .i64 ad, .int .u8 ch], .int .i64 s] rfl ag_ ?_; (with_reducible refine (order_Right.calls kz 7 F c1 tx ap an as_ am ad ch s none e2 _ ?s1 ?s2 HR.out).mono ?_); (case s1 => exact Kd.C_below HT.out HB.out); (case s2 => exact HTc.out); rintro e w5 ⟨ev, rfl, he, hb⟩; refine ⟨_, rfl, ?_⟩; simp only [errW_none]; clear he; clear c; replace BK := kb' BK hb; replace HB := bs_ hb; clear hb; have c := cells8 BK.out) | ((with_reducible refine gF_ 81 rfl ?_); refine gd_ (some 26) Tryz.func81 (byteOf_calls 7 (by omega) (by omega) _) ?_; rintro e w' ⟨rfl, rfl⟩; refine ⟨_, rfl, ?_⟩) | ((with_reducible refine gD_ 27 rfl ?_); refine Kd.R_lit (Kd.int .u8) w.heap.size 5 ?hg (N := 27) ?hd (xs := ([byteT 7] : List Int)) (inner := [.int .u8 (byteT 7)]) (ok := fun _ => True) (okp := fun _ => True) ?hr ?hp (fun _ hk => hk) trivial HB.out (below_size HB.out) (by simp) ?_; (case hd => rfl); (case hg => rfl); (case hr => first | (go_simp; done) | (go_simp; rfl)); (case hp => exact (Reps.one (show Kd.M (Kd.int .u8) _ _ _ (byteT 7) [.int .u8 (byteT 7)] from rfl) (Reps.none _ _))); intro v1 aj ho hb hg_ hnew_; have a := Z (blk_grown BK.out hg_ (by simp)); have HO := Z ho; clear ho HB BK hg_ hnew_; clear c; have HB := Z hb; have BK := a; clear hb a; have c := cells8 BK.out) | ((with_reducible refine gF_ 82 rfl ?_); refine gd_ (some 51) Tryz.func82 (addr_Put_calls ad s W.out X.out Y.out _) ?_; rintro e ak ⟨rfl, hb⟩; refine ⟨_, rfl, ?_⟩; clear c; replace BK := kb' BK hb; replace HO := rb' HO hb; replace HB := bs_ hb; clear hb; have c := cells8 BK.out) | ((with_reducible refine gD_ 10 rfl ?_); refine bx_ 10 136 #[.int .u8 0, .int .u8 0] ?_; intro G hg ac hbox hb; clear c; have NB := nl' BK hg; have NO := Z (own_newB HO.out hg); have GE := Z (le_new hg (below_size bl_) : w.heap.size ≤ G); replace BK := kb' BK hb; replace HO := rb' HO hb; have BA := Z hbox; replace HB := bs_ hb; clear hb hbox hg; have c := cells8 BK.out; have k0 := cells2 BA.out) | ((with_reducible refine gate_store (t := 136) (p := 10) rfl ?_); refine sx_ 136 10 ((ac.setCell ⟨G, 0, none⟩ (.int .u8 (sixT (ad / 64)))).setCell ⟨G, 1, none⟩ (.int .u8 (sixT (ad % 64)))) ?_; intro E hw; have K : Aside0 (E.heap[G]? = some (.cells #[.int .u8 (sixT (ad / 64)), .int .u8 (sixT (ad % 64))] 136 (0, 0))) := ⟨by rw [hw]; exact blk_put (cs := #[.int .u8 (sixT (ad / 64)), .int .u8 0]) (blk_put (cs := #[.int .u8 0, .int .u8 0]) BA.out 0 _ rfl) 1 _ rfl⟩; have L : Aside0 (E.heap[g]? = some (.cells #[.int .i64 7, .slice F tx.length c1, .bool ap, .bool an, .int .i64 as_, .bool am, .int .i64 ad, .int .u8 ch] 49 (0, 0))) := ⟨by rw [hw]; exact blk_off BK.out NB.out off2_⟩; have O : Aside0 (Kd.R (Kd.int .u8) 5 E w.heap.size (fun _ => True) v1 [byteT 7]) := ⟨by rw [hw]; exact R_offoB HO.out rfl NO.out off2_⟩; have P : Aside0 (Below w.heap.size w E) := ⟨by rw [hw]; exact bl_⟩; clear hw k0 HO BA BK HB; clear c; have BA := K; have BK := L; have HO := O; have HB := P; clear K L O P; have c := cells8 BK.out) | ((with_reducible refine gate_builtin (b := .append) (xs := #[.tmp 57, .tmp 58]) rfl ?_); at_builtin; refine Kd.R_append_rows (Kd.int .u8) (w0 := w) w.heap.size rfl (.tmp 57) (.tmp 58) 37 5 (.int .u8 0) 1 rfl Tryz.underlying37 infoU8_ rfl (by decide) (by omega) v1 [byteT 7] [sixT (ad / 64), sixT (ad % 64)] (some ⟨G, 0, none⟩) 2 2 (fun _ => True) (fun _ => False) rfl rfl ?aO ?aR (fun _ _ h => h) (fun _ h => h.elim) ?aF ?aB ?aS ?aL ?_; (case aR => exact two_C BA.out); (case aB => exact bl_); (case aF => exact fun _ _ => trivial); (case aO => exact HO.out); (case aS => exact (below_size bl_)); (case aL => simp); intro v2 al ho hb hg hat; have a := Z (blk_grown BK.out hg (Kd.R_ne (HO.out) BK.out (by decide))); clear c; clear BK; have BK := a; clear a; have H := Z ho; clear ho HB HO BA NO; have HB := Z hb; have HO := H; clear H hb hg hat; have c := cells8 BK.out))
 go_ret2
 exact ⟨_, rfl, Kd.R_reok (ok := fun k_ => w.heap.size ≤ k_) rfl HO.out (fun k_ e_ => Kd.R_base HO.out k_ e_), bl_⟩
theorem order_Put6 (kz : Nat) (G : Option Addr) (c1 : Nat) (tx : List Int) (ap an : Bool) (as_ : Int) (am : Bool) (ad ch s : Int) (w : World) (hr : Kd.C (Kd.int .u8) w G tx.length tx) (hc : tx.length ≤ c1) (I : 0 ≤ ad) (hA1 : ad < s) (J : s ≤ 4096) (e2 : List S177) (hR : order_Right.f kz 6 tx ap an as_ am ad ch s = some (none, e2)) : Calls Tryz.prog 56 #[.agg #[.int .i64 6, .slice G tx.length c1, .bool ap, .bool an, .int .i64 as_, .bool am, .int .i64 ad, .int .u8 ch], .int .i64 s] w fun e w' => ∃ V : Value, e = .returned (.tuple #[V, .nilIface]) ∧ Kd.R (Kd.int .u8) 5 w' w.heap.size (fun k_ => w.heap.size ≤ k_) V [byteT 6, sixT (ad / 64), sixT (ad % 64), ch] ∧ Below w.heap.size w w' := by
 have HT := Z hr
 have HTc := Z hc
 have HB := Z (Below.refl w.heap.size w)
 have HR := Z hR
 have hu := Tryz.underlying49
 have ah := Tryz.underlying34
 have ai := Tryz.underlying45
 have aj := Tryz.underlying136
 clear hr hc hR
 have W := Z I
 have X := Z hA1
 have Y := Z J
 clear I hA1 J
 go_enter Tryz.func56, Tryz.ntmps56
 go_wp2_with (first | ((with_reducible refine gD_ 2 rfl ?_); refine bx_ 2 49 #[.int .i64 6, .slice G tx.length c1, .bool ap, .bool an, .int .i64 as_, .bool am, .int .i64 ad, .int .u8 ch] ?_; intro g hg w1 hbox hb; have BK := Z hbox; replace HB := bs_ hb; clear hb hbox hg; have c := cells8 BK.out) | ((with_reducible refine gate_callee (f := 39) rfl ?_); refine goesL_ (some 14) rfl rfl Tryz.func39 (by kernel_rfl) rfl #[.agg #[.int .i64 6, .slice G tx.length c1, .bool ap, .bool an, .int .i64 as_, .bool am, .int .i64 ad, .int .u8 ch], .int .i64 s] rfl ag_ ?_; (with_reducible refine (order_Right.calls kz 6 G c1 tx ap an as_ am ad ch s none e2 _ ?s1 ?s2 HR.out).mono ?_); (case s1 => exact Kd.C_below HT.out HB.out); (case s2 => exact HTc.out); rintro e w5 ⟨ev, rfl, he, hb⟩; refine ⟨_, rfl, ?_⟩; simp only [errW_none]; clear he; clear c; replace BK := kb' BK hb; replace HB := bs_ hb; clear hb; have c := cells8 BK.out) | ((with_reducible refine gF_ 81 rfl ?_); refine gd_ (some 26) Tryz.func81 (byteOf_calls 6 (by omega) (by omega) _) ?_; rintro e w' ⟨rfl, rfl⟩; refine ⟨_, rfl, ?_⟩) | ((with_reducible refine gD_ 27 rfl ?_); refine Kd.R_lit (Kd.int .u8) w.heap.size 5 ?hg (N := 27) ?hd (xs := ([byteT 6] : List Int)) (inner := [.int .u8 (byteT 6)]) (ok := fun _ => True) (okp := fun _ => True) ?hr ?hp (fun _ hk => hk) trivial HB.out (below_size HB.out) (by simp) ?_; (case hd => rfl); (case hg => rfl); (case hr => first | (go_simp; done) | (go_simp; rfl)); (case hp => exact (Reps.one (show Kd.M (Kd.int .u8) _ _ _ (byteT 6) [.int .u8 (byteT 6)] from rfl) (Reps.none _ _))); intro v1 ak ho hb hg_ hnew_; have a := Z (blk_grown BK.out hg_ (by simp)); have HO := Z ho; clear ho HB BK hg_ hnew_; clear c; have HB := Z hb; have BK := a; clear hb a; have c := cells8 BK.out) | ((with_reducible refine gF_ 82 rfl ?_); refine gd_ (some 51) Tryz.func82 (addr_Put_calls ad s W.out X.out Y.out _) ?_; rintro e al ⟨rfl, hb⟩; refine ⟨_, rfl, ?_⟩; clear c; replace BK := kb' BK hb; replace HO := rb' HO hb; replace HB := bs_ hb; clear hb; have c := cells8 BK.out) | ((with_reducible refine gD_ 10 rfl ?_); refine bx_ 10 136 #[.int .u8 0, .int .u8 0] ?_; intro H hg ac hbox hb; clear c; have NB := nl' BK hg; have NO := Z (own_newB HO.out hg); have GE := Z (le_new hg (below_size bl_) : w.heap.size ≤ H); replace BK := kb' BK hb; replace HO := rb' HO hb; have BA := Z hbox; replace HB := bs_ hb; clear hb hbox hg; have c := cells8 BK.out; have k0 := cells2 BA.out) | ((with_reducible refine gate_store (t := 136) (p := 10) rfl ?_); refine sx_ 136 10 ((ac.setCell ⟨H, 0, none⟩ (.int .u8 (sixT (ad / 64)))).setCell ⟨H, 1, none⟩ (.int .u8 (sixT (ad % 64)))) ?_; intro F hw; have K : Aside0 (F.heap[H]? = some (.cells #[.int .u8 (sixT (ad / 64)), .int .u8 (sixT (ad % 64))] 136 (0, 0))) := ⟨by rw [hw]; exact blk_put (cs := #[.int .u8 (sixT (ad / 64)), .int .u8 0]) (blk_put (cs := #[.int .u8 0, .int .u8 0]) BA.out 0 _ rfl) 1 _ rfl⟩; have L : Aside0 (F.heap[g]? = some (.cells #[.int .i64 6, .slice G tx.length c1, .bool ap, .bool an, .int .i64 as_, .bool am, .int .i64 ad, .int .u8 ch] 49 (0, 0))) := ⟨by rw [hw]; exact blk_off BK.out NB.out off2_⟩; have O : Aside0 (Kd.R (Kd.int .u8) 5 F w.heap.size (fun _ => True) v1 [byteT 6]) := ⟨by rw [hw]; exact R_offoB HO.out rfl NO.out off2_⟩; have P : Aside0 (Below w.heap.size w F) := ⟨by rw [hw]; exact bl_⟩; clear hw k0 HO BA BK HB; clear c; have BA := K; have BK := L; have HO := O; have HB := P; clear K L O P; have c := cells8 BK.out) | ((with_reducible refine gate_builtin (b := .append) (xs := #[.tmp 57, .tmp 58]) rfl ?_); at_builtin; refine Kd.R_append_rows (Kd.int .u8) (w0 := w) w.heap.size rfl (.tmp 57) (.tmp 58) 37 5 (.int .u8 0) 1 rfl Tryz.underlying37 infoU8_ rfl (by decide) (by omega) v1 [byteT 6] [sixT (ad / 64), sixT (ad % 64)] (some ⟨H, 0, none⟩) 2 2 (fun _ => True) (fun _ => False) rfl rfl ?aO ?aR (fun _ _ h => h) (fun _ h => h.elim) ?aF ?aB ?aS ?aL ?_; (case aR => exact two_C BA.out); (case aB => exact bl_); (case aF => exact fun _ _ => trivial); (case aO => exact HO.out); (case aS => exact (below_size bl_)); (case aL => simp); intro v2 ao ho hb hg hat; have a := Z (blk_grown BK.out hg (Kd.R_ne (HO.out) BK.out (by decide))); clear c; clear BK; have BK := a; clear a; have D := Z ho; clear ho HB HO BA NO; have HB := Z hb; have HO := D; clear D hb hg hat; have c := cells8 BK.out) | ((with_reducible refine gate_builtin (b := .append) (xs := #[.tmp 63, .tmp 66]) rfl ?_); at_builtin; refine Kd.R_append (Kd.int .u8) (w0 := w) w.heap.size rfl (.tmp 63) (.tmp 66) 37 5 (.int .u8 0) 1 rfl Tryz.underlying37 infoU8_ rfl (by decide) (by omega) v2 [byteT 6, sixT (ad / 64), sixT (ad % 64)] (ch) [.int .u8 (ch)] (fun _ => True) (fun _ => False) rfl rfl ?aP (fun _ hk => hk.elim) ?aF ?aO ?aB ?aS ?aL ?_; (case aP => exact rfl); (case aB => exact bl_); (case aF => exact fun _ _ => trivial); (case aO => exact HO.out); (case aS => exact (below_size bl_)); (case aL => simp); intro v3 aq ho hb hg hat; clear c; clear BK; have D := Z ho; clear ho HB HO; have HB := Z hb; have HO := D; clear D hb hg hat))
 go_ret2
 exact ⟨_, rfl, Kd.R_reok (ok := fun k_ => w.heap.size ≤ k_) rfl HO.out (fun k_ e_ => Kd.R_base HO.out k_ e_), bl_⟩
theorem order_Put0 (kz : Nat) (k : Int) (c : Option Addr) (c1 : Nat) (tx : List Int) (ap an : Bool) (as_ : Int) (am : Bool) (ad ch s : Int) (w : World) (hr : Kd.C (Kd.int .u8) w c tx.length tx) (hc : tx.length ≤ c1) (er : Er) (B : List S177) (hR : order_Right.f kz k tx ap an as_ am ad ch s = some (some er, B)) : Calls Tryz.prog 56 #[.agg #[.int .i64 k, .slice c tx.length c1, .bool ap, .bool an, .int .i64 as_, .bool am, .int .i64 ad, .int .u8 ch], .int .i64 s] w fun e w' => ∃ A : Value, e = .returned (.tuple #[.slice none 0 0, errW A (some er)]) ∧ Kd.V k177 177 w' w.heap.size (fun k_ => w.heap.size ≤ k_) A B ∧ Below w.heap.size w w' := by
 have HT := Z hr
 have HTc := Z hc
 have HB := Z (Below.refl w.heap.size w)
 have HR := Z hR
 have hu := Tryz.underlying49
 have D := Tryz.underlying34
 have E := Tryz.underlying45
 have F := Tryz.underlying136
 clear hr hc hR
 go_enter Tryz.func56, Tryz.ntmps56
 go_wp2_with (first | ((with_reducible refine gD_ 2 rfl ?_); refine bx_ 2 49 #[.int .i64 k, .slice c tx.length c1, .bool ap, .bool an, .int .i64 as_, .bool am, .int .i64 ad, .int .u8 ch] ?_; intro g hg w1 hbox hb; have BK := Z hbox; replace HB := bs_ hb; clear hb hbox hg; have d := cells8 BK.out) | ((with_reducible refine gate_callee (f := 39) rfl ?_); refine goesL_ (some 14) rfl rfl Tryz.func39 (by kernel_rfl) rfl #[.agg #[.int .i64 k, .slice c tx.length c1, .bool ap, .bool an, .int .i64 as_, .bool am, .int .i64 ad, .int .u8 ch], .int .i64 s] rfl ag_ ?_; (with_reducible refine (order_Right.calls kz k c c1 tx ap an as_ am ad ch s (some er) B _ ?s1 ?s2 HR.out).mono ?_); (case s1 => exact Kd.C_below HT.out HB.out); (case s2 => exact HTc.out); rintro e w5 ⟨ev, rfl, he, hb⟩; refine ⟨_, rfl, ?_⟩; simp only [errW_some]; have HE := Z (Kd.V_mono (ok' := fun k_ => w.heap.size ≤ k_) he (fun k_ hk_ => Nat.le_trans (below_size bl_) hk_)); clear he; clear d; replace BK := kb' BK hb; replace HB := bs_ hb; clear hb; have d := cells8 BK.out))
 go_ret2
 exact ⟨_, rfl, HE.out, bl_⟩
/-- order.Put: an order's bytes, or what is wrong. -/
def order_Put.f (kz : Nat) (k : Int) (tx : List Int) (ap an : Bool) (as_ : Int) (am : Bool) (ad ch s : Int) : Option (List Int × Option Er × List S177) :=
 (order_Right.f kz k tx ap an as_ am ad ch s).bind fun e => if e.1.isSome = true then some ([], e.1, e.2)
  else if k = 1 then (if tx.length ≤ 16383 then some (tx, none, []) else none)
  else if k = 2 then (attr_Put.f kz ap an as_ am).bind fun p => if p.2.1.isSome = true then none else some ([byteT 2, p.1], none, [])
  else if k = 4 then some ([byteT 4], none, [])
  else if k = 5 then some ([byteT 5], none, [])
  else if 0 ≤ ad ∧ ad < s ∧ s ≤ 4096 then
   (if k = 3 then some ([byteT 3, sixT (ad / 64), sixT (ad % 64)], none, []) else if k = 7 then some ([byteT 7, sixT (ad / 64), sixT (ad % 64)], none, []) else if k = 6 then some ([byteT 6, sixT (ad / 64), sixT (ad % 64), ch], none, []) else none)
  else none
theorem order_Put.mono (k : Int) (tx : List Int) (ap an : Bool) (as_ : Int) (am : Bool) (ad ch s : Int) (kz : Nat) : LeO (order_Put.f kz k tx ap an as_ am ad ch s) (order_Put.f (kz + 1) k tx ap an as_ am ad ch s) := by
 unfold order_Put.f
 repeat' first
  | (with_reducible exact order_Right.mono _ _ _ _ _ _ _ _ _ _)
  | (with_reducible exact attr_Put.mono _ _ _ _ _)
  | (with_reducible exact LeO.refl _)
  | (with_reducible exact LeO.none _)
  | (with_reducible refine LeO.ite ?_ ?_)
  | (with_reducible refine LeO.bind ?_ (fun _ => ?_))
theorem order_Put.calls (kz : Nat) (k : Int) (g : Option Addr) (c1 : Nat) (tx : List Int) (ap an : Bool) (as_ : Int) (am : Bool) (ad ch s : Int) (l : List Int) (m : Option Er) (n : List S177) (w : World) (hr : Kd.C (Kd.int .u8) w g tx.length tx) (hc : tx.length ≤ c1) (h : order_Put.f kz k tx ap an as_ am ad ch s = some (l, m, n)) :
  Calls Tryz.prog 56 #[.agg #[.int .i64 k, .slice g tx.length c1, .bool ap, .bool an, .int .i64 as_, .bool am, .int .i64 ad, .int .u8 ch], .int .i64 s] w fun e w' => ∃ a j : Value, e = .returned (.tuple #[a, errW j m]) ∧ Kd.R (Kd.int .u8) 5 w' w.heap.size (fun k_ => (w.heap.size ≤ k_)) a l ∧ Kd.V k177 177 w' w.heap.size (fun k_ => (w.heap.size ≤ k_) ∧ some k_ ≠ (a : Value).ownBlock) j n ∧ Below w.heap.size w w' := by
 unfold order_Put.f at h
 obtain ⟨⟨y, i⟩, hR, h⟩ := Option.bind_eq_some_iff.mp h
 have fin : ∀ {row : List Int}, l = row → m = none → n = [] → (Calls Tryz.prog 56 #[.agg #[.int .i64 k, .slice g tx.length c1, .bool ap, .bool an, .int .i64 as_, .bool am, .int .i64 ad, .int .u8 ch], .int .i64 s] w fun e w' => ∃ a : Value, e = .returned (.tuple #[a, .nilIface]) ∧ Kd.R (Kd.int .u8) 5 w' w.heap.size (fun k_ => w.heap.size ≤ k_) a row ∧ Below w.heap.size w w') → Calls Tryz.prog 56 #[.agg #[.int .i64 k, .slice g tx.length c1, .bool ap, .bool an, .int .i64 as_, .bool am, .int .i64 ad, .int .u8 ch], .int .i64 s] w fun e w' => ∃ a j : Value, e = .returned (.tuple #[a, errW j m]) ∧ Kd.R (Kd.int .u8) 5 w' w.heap.size (fun k_ => (w.heap.size ≤ k_)) a l ∧ Kd.V k177 177 w' w.heap.size (fun k_ => (w.heap.size ≤ k_) ∧ some k_ ≠ (a : Value).ownBlock) j n ∧ Below w.heap.size w w' := by
  rintro row rfl rfl rfl hq
  refine hq.mono ?_
  rintro e w' ⟨z, rfl, hR, hb⟩
  exact ⟨z, .slice none 0 0, rfl, hR, Kd.V_nil _ _ _ _ _, hb⟩
 have parts : ∀ {row : List Int}, some (row, (none : Option Er), ([] : List S177)) = some (l, m, n) → l = row ∧ m = none ∧ n = [] := fun hh => by
  simp only [Option.some.injEq, Prod.mk.injEq] at hh
  exact ⟨hh.1.symm, hh.2.1.symm, hh.2.2.symm⟩
 cases y with
 | some er =>
  have h : some (([] : List Int), some er, i) = some (l, m, n) := h
  simp only [Option.some.injEq, Prod.mk.injEq] at h
  obtain ⟨rfl, rfl, rfl⟩ := h
  refine (order_Put0 kz k g c1 tx ap an as_ am ad ch s w hr hc er i hR).mono ?_
  rintro e w' ⟨A, rfl, hV, hb⟩
  exact ⟨.slice none 0 0, A, rfl, Kd.R_nil _ _ _ _ _, Kd.V_mono hV (fun k_ hk => ⟨hk, fun e_ => by cases e_⟩), hb⟩
 | none =>
  rw [if_neg (by simp)] at h
  by_cases o : k = 1
  ·rw [if_pos o] at h
   by_cases hn : tx.length ≤ 16383
   ·rw [if_pos hn] at h
    obtain ⟨b, c, d⟩ := parts h
    subst o
    exact fin b c d (order_Put1 kz g c1 tx ap an as_ am ad ch s w hr hc hn i hR)
   ·rw [if_neg hn] at h; cases h
  rw [if_neg o] at h
  by_cases p : k = 2
  ·rw [if_pos p] at h
   obtain ⟨⟨p1, p2, p3⟩, hP, h⟩ := Option.bind_eq_some_iff.mp h
   cases p2 with
   | some x => rw [if_pos (by simp)] at h; cases h
   | none =>
    rw [if_neg (by simp)] at h
    obtain ⟨b, c, d⟩ := parts h
    subst p
    exact fin b c d (order_Put2 kz g c1 tx ap an as_ am ad ch s w hr hc p1 p3 hP i hR)
  rw [if_neg p] at h
  by_cases r : k = 4
  ·rw [if_pos r] at h
   obtain ⟨b, c, d⟩ := parts h
   subst r
   exact fin b c d (order_Put4 kz g c1 tx ap an as_ am ad ch s w hr hc i hR)
  rw [if_neg r] at h
  by_cases t : k = 5
  ·rw [if_pos t] at h
   obtain ⟨b, c, d⟩ := parts h
   subst t
   exact fin b c d (order_Put5 kz g c1 tx ap an as_ am ad ch s w hr hc i hR)
  rw [if_neg t] at h
  by_cases hA : 0 ≤ ad ∧ ad < s ∧ s ≤ 4096
  ·rw [if_pos hA] at h
   by_cases q : k = 3
   ·rw [if_pos q] at h
    obtain ⟨b, c, d⟩ := parts h
    subst q
    exact fin b c d (order_Put3 kz g c1 tx ap an as_ am ad ch s w hr hc hA.1 hA.2.1 hA.2.2 i hR)
   rw [if_neg q] at h
   by_cases v : k = 7
   ·rw [if_pos v] at h
    obtain ⟨b, c, d⟩ := parts h
    subst v
    exact fin b c d (order_Put7 kz g c1 tx ap an as_ am ad ch s w hr hc hA.1 hA.2.1 hA.2.2 i hR)
   rw [if_neg v] at h
   by_cases u : k = 6
   ·rw [if_pos u] at h
    obtain ⟨b, c, d⟩ := parts h
    subst u
    exact fin b c d (order_Put6 kz g c1 tx ap an as_ am ad ch s w hr hc hA.1 hA.2.1 hA.2.2 i hR)
   ·rw [if_neg u] at h; cases h
  ·rw [if_neg hA] at h; cases h
end

/-! ### stream_spot: function 57 -/
section
/-- stream.spot: an error at a place. -/
def stream_spot.f (a0 : Int) (a : Option Er) (b : List S177) : Option (Option Er × List S177) :=
 match a with | some (.num n) => some (some Er.spot, [⟨a0, n⟩]) | _ => none
theorem stream_spot.calls (a0 : Int) (b : Option Er) (c : Option Addr) (d : Nat) (a : List S177) (p : Option Er) (r : List S177) (w : World) (i : Kd.C k177 w c a.length a) (g : a.length ≤ d) (h : stream_spot.f a0 b a = some (p, r)) :
  Calls Tryz.prog 57 #[.int .i64 a0, errW (.slice c a.length d) b] w fun e w' => ∃ k : Value, e = .returned (errW k p) ∧ Kd.V k177 177 w' w.heap.size (fun k_ => (w.heap.size ≤ k_)) k r ∧ Below w.heap.size w w' := by
 unfold stream_spot.f at h
 rcases b with _ | q
 ·cases h
 cases q with
 | spot => cases h
 | num n =>
  simp only [Option.some.injEq, Prod.mk.injEq] at h
  obtain ⟨rfl, rfl⟩ := h
  rw [errW_some, show (Er.num n).ty = ERNT from rfl, show (Er.num n).pay _ = .int .i64 n from rfl]
  have HB := Z (Below.refl w.heap.size w)
  have hu := Tryz.underlying67
  have s := Tryz.underlying34
  clear i g
  go_enter Tryz.func57, Tryz.ntmps57
  go_wp2_with (first | ((with_reducible refine gD_ 8 rfl ?_); refine bx_ 8 67 #[.int .i64 a0, .iface ERNT (.int .i64 n)] ?_; intro o hg w1 hbox hb; have j := bs_ hb; have l := Z hbox; have m := Z (le_new hg (below_size bl_) : w.heap.size ≤ o); clear HB hb hbox hg; have HB := j; clear j))
  go_ret
  exact ⟨.slice (some ⟨o, 0, none⟩) 1 1, rfl, spot_V l.out m.out, bl_⟩
end

/-! ### stream_orders: function 36 -/
mutual
def stream_orders.l0 : Nat → List (S49) → Int → List Int → List (S49) → Int → Int → Option (List Int × Option Er × (List (S177)))
 | 0, _, _, _, _, _, _ => none
 | k + 1, c, d, e, x11, x12, a => if a < x12 then (if 0 ≤ a then (if a < (x11.length : Int) then ((order_Put.f k ((rd_T49 x11 a).f0) ((rd_T49 x11 a).f1) ((rd_T49 x11 a).f2.f0) ((rd_T49 x11 a).f2.f1) ((rd_T49 x11 a).f2.f2) ((rd_T49 x11 a).f2.f3) ((rd_T49 x11 a).f3) ((rd_T49 x11 a).f4) d).bind fun b => (if b.2.1.isNone = true then (if a > 0 then (if ((rd_T49 x11 a).f0) = 1 then (if 0 ≤ (wrap64 (a - 1)) then (if (wrap64 (a - 1)) < (c.length : Int) then (stream_orders.j1 k c d e a b.1 x11 x12 a (((rd_T49 c (wrap64 (a - 1))).f0) == 1) none b.2.2) else (none)) else (none)) else (stream_orders.j1 k c d e a b.1 x11 x12 a false none b.2.2)) else (stream_orders.j1 k c d e a b.1 x11 x12 a false none b.2.2)) else (stream_orders.j1 k c d e a b.1 x11 x12 a false (some (b.2.1.getD ez)) b.2.2))) else (none)) else (none)) else (some (e, none, ([] : List (S177))))
def stream_orders.j1 : Nat → List (S49) → Int → List Int → Int → List Int → List (S49) → Int → Int → Bool → Option Er → List (S177) → Option (List Int × Option Er × (List (S177)))
 | 0, _, _, _, _, _, _, _, _, _, _, _ => none
 | k + 1, l, m, h, i, j, x11, x12, e, g, a, b => if g = true then ((stream_spot.f i (some (Er.num 1)) ([] : List (S177))).bind fun c => (some (([] : List Int), c.1, c.2))) else (if a.isNone = true then (if h.length + j.length < 140737488355328 then (stream_orders.l0 k l m (h ++ j) x11 x12 (wrap64 (e + 1))) else (none)) else ((stream_spot.f i (some (a.getD ez)) b).bind fun d => (some (([] : List Int), d.1, d.2))))
end
def stream_orders.f (k : Nat) (l0 : List (S49)) (a1 : Int) : Option (List Int × Option Er × (List (S177))) := stream_orders.l0 k l0 a1 ([] : List Int) l0 (l0.length : Int) 0
theorem stream_orders.mono_l : ∀ k, (∀ a b c d e f, LeO (stream_orders.l0 k a b c d e f) (stream_orders.l0 (k + 1) a b c d e f)) ∧ (∀ a b c d e f l m n o j, LeO (stream_orders.j1 k a b c d e f l m n o j) (stream_orders.j1 (k + 1) a b c d e f l m n o j))
 | 0 => ⟨fun _ _ _ _ _ _ r h => by simp [stream_orders.l0] at h, fun _ _ _ _ _ _ _ _ _ _ _ r h => by simp [stream_orders.j1] at h⟩
 | k + 1 => by
  obtain ⟨g, i⟩ := stream_orders.mono_l k
  refine ⟨?_, ?_⟩
  ·intro a b c d e f
   unfold stream_orders.l0
   repeat' first
   | (with_reducible exact g _ _ _ _ _ _)
   | (with_reducible exact i _ _ _ _ _ _ _ _ _ _ _)
   | (with_reducible exact order_Put.mono _ _ _ _ _ _ _ _ _ _)
   | (with_reducible exact LeO.refl _)
   | (with_reducible exact LeO.none _)
   | (with_reducible refine LeO.ite ?_ ?_)
   | (with_reducible refine LeO.bind ?_ (fun _ => ?_))
   | exact g _ _ _ _ _ _
   | exact i _ _ _ _ _ _ _ _ _ _ _
   | exact order_Put.mono _ _ _ _ _ _ _ _ _ _
   | exact LeO.none _
   | refine LeO.ite ?_ ?_
   | refine LeO.bind ?_ (fun _ => ?_)
  ·intro a b c d e f l m n o j
   unfold stream_orders.j1
   repeat' first
   | (with_reducible exact g _ _ _ _ _ _)
   | (with_reducible exact i _ _ _ _ _ _ _ _ _ _ _)
   | (with_reducible exact order_Put.mono _ _ _ _ _ _ _ _ _ _)
   | (with_reducible exact LeO.refl _)
   | (with_reducible exact LeO.none _)
   | (with_reducible refine LeO.ite ?_ ?_)
   | (with_reducible refine LeO.bind ?_ (fun _ => ?_))
   | exact g _ _ _ _ _ _
   | exact i _ _ _ _ _ _ _ _ _ _ _
   | exact order_Put.mono _ _ _ _ _ _ _ _ _ _
   | exact LeO.none _
   | refine LeO.ite ?_ ?_
   | refine LeO.bind ?_ (fun _ => ?_)
theorem stream_orders.mono : ∀ a0 a1 k, LeO (stream_orders.f k a0 a1) (stream_orders.f (k + 1) a0 a1) := by
 intro a0 a1 k
 obtain ⟨a, b⟩ := stream_orders.mono_l k
 unfold stream_orders.f
 repeat' first
   | (with_reducible exact a _ _ _ _ _ _)
   | (with_reducible exact b _ _ _ _ _ _ _ _ _ _ _)
   | (with_reducible exact order_Put.mono _ _ _ _ _ _ _ _ _ _)
   | (with_reducible exact LeO.refl _)
   | (with_reducible exact LeO.none _)
   | (with_reducible refine LeO.ite ?_ ?_)
   | (with_reducible refine LeO.bind ?_ (fun _ => ?_))
   | exact a _ _ _ _ _ _
   | exact b _ _ _ _ _ _ _ _ _ _ _
   | exact order_Put.mono _ _ _ _ _ _ _ _ _ _
   | exact LeO.none _
   | refine LeO.ite ?_ ?_
   | refine LeO.bind ?_ (fun _ => ?_)
theorem stream_orders.calls (k : Nat) (A0 : Option Addr) (c0 : Nat) (l0 : List (S49)) (a1 : Int) (W : List Int) (X : Option Er) (Y : List (S177)) (w : World) (hr0 : Kd.C k49 w A0 l0.length l0) (b2 : l0.length ≤ c0) (h : stream_orders.f k l0 a1 = some (W, X, Y)) :
  Calls Tryz.prog 36 #[.slice A0 l0.length c0, .int .i64 a1] w fun e w' => ∃ bN b4 : Value, e = .returned (.tuple #[bN, errW b4 X]) ∧ Kd.R (Kd.int .u8) 5 w' w.heap.size (fun k_ => (w.heap.size ≤ k_)) bN W ∧ Kd.V k177 177 w' w.heap.size (fun k_ => (w.heap.size ≤ k_) ∧ some k_ ≠ (bN : Value).ownBlock) b4 Y ∧ Below w.heap.size w w' := by
 have ct := Tryz.underlying49
 have cr := Tryz.underlying34
 have cu := Tryz.underlying61
 have b0 := Z hr0
 have cB := Z b2
 clear hr0 b2
 have HB := Z (Below.refl w.heap.size w)
 unfold stream_orders.f at h
 have H := h
 clear h
 have H' := Z H
 clear H
 go_enter Tryz.func36, Tryz.ntmps36
 go_wp2
 go_loopg [6, 13] k (fun kq v6 cm w' => ∃ (m : List Int) (a : Int), cm = .int .i64 a ∧ Aside0 (stream_orders.l0 kq l0 a1 m l0 (l0.length : Int) a = some (W, X, Y)) ∧ Aside0 (kq ≤ k) ∧ Aside0 (Kd.R (Kd.int .u8) 5 w' w.heap.size (fun k_ => (w.heap.size ≤ k_)) v6 m) ∧ Aside0 (Below w.heap.size w w'))
 case atStart => exact ⟨(([] : List Int)), (0), (dn_), H', ⟨Nat.le_refl _⟩, ⟨by first | exact Kd.R_nil _ _ _ _ _ | exact Kd.N_nil _ _ _ _ _ | exact Kd.V_nil _ _ _ _ _ | exact Kd.Q_nil _ _ _ _ _ | exact Kd.S_nil _ _ _ _ _⟩, ⟨bl_⟩⟩
 case round =>
  clear H'
  obtain ⟨m, a, rfl, HA, ak, GA, HB⟩ := hrel
  cases gk with
  | zero => exact absurd HA.out (by simp [stream_orders.l0])
  | succ k1 =>
   have H := HA.out
   clear HA
   simp only [stream_orders.l0] at H
   by_cases c3 : a < (l0.length : Int)
   rotate_left
   ·rw [if_neg c3] at H
    have bq := decide_eq_false c3
    clear c3
    obtain ⟨rfl, rfl, rfl⟩ := ij3_ H
    go_wp2
    go_ret2
    exact ⟨_, _, er_, by (with_reducible repeat apply pR); exact GA.out, Kd.R_V (by first | exact Kd.R_nil _ _ _ 0 _ | exact Kd.N_nil _ _ _ _ _ | exact Kd.V_nil _ _ _ _ _ | exact Kd.Q_nil _ _ _ _ _ | exact Kd.S_nil _ _ _ _ _), bl_⟩
   rw [if_pos c3] at H
   have bq := decide_eq_true c3
   clear c3
   obtain ⟨c4, H⟩ := gt_ H
   have b6 := decide_eq_true c4
   clear c4
   obtain ⟨c5, H⟩ := gt_ H
   have b7 := decide_eq_true c5
   clear c5
   replace H := bn_ H
   obtain ⟨⟨l, y, n⟩, A6, H⟩ := H
   try dsimp only at H
   have bp := Z H
   clear H
   have ap : 0 ≤ (a : Int) := od_
   have ar : a < (l0.length : Int) := od_
   obtain ⟨bU, i, j, b9, A, B, D, E, F, G, I, J, an, al⟩ := at_T49 b0.out a ap ar
   cases b9
   replace A := hc_ HB A
   replace B := hc_ HB B
   replace D := hc_ HB D
   replace E := hc_ HB E
   replace F := hc_ HB F
   replace G := hc_ HB G
   replace I := hc_ HB I
   replace J := hc_ HB J
   have aJ := Z al
   have aI := Z an
   clear al an
   replace ap := eq_true ap
   replace ar := eq_true ar
   go_upto_region 6 with (first | ((with_reducible refine gD_ 8 rfl ?_); refine bx_ 8 49 #[.int .i64 0, .slice none 0 0, .bool false, .bool false, .int .i64 0, .bool false, .int .i64 0, .int .u8 0] ?_; intro c hg w8 hbox hb; replace GA := rb' GA hb; have d := Z hbox; have cp := ln' w hg; replace HB := bs_ hb; clear hb hbox hg; have bs := cells8 d.out) | ((with_reducible refine gF_ 56 rfl ?_); refine gd_ (some 21) Tryz.func56 (order_Put.calls k1 ((rd_T49 l0 a).f0) _ _ ((rd_T49 l0 a).f1) ((rd_T49 l0 a).f2.f0) ((rd_T49 l0 a).f2.f1) ((rd_T49 l0 a).f2.f2) ((rd_T49 l0 a).f2.f3) ((rd_T49 l0 a).f3) ((rd_T49 l0 a).f4) a1 l y n _ (Kd.C_below aJ.out bl_) aI.out A6.out) ?_; rintro e cI ⟨ae, cd, rfl, ac, b3, hb⟩; refine ⟨_, rfl, ?_⟩; have r := Z (Kd.R_elder' (by (with_reducible repeat apply pR); exact (Kd.R_mono (Kd.R_far (p := ⟨c, 7, none⟩) (Kd.R_far (p := ⟨c, 6, none⟩) (f6R c (Kd.R_types GA.out d.out (by decide)) (fun _ hk => hk.2)) (fun _ hk => hk.2) (.int .i64 ((rd_T49 l0 a).f3))) (fun _ hk => hk.2) (.int .u8 ((rd_T49 l0 a).f4))) (fun _ h_ => h_.1))) (Kd.R_base ac) hb); have s := Z (Kd.R_lower (Kd.R_new' (Kd.R_newM (M := fun k_ => (w.heap.size ≤ k_)) (Kd.R_mono (ok' := fun k_ => True) ac (fun _ hk_ => trivial)) (below_size bl_) (fun k_ h_ => h_)) (Kd.R_lt (by (with_reducible repeat apply pR); exact (Kd.R_mono (Kd.R_far (p := ⟨c, 7, none⟩) (Kd.R_far (p := ⟨c, 6, none⟩) (f6R c (Kd.R_types GA.out d.out (by decide)) (fun _ hk => hk.2)) (fun _ hk => hk.2) (.int .i64 ((rd_T49 l0 a).f3))) (fun _ hk => hk.2) (.int .u8 ((rd_T49 l0 a).f4))) (fun _ h_ => h_.1))))) (below_size bl_)); have u := Z (Kd.V_lower (Kd.V_mono (ok' := fun k_ => (w.heap.size ≤ k_) ∧ some k_ ≠ (ae : Value).ownBlock ∧ some k_ ≠ (u6 : Value).ownBlock ∧ k_ ≠ c) b3 (fun k_ hk_ => ⟨(Nat.le_trans (below_size bl_) hk_.1), hk_.2, (Kd.fresh' (Kd.R_lt (by (with_reducible repeat apply pR); exact (Kd.R_mono (Kd.R_far (p := ⟨c, 7, none⟩) (Kd.R_far (p := ⟨c, 6, none⟩) (f6R c (Kd.R_types GA.out d.out (by decide)) (fun _ hk => hk.2)) (fun _ hk => hk.2) (.int .i64 ((rd_T49 l0 a).f3))) (fun _ hk => hk.2) (.int .u8 ((rd_T49 l0 a).f4))) (fun _ h_ => h_.1)))) k_ hk_.1), (Kd.freshB (g := c) (o := .cells #[.int .i64 ((rd_T49 l0 a).f0), .slice i ((rd_T49 l0 a).f1).length j, .bool ((rd_T49 l0 a).f2.f0), .bool ((rd_T49 l0 a).f2.f1), .int .i64 ((rd_T49 l0 a).f2.f2), .bool ((rd_T49 l0 a).f2.f3), .int .i64 ((rd_T49 l0 a).f3), .int .u8 ((rd_T49 l0 a).f4)] 49 (0, 0)) (by (with_reducible repeat apply pK); refine blk_put (cs := #[.int .i64 ((rd_T49 l0 a).f0), .slice i ((rd_T49 l0 a).f1).length j, .bool ((rd_T49 l0 a).f2.f0), .bool ((rd_T49 l0 a).f2.f1), .int .i64 ((rd_T49 l0 a).f2.f2), .bool ((rd_T49 l0 a).f2.f3), .int .i64 ((rd_T49 l0 a).f3), .int .u8 0]) ?_ 7 _ rfl; (with_reducible repeat apply pK); refine blk_put (cs := #[.int .i64 ((rd_T49 l0 a).f0), .slice i ((rd_T49 l0 a).f1).length j, .bool ((rd_T49 l0 a).f2.f0), .bool ((rd_T49 l0 a).f2.f1), .int .i64 ((rd_T49 l0 a).f2.f2), .bool ((rd_T49 l0 a).f2.f3), .int .i64 0, .int .u8 0]) ?_ 6 _ rfl; (with_reducible repeat apply pK); refine blk_put (cs := #[.int .i64 ((rd_T49 l0 a).f0), .slice i ((rd_T49 l0 a).f1).length j, .bool ((rd_T49 l0 a).f2.f0), .bool ((rd_T49 l0 a).f2.f1), .int .i64 ((rd_T49 l0 a).f2.f2), .bool false, .int .i64 0, .int .u8 0]) ?_ 5 _ rfl; (with_reducible repeat apply pK); refine blk_put (cs := #[.int .i64 ((rd_T49 l0 a).f0), .slice i ((rd_T49 l0 a).f1).length j, .bool ((rd_T49 l0 a).f2.f0), .bool ((rd_T49 l0 a).f2.f1), .int .i64 0, .bool false, .int .i64 0, .int .u8 0]) ?_ 4 _ rfl; (with_reducible repeat apply pK); refine blk_put (cs := #[.int .i64 ((rd_T49 l0 a).f0), .slice i ((rd_T49 l0 a).f1).length j, .bool ((rd_T49 l0 a).f2.f0), .bool false, .int .i64 0, .bool false, .int .i64 0, .int .u8 0]) ?_ 3 _ rfl; (with_reducible repeat apply pK); refine blk_put (cs := #[.int .i64 ((rd_T49 l0 a).f0), .slice i ((rd_T49 l0 a).f1).length j, .bool false, .bool false, .int .i64 0, .bool false, .int .i64 0, .int .u8 0]) ?_ 2 _ rfl; (with_reducible repeat apply pK); refine blk_put (cs := #[.int .i64 ((rd_T49 l0 a).f0), .slice none 0 0, .bool false, .bool false, .int .i64 0, .bool false, .int .i64 0, .int .u8 0]) ?_ 1 _ rfl; (with_reducible repeat apply pK); refine blk_put (cs := #[.int .i64 0, .slice none 0 0, .bool false, .bool false, .int .i64 0, .bool false, .int .i64 0, .int .u8 0]) ?_ 0 _ rfl; (with_reducible repeat apply pK); exact d.out) k_ hk_.1)⟩)) (below_size bl_)); have v := Z (blk_below (g := c) (o := .cells #[.int .i64 ((rd_T49 l0 a).f0), .slice i ((rd_T49 l0 a).f1).length j, .bool ((rd_T49 l0 a).f2.f0), .bool ((rd_T49 l0 a).f2.f1), .int .i64 ((rd_T49 l0 a).f2.f2), .bool ((rd_T49 l0 a).f2.f3), .int .i64 ((rd_T49 l0 a).f3), .int .u8 ((rd_T49 l0 a).f4)] 49 (0, 0)) (by (with_reducible repeat apply pK); refine blk_put (cs := #[.int .i64 ((rd_T49 l0 a).f0), .slice i ((rd_T49 l0 a).f1).length j, .bool ((rd_T49 l0 a).f2.f0), .bool ((rd_T49 l0 a).f2.f1), .int .i64 ((rd_T49 l0 a).f2.f2), .bool ((rd_T49 l0 a).f2.f3), .int .i64 ((rd_T49 l0 a).f3), .int .u8 0]) ?_ 7 _ rfl; (with_reducible repeat apply pK); refine blk_put (cs := #[.int .i64 ((rd_T49 l0 a).f0), .slice i ((rd_T49 l0 a).f1).length j, .bool ((rd_T49 l0 a).f2.f0), .bool ((rd_T49 l0 a).f2.f1), .int .i64 ((rd_T49 l0 a).f2.f2), .bool ((rd_T49 l0 a).f2.f3), .int .i64 0, .int .u8 0]) ?_ 6 _ rfl; (with_reducible repeat apply pK); refine blk_put (cs := #[.int .i64 ((rd_T49 l0 a).f0), .slice i ((rd_T49 l0 a).f1).length j, .bool ((rd_T49 l0 a).f2.f0), .bool ((rd_T49 l0 a).f2.f1), .int .i64 ((rd_T49 l0 a).f2.f2), .bool false, .int .i64 0, .int .u8 0]) ?_ 5 _ rfl; (with_reducible repeat apply pK); refine blk_put (cs := #[.int .i64 ((rd_T49 l0 a).f0), .slice i ((rd_T49 l0 a).f1).length j, .bool ((rd_T49 l0 a).f2.f0), .bool ((rd_T49 l0 a).f2.f1), .int .i64 0, .bool false, .int .i64 0, .int .u8 0]) ?_ 4 _ rfl; (with_reducible repeat apply pK); refine blk_put (cs := #[.int .i64 ((rd_T49 l0 a).f0), .slice i ((rd_T49 l0 a).f1).length j, .bool ((rd_T49 l0 a).f2.f0), .bool false, .int .i64 0, .bool false, .int .i64 0, .int .u8 0]) ?_ 3 _ rfl; (with_reducible repeat apply pK); refine blk_put (cs := #[.int .i64 ((rd_T49 l0 a).f0), .slice i ((rd_T49 l0 a).f1).length j, .bool false, .bool false, .int .i64 0, .bool false, .int .i64 0, .int .u8 0]) ?_ 2 _ rfl; (with_reducible repeat apply pK); refine blk_put (cs := #[.int .i64 ((rd_T49 l0 a).f0), .slice none 0 0, .bool false, .bool false, .int .i64 0, .bool false, .int .i64 0, .int .u8 0]) ?_ 1 _ rfl; (with_reducible repeat apply pK); refine blk_put (cs := #[.int .i64 0, .slice none 0 0, .bool false, .bool false, .int .i64 0, .bool false, .int .i64 0, .int .u8 0]) ?_ 0 _ rfl; (with_reducible repeat apply pK); exact d.out) hb); have x := bs_ hb; clear GA d HB; have GA := r; have ag := s; have ah := u; have d := v; have HB := x; clear r s u v x; (try clear hb); (try clear hk); (try clear ac); (try clear b3); (try simp only [errW_none, errW_some])))
   (try simp only [Act.put, sA, sB, sC])
   go_cut [43] (fun cn wc => ∃ (kq : Nat) (ai : Bool), cn = .bool ai ∧ Aside0 (stream_orders.j1 kq l0 a1 m a l l0 (l0.length : Int) a ai y n = some (W, X, Y)) ∧ Aside0 (kq ≤ k1) ∧ Aside0 (Kd.R (Kd.int .u8) 5 wc w.heap.size (fun k_ => (w.heap.size ≤ k_) ∧ some k_ ≠ (ae : Value).ownBlock) u6 m) ∧ Aside0 (Kd.R (Kd.int .u8) 5 wc w.heap.size (fun k_ => (w.heap.size ≤ k_) ∧ some k_ ≠ (u6 : Value).ownBlock) ae l) ∧ Aside0 (Kd.V k177 177 wc w.heap.size (fun k_ => (w.heap.size ≤ k_) ∧ some k_ ≠ (u6 : Value).ownBlock ∧ some k_ ≠ (ae : Value).ownBlock ∧ k_ ≠ c) cd n) ∧ Aside0 (wc.heap[c]? = some (.cells #[.int .i64 ((rd_T49 l0 a).f0), (.slice i ((rd_T49 l0 a).f1).length j), .bool ((rd_T49 l0 a).f2.f0), .bool ((rd_T49 l0 a).f2.f1), .int .i64 ((rd_T49 l0 a).f2.f2), .bool ((rd_T49 l0 a).f2.f3), .int .i64 ((rd_T49 l0 a).f3), .int .u8 ((rd_T49 l0 a).f4)] 49 (0, 0))) ∧ Aside0 (Below w.heap.size w wc))
   case first =>
    have H := bp.out
    clear bp
    rcases y with _ | az
    rotate_left
    ·rw [if_neg (show ¬ (some az).isNone = true by simp)] at H
     try dsimp only [Option.getD_some] at H
     try simp only [errW_none, errW_some]
     have H' := Z H
     clear H
     go_wp2
     go_meet
     case rel => exact ⟨_, (false), (dn_), H', ⟨by have := ak.out; first | omega | exact Nat.le_refl _⟩, ⟨vR_ GA.out⟩, ⟨by (with_reducible repeat apply pR); exact Kd.R_mono ag.out im_⟩, ⟨by (with_reducible repeat apply pV); exact Kd.V_mono ah.out im_⟩, ⟨vK d.out⟩, ⟨bl_⟩⟩
    rw [if_pos (show (none : Option Er).isNone = true by rfl)] at H
    try dsimp only [Option.getD_some] at H
    try simp only [errW_none, errW_some]
    by_cases aj : a > 0
    rotate_left
    ·rw [if_neg aj] at H
     have z : decide (0 < a) = false := decide_eq_false aj
     clear aj
     (first | rw [z] | (simp only [i64_w, i32_w]; rw [z]) | skip)
     have H' := Z H
     clear H
     go_wp2
     go_meet
     case rel => exact ⟨_, (false), (dn_), H', ⟨by have := ak.out; first | omega | exact Nat.le_refl _⟩, ⟨vR_ GA.out⟩, ⟨by (with_reducible repeat apply pR); exact Kd.R_mono ag.out im_⟩, ⟨by (with_reducible repeat apply pV); exact Kd.V_mono ah.out im_⟩, ⟨vK d.out⟩, ⟨bl_⟩⟩
    rw [if_pos aj] at H
    have z : decide (0 < a) = true := decide_eq_true aj
    clear aj
    (first | rw [z] | (simp only [i64_w, i32_w]; rw [z]) | skip)
    by_cases af : ((rd_T49 l0 a).f0) = 1
    rotate_left
    ·rw [if_neg af] at H
     obtain ⟨aC, aD⟩ := eF_ af
     have H' := Z H
     clear H
     have aW := cells8 d.out
     go_wp2
     go_meet
     case rel => exact ⟨_, (false), (dn_), H', ⟨by have := ak.out; first | omega | exact Nat.le_refl _⟩, ⟨vR_ GA.out⟩, ⟨by (with_reducible repeat apply pR); exact Kd.R_mono ag.out im_⟩, ⟨by (with_reducible repeat apply pV); exact Kd.V_mono ah.out im_⟩, ⟨vK d.out⟩, ⟨bl_⟩⟩
    rw [if_pos af] at H
    obtain ⟨aC, aD⟩ := eT_ af
    clear af
    obtain ⟨q, ab⟩ : ∃ j_ : Int, (wrap64 (a - 1)) = j_ := ⟨_, rfl⟩
    (first | rw [ab] at H | simp only [ab] at H)
    have cl : (IntKind.i64.wrap (a - 1)) = q := (i64_w _).trans ab
    obtain ⟨aw, H⟩ := gt_ H
    have bW := decide_eq_true aw
    clear aw
    obtain ⟨ax, H⟩ := gt_ H
    have bX := decide_eq_true ax
    clear ax
    have H' := Z H
    clear H
    have aK := cells8 d.out
    have aq : 0 ≤ ((q) : Int) := od_
    have au : (q) < (l0.length : Int) := od_
    obtain ⟨bV, ch, ck, ca, K, L, O, P, Q, S, T, U, ao, am⟩ := at_T49 b0.out (q) aq au
    obtain rfl : bU = bV := (by injection ca)
    replace K := hc_ HB K
    replace L := hc_ HB L
    replace O := hc_ HB O
    replace P := hc_ HB P
    replace Q := hc_ HB Q
    replace S := hc_ HB S
    replace T := hc_ HB T
    replace U := hc_ HB U
    have cf := Z am
    have ce := Z ao
    clear am ao
    replace aq := eq_true aq
    replace au := eq_true au
    go_wp2
    go_meet
    case rel => exact ⟨_, ((((rd_T49 l0 (q)).f0) == 1)), (by first | rfl | (simp; done) | (simp only [← ab, i64_w]; rfl) | (simp only [← ab] <;> (first | rfl | simp)) | (simp [*]; done)), H', ⟨by have := ak.out; first | omega | exact Nat.le_refl _⟩, ⟨vR_ GA.out⟩, ⟨by (with_reducible repeat apply pR); exact Kd.R_mono ag.out im_⟩, ⟨by (with_reducible repeat apply pV); exact Kd.V_mono ah.out im_⟩, ⟨vK d.out⟩, ⟨bl_⟩⟩
   clear bp
   try clear c3
   try clear bq
   try clear c4
   try clear b6
   try clear c5
   try clear b7
   try clear bs
   try clear A
   try clear B
   try clear D
   try clear E
   try clear F
   try clear G
   try clear I
   try clear J
   try clear ap
   try clear ar
   obtain ⟨kq, ai, rfl, HA, bZ, GA, GB, GC, d, HB⟩ := hcut
   cases kq with
   | zero => exact absurd HA.out (by simp [stream_orders.j1])
   | succ aH =>
    have H := HA.out
    clear HA
    simp only [stream_orders.j1] at H
    by_cases aE : ai = true
    ·subst aE
     rw [if_pos rfl] at H
     replace H := bn_ H
     obtain ⟨⟨bJ, bK⟩, ci, H⟩ := H
     try dsimp only at H
     obtain ⟨rfl, rfl, rfl⟩ := ij3_ H
     go_wp2_with (first | ((with_reducible refine gate_callee (f := 57) rfl ?_); refine goesL_ (some 49) rfl rfl Tryz.func57 (by kernel_rfl) rfl #[.int .i64 a, errW (.slice none 0 0) (some (Er.num 1))] rfl ag_ ?_; (refine (stream_spot.calls a (some (Er.num 1)) _ _ ([] : List (S177)) bJ bK _ ?side1 ?side2 ci.out).mono ?_); (case side1 => exact Kd.C_nil _ _); (case side2 => exact Nat.le_refl _); rintro e cJ ⟨cx, rfl, ac, hb⟩; refine ⟨_, rfl, ?_⟩; replace GC := vb' GC hb; have bP := Z (Kd.V_lower (Kd.V_mono (ok' := fun k_ => (w.heap.size ≤ k_) ∧ some k_ ≠ (u6 : Value).ownBlock ∧ some k_ ≠ (ae : Value).ownBlock ∧ k_ ≠ c) ac (fun k_ hk_ => ⟨(Nat.le_trans (below_size bl_) hk_), (Kd.fresh' (Kd.R_lt (by (with_reducible repeat apply pR); exact GA.out)) k_ hk_), (Kd.fresh' (Kd.R_lt (by (with_reducible repeat apply pR); exact GB.out)) k_ hk_), (Kd.freshB (g := c) (o := .cells #[.int .i64 ((rd_T49 l0 a).f0), .slice i ((rd_T49 l0 a).f1).length j, .bool ((rd_T49 l0 a).f2.f0), .bool ((rd_T49 l0 a).f2.f1), .int .i64 ((rd_T49 l0 a).f2.f2), .bool ((rd_T49 l0 a).f2.f3), .int .i64 ((rd_T49 l0 a).f3), .int .u8 ((rd_T49 l0 a).f4)] 49 (0, 0)) (vK d.out) k_ hk_)⟩)) (below_size bl_)); replace GA := rb' GA hb; replace GB := rb' GB hb; replace d := kb' d hb; replace HB := bs_ hb; (try clear hb); (try clear hk); (try clear ac); (try simp only [errW_none, errW_some])))
     go_ret2
     exact ⟨_, _, er_, by first | exact Kd.R_nil _ _ _ _ _ | exact Kd.N_nil _ _ _ _ _ | exact Kd.V_nil _ _ _ _ _ | exact Kd.Q_nil _ _ _ _ _ | exact Kd.S_nil _ _ _ _ _, by (with_reducible repeat apply pV); exact Kd.V_mono bP.out (fun _ hk => ⟨hk.1, (by simp [Value.ownBlock])⟩), bl_⟩
    replace aE := Bool.eq_false_iff.mpr aE
    subst aE
    rw [iF_] at H
    rcases y with _ | av
    ·rw [if_pos (show (none : Option Er).isNone = true by rfl)] at H
     try dsimp only [Option.getD_some] at H
     try simp only [errW_none, errW_some]
     by_cases aG : m.length + l.length < 140737488355328
     ·rw [if_pos aG] at H
      have bS := Z aG
      clear aG
      obtain ⟨bO, ad⟩ : ∃ y_ : List Int, y_ = (m ++ l) := ⟨_, rfl⟩
      rw [← ad] at H
      try replace H := sb_ H
      have bT := Z ad
      clear ad
      have H' := Z H
      clear H
      obtain ⟨bn, br, cb⟩ := Kd.R_slice GB.out
      subst cb
      go_wp2_with (first | ((with_reducible refine gate_builtin (b := .append) (xs := #[.tmp 50, .tmp 51]) rfl ?_); at_builtin; refine Kd.R_append_rows (Kd.int .u8) (w0 := w) w.heap.size rfl (.tmp 50) (.tmp 51) 37 5 (.int .u8 0) 1 rfl Tryz.underlying37 info5 rfl (by decide) (by omega) u6 m l _ _ _ (fun k_ => (w.heap.size ≤ k_) ∧ some k_ ≠ (.slice bn l.length br : Value).ownBlock) (fun _ => False) rfl rfl ?aO ?aR (fun _ _ h => h) (fun _ h => h.elim) ?aF ?aB ?aS ?aL ?_; (case aR => repeat (first | exact (Kd.R_reads' GB.out).2.2 | (with_reducible apply pC))); (case aB => exact bl_); (case aF => exact (fun k_ hk => ⟨(Nat.le_trans (below_size bl_) hk), Kd.fresh' (Kd.R_lt (by (with_reducible repeat apply pR); exact GB.out)) k_ hk⟩)); (case aO => exact (by (with_reducible repeat apply pR); exact GA.out)); (case aS => exact (below_size bl_)); (case aL => have := bS.out; omega); intro cy cK ho hb hg hat; rw [← bT.out] at ho; replace GB := Z (Kd.R_after (ok := (fun k_ => (w.heap.size ≤ k_))) (by (with_reducible repeat apply pR); exact GB.out) hg hat); replace GC := Z (Kd.V_afterv (ok := (fun k_ => (w.heap.size ≤ k_) ∧ some k_ ≠ (.slice bn l.length br : Value).ownBlock ∧ k_ ≠ c)) (by (with_reducible repeat apply pV); exact Kd.V_mono GC.out (fun _ hk => ⟨⟨hk.1, ⟨hk.2.2.1, hk.2.2.2⟩⟩, hk.2.1⟩)) hg hat); replace d := gw_ ⟨vK d.out⟩ hg (Kd.R_ne GA.out d.out (by decide)); replace HB := Z (hb); have bQ := Z (ho); clear GA; clear ho hb hg hat))
      go_roundg aH
      case measure => have := ak.out; have := bZ.out; omega
      case rel => exact ⟨(bO), (wrap64 (a + 1)), (dn_), H', ⟨by have := ak.out; have := bZ.out; omega⟩, ⟨by (with_reducible repeat apply pR); exact Kd.R_mono bQ.out im_⟩, ⟨bl_⟩⟩
     rw [if_neg aG] at H
     exact absurd H (by simp)
    rw [if_neg (show ¬ (some av).isNone = true by simp)] at H
    try dsimp only [Option.getD_some] at H
    try simp only [errW_none, errW_some]
    replace H := bn_ H
    obtain ⟨⟨bL, bM⟩, cj, H⟩ := H
    try dsimp only at H
    obtain ⟨rfl, rfl, rfl⟩ := ij3_ H
    obtain ⟨b5, b8, cc⟩ := Kd.V_slice GC.out
    subst cc
    go_wp2_with (first | ((with_reducible refine gF_ 57 rfl ?_); refine gd_ (some 49) Tryz.func57 (stream_spot.calls a (some av) _ _ n bL bM _ (vC_ GC) (vL_ GC) cj.out) ?_; rintro e cL ⟨cz, rfl, ac, hb⟩; refine ⟨_, rfl, ?_⟩; replace GC := vb' GC hb; have bR := Z (Kd.V_lower (Kd.V_mono (ok' := fun k_ => (w.heap.size ≤ k_) ∧ some k_ ≠ (u6 : Value).ownBlock ∧ some k_ ≠ (ae : Value).ownBlock ∧ k_ ≠ c) ac (fun k_ hk_ => ⟨(Nat.le_trans (below_size bl_) hk_), (Kd.fresh' (Kd.R_lt (by (with_reducible repeat apply pR); exact GA.out)) k_ hk_), (Kd.fresh' (Kd.R_lt (by (with_reducible repeat apply pR); exact GB.out)) k_ hk_), (Kd.freshB (g := c) (o := .cells #[.int .i64 ((rd_T49 l0 a).f0), .slice i ((rd_T49 l0 a).f1).length j, .bool ((rd_T49 l0 a).f2.f0), .bool ((rd_T49 l0 a).f2.f1), .int .i64 ((rd_T49 l0 a).f2.f2), .bool ((rd_T49 l0 a).f2.f3), .int .i64 ((rd_T49 l0 a).f3), .int .u8 ((rd_T49 l0 a).f4)] 49 (0, 0)) (vK d.out) k_ hk_)⟩)) (below_size bl_)); replace GA := rb' GA hb; replace GB := rb' GB hb; replace d := kb' d hb; replace HB := bs_ hb; (try clear hb); (try clear hk); (try clear ac); (try simp only [errW_none, errW_some])))
    go_ret2
    exact ⟨_, _, er_, by first | exact Kd.R_nil _ _ _ _ _ | exact Kd.N_nil _ _ _ _ _ | exact Kd.V_nil _ _ _ _ _ | exact Kd.Q_nil _ _ _ _ _ | exact Kd.S_nil _ _ _ _ _, by (with_reducible repeat apply pV); exact Kd.V_mono bR.out (fun _ hk => ⟨hk.1, (by simp [Value.ownBlock])⟩), bl_⟩

end Go.Proofs.YtphboakgkmjpbaaGreatDoor.P
