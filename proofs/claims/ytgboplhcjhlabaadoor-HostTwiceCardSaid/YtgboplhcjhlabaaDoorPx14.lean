/- pp.py and press2.py (wip/tools) wrote this text. -/
import Derived.Test.YtgboplhcjhlabaaDoorPx0
import Derived.Test.YtgboplhcjhlabaaDoorPxS
import Derived.Test.YtgboplhcjhlabaaDoorPx0L
import Derived.Test.YtgboplhcjhlabaaDoorPx4
import Derived.Test.YtgboplhcjhlabaaDoorPx7
import Derived.Test.YtgboplhcjhlabaaDoorPx9
import Derived.Test.YtgboplhcjhlabaaDoorPx12
import Derived.Test.YtgboplhcjhlabaaDoorPx13
namespace Go.Proofs.YtgboplhcjhlabaaDoor.P
open Go.RowKit Go.Proofs.YtgboplhcjhlabaaDoorW.PrintWords Go.Proofs.YtgboplhcjhlabaaDoorW.PrintLast Go.Proofs.YtgboplhcjhlabaaDoorW.PrintMore
attribute [local go_sem] max2_int min2_int max_two min_two max_three min_three max_four min_four
attribute [local go_sem] Instr.field asAgg
set_option linter.unusedVariables false
set_option linter.unusedSimpArgs false

/-! ### order_Put: function 91 -/
section
def byteT (k : Int) : Int := if k = 2 then 29 else if k = 3 then 17 else if k = 4 then 19 else if k = 5 then 5 else if k = 6 then 60 else 18
set_option maxRecDepth 100000 in
theorem run_index8 (w : World) (k : Int) (hk : k = 2 ∨ k = 3 ∨ k = 4 ∨ k = 5 ∨ k = 6 ∨ k = 7) : (Instr.index 152 (.agg #[.int .u8 0, .int .u8 0, .int .u8 29, .int .u8 17, .int .u8 19, .int .u8 5, .int .u8 60, .int .u8 18]) (.int .i64 k)).run Tryd.prog w = .ok (.int .u8 (byteT k)) w := by
 have hu := Tryd.underlying152
 have hs : Tryd.prog.cellsOf 5 = 1 := by kernel_rfl
 rcases hk with rfl | rfl | rfl | rfl | rfl | rfl <;> simp [Instr.index, asIntOf, run_underlying hu, byteT, hs] <;> rfl
attribute [local go_sem] run_index8
set_option maxHeartbeats 4000000 in
set_option maxRecDepth 100000 in
theorem byteOf_calls (k : Int) (a : 2 ≤ k) (b : k ≤ 7) (w : World) : Calls Tryd.prog 97 #[.int .i64 k] w fun e w' => e = .returned (.int .u8 (byteT k)) ∧ w' = w := by
 have hk : k = 2 ∨ k = 3 ∨ k = 4 ∨ k = 5 ∨ k = 6 ∨ k = 7 := by omega
 clear a b
 go_enter Tryd.func97, Tryd.ntmps97
 go_wp2
 go_ret
 exact ⟨rfl, rfl⟩
end
section
theorem six_all : ∀ n : Fin 64, (((six_at.f (n.val : Int)).map fun x => decide (0 ≤ x) && decide (x ≤ 255)) = some true) := by decide +kernel
def sixT (n : Int) : Int := (six_at.f n).getD 0
theorem six_some (n : Int) (b : 0 ≤ n) (c : n < 64) : six_at.f n = some (sixT n) ∧ 0 ≤ sixT n ∧ sixT n ≤ 255 := by
 obtain ⟨m, rfl⟩ := Int.eq_ofNat_of_zero_le b
 have h := six_all ⟨m, by omega⟩
 unfold sixT
 cases hq : six_at.f (m : Int) with
 | none => rw [show (((⟨m, by omega⟩ : Fin 64)).val : Int) = (m : Int) from rfl, hq] at h; cases h
 | some x =>
  rw [show (((⟨m, by omega⟩ : Fin 64)).val : Int) = (m : Int) from rfl, hq] at h
  have a : (decide (0 ≤ x) && decide (x ≤ 255)) = true := Option.some.inj h
  rw [Bool.and_eq_true] at a
  exact ⟨rfl, of_decide_eq_true a.1, of_decide_eq_true a.2⟩
theorem six_put (n : Int) (a : 0 ≤ n) (b : n < 64) : six_Put.f n = some (sixT n, none, []) := by
 unfold six_Put.f
 rw [if_neg (by omega), if_neg (by omega), (six_some n a b).1, Option.bind_some]
set_option maxHeartbeats 4000000 in
set_option maxRecDepth 100000 in
theorem addr_sized (s : Int) (a : 1 ≤ s) (b : s ≤ 16383) (w : World) : Calls Tryd.prog 103 #[.int .i64 s] w fun e w' => e = .returned (.bool true) ∧ w' = w := by
 have c : (s ≥ 1) = True := eq_true a
 have d : (s ≤ 16383) = True := eq_true b
 have f : decide (1 ≤ s) = true := decide_eq_true a
 have g : decide (s ≤ 16383) = true := decide_eq_true b
 go_enter Tryd.func103, Tryd.ntmps103
 go_wp2
 go_ret
 exact ⟨rfl, rfl⟩
set_option maxHeartbeats 4000000 in
set_option maxRecDepth 100000 in
theorem addr_Long (s : Int) (a : s ≤ 4096) (w : World) : Calls Tryd.prog 104 #[.int .i64 s] w fun e w' => e = .returned (.bool false) ∧ w' = w := by
 have b : decide (4096 < s) = false := decide_eq_false (by omega)
 go_enter Tryd.func104, Tryd.ntmps104
 go_wp2
 go_ret
 exact ⟨rfl, rfl⟩
theorem b_and63 (a : Int) (c : 0 ≤ a) (d : a < 4096) : bits .and .i64 a 63 = a % 64 := by
 have h := bits_mask .i64 63 (by decide) (fun n h₀ h₁ => by rw [IntKind.wrap_i64]; omega) 6 (by decide) a (by omega) (by omega)
 have e : ((2 : Int) ^ 6 - 1) = 63 := by decide
 have b : ((2 : Int) ^ 6) = 64 := by decide
 rw [e, b] at h
 exact h
set_option maxHeartbeats 4000000 in
set_option maxRecDepth 100000 in
theorem addr_Put_calls (a s : Int) (D : 0 ≤ a) (J : a < s) (E : s ≤ 4096) (w : World) : Calls Tryd.prog 98 #[.int .i64 a, .int .i64 s] w fun e w' => e = .returned (.tuple #[.agg #[.int .u8 (sixT (a / 64)), .int .u8 (sixT (a % 64))], .nilIface]) ∧ Below w.heap.size w w' := by
 have HB := Z (Below.refl w.heap.size w)
 have hu := Tryd.underlying146
 have K : decide (a < 0) = false := decide_eq_false (by omega)
 have L : decide (s ≤ a) = false := decide_eq_false (by omega)
 have hsz := addr_sized s (by omega) (by omega)
 have hlg := addr_Long s E
 have HS := Z hsz
 have HL := Z hlg
 clear hsz hlg
 go_enter Tryd.func98, Tryd.ntmps98
 go_wp2_with (first
  | ((with_reducible refine gate_dst (N := 4) rfl ?_); refine bx_ 4 146 #[.int .u8 0, .int .u8 0] ?_; intro u hg w1 hbox hb; have d := Z (below_step bl_ hb); have g := Z hbox; have h := Z (le_new hg (below_size bl_) : w.heap.size ≤ u); clear HB hb hbox hg; have HB := d; have b := g; have F := h; clear d g h)
  | ((with_reducible refine gate_callee (f := 103) rfl ?_); refine goesL_ (some 13) rfl rfl Tryd.func103 (by kernel_rfl) rfl #[.int .i64 s] rfl ag_ ?_; (with_reducible refine (HS.out _).mono ?_); rintro e w' ⟨rfl, rfl⟩; refine ⟨_, rfl, ?_⟩)
  | ((with_reducible refine gate_callee (f := 104) rfl ?_); refine goesL_ (some 29) rfl rfl Tryd.func104 (by kernel_rfl) rfl #[.int .i64 s] rfl ag_ ?_; (with_reducible refine (HL.out _).mono ?_); rintro e w' ⟨rfl, rfl⟩; refine ⟨_, rfl, ?_⟩)
  | ((with_reducible refine gate_dst (N := 6) rfl ?_); refine bx_ 6 146 #[.int .u8 0, .int .u8 0] ?_; intro z hg w2 hbox hb; have d := Z (below_step bl_ hb); have g := Z hbox; have h := Z (le_new hg (below_size bl_) : w.heap.size ≤ z); have j := Z (kb b.out hb); have A := Z (nl b.out hg); clear HB b hb hbox hg; have HB := d; have c := g; have G := h; have b := j; have q := A; clear d g h j A))
 rw [b_and63 a D (by omega)]
 obtain ⟨w3, k⟩ : ∃ w3 : World, w3 = w2.alloc (.cells #[.int .i64 (a / 64), .int .i64 (a % 64)] 3) := ⟨_, rfl⟩
 obtain ⟨n, l⟩ : ∃ n : Nat, n = w2.heap.size := ⟨_, rfl⟩
 rw [← k, ← l]
 have d := Z (show w3.heap[n]? = some (.cells #[.int .i64 (a / 64), .int .i64 (a % 64)] 3 (0, 0)) by rw [k, l]; exact blk_new _ _)
 have g := Z (show w3.heap[u]? = some (.cells #[.int .u8 0, .int .u8 0] 146 (0, 0)) by rw [k]; exact pK b.out)
 have h := Z (show w3.heap[z]? = some (.cells #[.int .u8 0, .int .u8 0] 146 (0, 0)) by rw [k]; exact pK c.out)
 have j := Z (show Below w.heap.size w w3 by rw [k]; exact bl_)
 have C := Z (show u ≠ n by rw [l]; exact Nat.ne_of_lt (blk_lt b.out))
 have r := Z (show z ≠ n by rw [l]; exact Nat.ne_of_lt (blk_lt c.out))
 clear k l b c HB
 have i := d
 have b := g
 have c := h
 have HB := j
 clear d g h j
 go_loopg [42] 2 (fun m B w' => ∃ (y v x : Int), B = .int .i64 y ∧ Aside0 ((y = 0 ∧ v = 0 ∧ x = 0) ∨ (y = 1 ∧ v = sixT (a / 64) ∧ x = 0) ∨ (y = 2 ∧ v = sixT (a / 64) ∧ x = sixT (a % 64))) ∧ Aside0 (y + (m : Int) = 2) ∧ Aside0 (w'.heap[u]? = some (.cells #[.int .u8 0, .int .u8 0] 146 (0, 0))) ∧ Aside0 (w'.heap[z]? = some (.cells #[.int .u8 v, .int .u8 x] 146 (0, 0))) ∧ Aside0 (w'.heap[n]? = some (.cells #[.int .i64 (a / 64), .int .i64 (a % 64)] 3 (0, 0))) ∧ Aside0 (Below w.heap.size w w'))
 case atStart => exact ⟨0, 0, 0, rfl, ⟨.inl ⟨rfl, rfl, rfl⟩⟩, ⟨by omega⟩, b, c, i, HB⟩
 case round =>
  clear b c i HB
  obtain ⟨y, v, x, rfl, HY, YM, b, c, i, HB⟩ := hrel
  have ym := YM.out
  rcases HY.out with ⟨rfl, rfl, rfl⟩ | ⟨rfl, rfl, rfl⟩ | ⟨rfl, rfl, rfl⟩
  ·obtain rfl : gk = 2 := by omega
   clear HY YM ym
   obtain ⟨k0, k1, o, p⟩ := cells2 i.out
   go_wp2_with (first | ((with_reducible refine gate_callee (f := 83) rfl ?_); refine goesL_ (some 49) rfl rfl Tryd.func83 (by kernel_rfl) rfl #[.int .i64 (a / 64)] rfl ag_ ?_; (with_reducible refine (six_Put.calls (a / 64) (sixT (a / 64)) none [] _ (six_put _ (by omega) (by omega))).mono ?_); rintro e w5 ⟨vi, rfl, _, hb⟩; refine ⟨_, rfl, ?_⟩; simp only [errW_none]; replace b := Z (kb b.out hb); replace c := Z (kb c.out hb); replace i := Z (kb i.out hb); replace HB := Z (below_step bl_ hb); clear hb k0 k1 o p; obtain ⟨k0, k1, o, p⟩ := cells2 c.out))
   go_roundg 1
   case measure => omega
   case rel => exact ⟨1, sixT (a / 64), 0, rfl, ⟨.inr (.inl ⟨rfl, rfl, rfl⟩)⟩, ⟨by omega⟩, ⟨blk_off b.out q.out off2_⟩, ⟨blk_put (cs := #[.int .u8 0, .int .u8 0]) c.out 0 _ rfl⟩, ⟨blk_off i.out r.out.symm off2_⟩, ⟨bl_⟩⟩
  ·obtain rfl : gk = 1 := by omega
   clear HY YM ym
   obtain ⟨k0, k1, o, p⟩ := cells2 i.out
   go_wp2_with (first | ((with_reducible refine gate_callee (f := 83) rfl ?_); refine goesL_ (some 49) rfl rfl Tryd.func83 (by kernel_rfl) rfl #[.int .i64 (a % 64)] rfl ag_ ?_; (with_reducible refine (six_Put.calls (a % 64) (sixT (a % 64)) none [] _ (six_put _ (by omega) (by omega))).mono ?_); rintro e w5 ⟨vi, rfl, _, hb⟩; refine ⟨_, rfl, ?_⟩; simp only [errW_none]; replace b := Z (kb b.out hb); replace c := Z (kb c.out hb); replace i := Z (kb i.out hb); replace HB := Z (below_step bl_ hb); clear hb k0 k1 o p; obtain ⟨k0, k1, o, p⟩ := cells2 c.out))
   go_roundg 0
   case measure => omega
   case rel => exact ⟨2, sixT (a / 64), sixT (a % 64), rfl, ⟨.inr (.inr ⟨rfl, rfl, rfl⟩)⟩, ⟨by omega⟩, ⟨blk_off b.out q.out off2_⟩, ⟨blk_put (cs := #[.int .u8 (sixT (a / 64)), .int .u8 0]) c.out 1 _ rfl⟩, ⟨blk_off i.out r.out.symm off2_⟩, ⟨bl_⟩⟩
  ·clear HY YM ym
   obtain ⟨k0, k1, o, p⟩ := cells2 c.out
   obtain ⟨M, O, H, I⟩ := cells2 b.out
   go_wp2
   refine bodyPost_ret (results_ct rfl _ _ u 146 #[.int .u8 (sixT (a / 64)), .int .u8 (sixT (a % 64))] (0, 0) _ rfl (blk_put (cs := #[.int .u8 (sixT (a / 64)), .int .u8 0]) (blk_put (cs := #[.int .u8 0, .int .u8 0]) b.out 0 _ rfl) 1 _ rfl) Tryd.underlying146 rfl (by kernel_rfl)) rfl ?_
   exact ⟨rfl, bl_⟩
end
section
theorem two_C {w : World} {g : Nat} {x y : Int} (h : w.heap[g]? = some (.cells #[.int .u8 x, .int .u8 y] 146 (0, 0))) : Kd.C (Kd.int .u8) w (some ⟨g, 0, none⟩) 2 [x, y] := by
 obtain ⟨k0, k1, _, _⟩ := cells2 h
 refine Kd.C_of_reads (d := (0 : Int)) ⟨rfl, by decide, fun _ => ⟨⟨g, 0, none⟩, rfl, fun j hj => ?_⟩⟩
 match j, hj with
 | 0, _ => exact k0
 | 1, _ => exact k1
set_option maxHeartbeats 8000000 in
set_option maxRecDepth 100000 in
theorem order_Put1 (kz : Nat) (c : Option Addr) (c1 : Nat) (tx : List Int) (ap an : Bool) (as_ : Int) (am : Bool) (ad ch s : Int) (w : World) (hr : Kd.C (Kd.int .u8) w c tx.length tx) (hc : tx.length ≤ c1) (hn : tx.length ≤ 16383) (A : List S184) (hR : order_Right.f kz 1 tx ap an as_ am ad ch s = some (none, A)) : Calls Tryd.prog 91 #[.agg #[.int .i64 1, .slice c tx.length c1, .bool ap, .bool an, .int .i64 as_, .bool am, .int .i64 ad, .int .u8 ch], .int .i64 s] w fun e w' => ∃ z : Value, e = .returned (.tuple #[z, .nilIface]) ∧ Kd.R (Kd.int .u8) 5 w' w.heap.size (fun k_ => w.heap.size ≤ k_) z tx ∧ Below w.heap.size w w' := by
 have HT := Z hr
 have HTc := Z hc
 have HB := Z (Below.refl w.heap.size w)
 have HR := Z hR
 have hu := Tryd.underlying30
 have B := Tryd.underlying34
 have D := Tryd.underlying28
 have E := Tryd.underlying146
 clear hr hc hR
 have HC := Z (show slices_Clone_byte_byte.f tx = some tx from if_pos hn)
 go_enter Tryd.func91, Tryd.ntmps91
 go_wp2_with (first | ((with_reducible refine gate_dst (N := 2) rfl ?_); refine bx_ 2 30 #[.int .i64 1, .slice c tx.length c1, .bool ap, .bool an, .int .i64 as_, .bool am, .int .i64 ad, .int .u8 ch] ?_; intro g hg w1 hbox hb; have BK := Z (hbox); replace HB := Z (below_step bl_ hb); clear hb hbox hg; obtain ⟨d, h, i, j, k, l, m, n, o, p, q, r, u, v, x, y⟩ := cells8 BK.out) | ((with_reducible refine gate_callee (f := 36) rfl ?_); refine goesL_ (some 14) rfl rfl Tryd.func36 (by kernel_rfl) rfl #[.agg #[.int .i64 1, .slice c tx.length c1, .bool ap, .bool an, .int .i64 as_, .bool am, .int .i64 ad, .int .u8 ch], .int .i64 s] rfl ag_ ?_; (with_reducible refine (order_Right.calls kz 1 c c1 tx ap an as_ am ad ch s none A _ ?s1 ?s2 HR.out).mono ?_); (case s1 => exact Kd.C_below HT.out HB.out); (case s2 => exact HTc.out); rintro e w5 ⟨ev, rfl, he, hb⟩; refine ⟨_, rfl, ?_⟩; simp only [errW_none]; clear he; clear d h i j k l m n o p q r u v x y; replace BK := Z (kb BK.out hb); replace HB := Z (below_step bl_ hb); clear hb; obtain ⟨d, h, i, j, k, l, m, n, o, p, q, r, u, v, x, y⟩ := cells8 BK.out) | ((with_reducible refine gate_callee (f := 96) rfl ?_); refine goesL_ (some 23) rfl rfl Tryd.func96 (by kernel_rfl) rfl #[.slice c tx.length c1] rfl ag_ ?_; (with_reducible refine (slices_Clone_byte_byte.calls c c1 tx tx _ ?s1 ?s2 HC.out).mono ?_); (case s1 => exact Kd.C_below HT.out HB.out); (case s2 => exact HTc.out); rintro e w6 ⟨F, rfl, ho, hb⟩; refine ⟨_, rfl, ?_⟩; have HO := Z (Kd.R_lower ho (below_size bl_)); have a := Z (below_step bl_ hb); clear HB ho hb BK; clear d h i j k l m n o p q r u v x y; have HB := a; clear a))
 go_ret2
 exact ⟨_, rfl, Kd.R_reok (ok := fun k_ => w.heap.size ≤ k_) rfl HO.out (fun k_ e_ => Kd.R_base HO.out k_ e_), bl_⟩
set_option maxHeartbeats 8000000 in
set_option maxRecDepth 100000 in
theorem order_Put4 (kz : Nat) (y : Option Addr) (c1 : Nat) (tx : List Int) (ap an : Bool) (as_ : Int) (am : Bool) (ad ch s : Int) (w : World) (hr : Kd.C (Kd.int .u8) w y tx.length tx) (hc : tx.length ≤ c1) (A : List S184) (hR : order_Right.f kz 4 tx ap an as_ am ad ch s = some (none, A)) : Calls Tryd.prog 91 #[.agg #[.int .i64 4, .slice y tx.length c1, .bool ap, .bool an, .int .i64 as_, .bool am, .int .i64 ad, .int .u8 ch], .int .i64 s] w fun e w' => ∃ z : Value, e = .returned (.tuple #[z, .nilIface]) ∧ Kd.R (Kd.int .u8) 5 w' w.heap.size (fun k_ => w.heap.size ≤ k_) z [byteT 4] ∧ Below w.heap.size w w' := by
 have HT := Z hr
 have HTc := Z hc
 have HB := Z (Below.refl w.heap.size w)
 have HR := Z hR
 have hu := Tryd.underlying30
 have B := Tryd.underlying34
 have D := Tryd.underlying28
 have E := Tryd.underlying146
 clear hr hc hR
 go_enter Tryd.func91, Tryd.ntmps91
 go_wp2_with (first | ((with_reducible refine gate_dst (N := 2) rfl ?_); refine bx_ 2 30 #[.int .i64 4, .slice y tx.length c1, .bool ap, .bool an, .int .i64 as_, .bool am, .int .i64 ad, .int .u8 ch] ?_; intro g hg w1 hbox hb; have BK := Z (hbox); replace HB := Z (below_step bl_ hb); clear hb hbox hg; obtain ⟨c, d, h, i, j, k, l, m, n, o, p, q, r, u, v, x⟩ := cells8 BK.out) | ((with_reducible refine gate_callee (f := 36) rfl ?_); refine goesL_ (some 14) rfl rfl Tryd.func36 (by kernel_rfl) rfl #[.agg #[.int .i64 4, .slice y tx.length c1, .bool ap, .bool an, .int .i64 as_, .bool am, .int .i64 ad, .int .u8 ch], .int .i64 s] rfl ag_ ?_; (with_reducible refine (order_Right.calls kz 4 y c1 tx ap an as_ am ad ch s none A _ ?s1 ?s2 HR.out).mono ?_); (case s1 => exact Kd.C_below HT.out HB.out); (case s2 => exact HTc.out); rintro e w5 ⟨ev, rfl, he, hb⟩; refine ⟨_, rfl, ?_⟩; simp only [errW_none]; clear he; clear c d h i j k l m n o p q r u v x; replace BK := Z (kb BK.out hb); replace HB := Z (below_step bl_ hb); clear hb; obtain ⟨c, d, h, i, j, k, l, m, n, o, p, q, r, u, v, x⟩ := cells8 BK.out) | ((with_reducible refine gate_callee (f := 97) rfl ?_); refine goesL_ (some 26) rfl rfl Tryd.func97 (by kernel_rfl) rfl #[.int .i64 4] rfl ag_ ?_; (with_reducible refine (byteOf_calls 4 (by omega) (by omega) _).mono ?_); rintro e w' ⟨rfl, rfl⟩; refine ⟨_, rfl, ?_⟩) | ((with_reducible refine gate_dst (N := 27) rfl ?_); refine Kd.R_lit (Kd.int .u8) w.heap.size 5 ?hg (N := 27) ?hd (xs := ([byteT 4] : List Int)) (inner := [.int .u8 (byteT 4)]) (ok := fun _ => True) (okp := fun _ => True) ?hr ?hp (fun _ hk => hk) trivial HB.out (below_size HB.out) (by simp) ?_; (case hd => rfl); (case hg => rfl); (case hr => first | (go_simp; done) | (go_simp; rfl)); (case hp => exact (Reps.one (show Kd.M (Kd.int .u8) _ _ _ (byteT 4) [.int .u8 (byteT 4)] from rfl) (Reps.none _ _))); intro G F ho hb hg_ hnew_; have a := Z (blk_grown BK.out hg_ (by simp)); have HO := Z ho; clear ho HB BK hg_ hnew_; clear c d h i j k l m n o p q r u v x; have HB := Z hb; have BK := a; clear hb a; obtain ⟨c, d, h, i, j, k, l, m, n, o, p, q, r, u, v, x⟩ := cells8 BK.out))
 go_ret2
 exact ⟨_, rfl, Kd.R_reok (ok := fun k_ => w.heap.size ≤ k_) rfl HO.out (fun k_ e_ => Kd.R_base HO.out k_ e_), bl_⟩
set_option maxHeartbeats 8000000 in
set_option maxRecDepth 100000 in
theorem order_Put5 (kz : Nat) (y : Option Addr) (c1 : Nat) (tx : List Int) (ap an : Bool) (as_ : Int) (am : Bool) (ad ch s : Int) (w : World) (hr : Kd.C (Kd.int .u8) w y tx.length tx) (hc : tx.length ≤ c1) (A : List S184) (hR : order_Right.f kz 5 tx ap an as_ am ad ch s = some (none, A)) : Calls Tryd.prog 91 #[.agg #[.int .i64 5, .slice y tx.length c1, .bool ap, .bool an, .int .i64 as_, .bool am, .int .i64 ad, .int .u8 ch], .int .i64 s] w fun e w' => ∃ z : Value, e = .returned (.tuple #[z, .nilIface]) ∧ Kd.R (Kd.int .u8) 5 w' w.heap.size (fun k_ => w.heap.size ≤ k_) z [byteT 5] ∧ Below w.heap.size w w' := by
 have HT := Z hr
 have HTc := Z hc
 have HB := Z (Below.refl w.heap.size w)
 have HR := Z hR
 have hu := Tryd.underlying30
 have B := Tryd.underlying34
 have D := Tryd.underlying28
 have E := Tryd.underlying146
 clear hr hc hR
 go_enter Tryd.func91, Tryd.ntmps91
 go_wp2_with (first | ((with_reducible refine gate_dst (N := 2) rfl ?_); refine bx_ 2 30 #[.int .i64 5, .slice y tx.length c1, .bool ap, .bool an, .int .i64 as_, .bool am, .int .i64 ad, .int .u8 ch] ?_; intro g hg w1 hbox hb; have BK := Z (hbox); replace HB := Z (below_step bl_ hb); clear hb hbox hg; obtain ⟨c, d, h, i, j, k, l, m, n, o, p, q, r, u, v, x⟩ := cells8 BK.out) | ((with_reducible refine gate_callee (f := 36) rfl ?_); refine goesL_ (some 14) rfl rfl Tryd.func36 (by kernel_rfl) rfl #[.agg #[.int .i64 5, .slice y tx.length c1, .bool ap, .bool an, .int .i64 as_, .bool am, .int .i64 ad, .int .u8 ch], .int .i64 s] rfl ag_ ?_; (with_reducible refine (order_Right.calls kz 5 y c1 tx ap an as_ am ad ch s none A _ ?s1 ?s2 HR.out).mono ?_); (case s1 => exact Kd.C_below HT.out HB.out); (case s2 => exact HTc.out); rintro e w5 ⟨ev, rfl, he, hb⟩; refine ⟨_, rfl, ?_⟩; simp only [errW_none]; clear he; clear c d h i j k l m n o p q r u v x; replace BK := Z (kb BK.out hb); replace HB := Z (below_step bl_ hb); clear hb; obtain ⟨c, d, h, i, j, k, l, m, n, o, p, q, r, u, v, x⟩ := cells8 BK.out) | ((with_reducible refine gate_callee (f := 97) rfl ?_); refine goesL_ (some 26) rfl rfl Tryd.func97 (by kernel_rfl) rfl #[.int .i64 5] rfl ag_ ?_; (with_reducible refine (byteOf_calls 5 (by omega) (by omega) _).mono ?_); rintro e w' ⟨rfl, rfl⟩; refine ⟨_, rfl, ?_⟩) | ((with_reducible refine gate_dst (N := 27) rfl ?_); refine Kd.R_lit (Kd.int .u8) w.heap.size 5 ?hg (N := 27) ?hd (xs := ([byteT 5] : List Int)) (inner := [.int .u8 (byteT 5)]) (ok := fun _ => True) (okp := fun _ => True) ?hr ?hp (fun _ hk => hk) trivial HB.out (below_size HB.out) (by simp) ?_; (case hd => rfl); (case hg => rfl); (case hr => first | (go_simp; done) | (go_simp; rfl)); (case hp => exact (Reps.one (show Kd.M (Kd.int .u8) _ _ _ (byteT 5) [.int .u8 (byteT 5)] from rfl) (Reps.none _ _))); intro G F ho hb hg_ hnew_; have a := Z (blk_grown BK.out hg_ (by simp)); have HO := Z ho; clear ho HB BK hg_ hnew_; clear c d h i j k l m n o p q r u v x; have HB := Z hb; have BK := a; clear hb a; obtain ⟨c, d, h, i, j, k, l, m, n, o, p, q, r, u, v, x⟩ := cells8 BK.out))
 go_ret2
 exact ⟨_, rfl, Kd.R_reok (ok := fun k_ => w.heap.size ≤ k_) rfl HO.out (fun k_ e_ => Kd.R_base HO.out k_ e_), bl_⟩
set_option maxHeartbeats 8000000 in
set_option maxRecDepth 100000 in
theorem order_Put2 (kz : Nat) (z : Option Addr) (c1 : Nat) (tx : List Int) (ap an : Bool) (as_ : Int) (am : Bool) (ad ch s : Int) (w : World) (hr : Kd.C (Kd.int .u8) w z tx.length tx) (hc : tx.length ≤ c1) (p1 : Int) (p3 : List S184) (hP : attr_Put.f kz ap an as_ am = some (p1, none, p3)) (E : List S184) (hR : order_Right.f kz 2 tx ap an as_ am ad ch s = some (none, E)) : Calls Tryd.prog 91 #[.agg #[.int .i64 2, .slice z tx.length c1, .bool ap, .bool an, .int .i64 as_, .bool am, .int .i64 ad, .int .u8 ch], .int .i64 s] w fun e w' => ∃ D : Value, e = .returned (.tuple #[D, .nilIface]) ∧ Kd.R (Kd.int .u8) 5 w' w.heap.size (fun k_ => w.heap.size ≤ k_) D [byteT 2, p1] ∧ Below w.heap.size w w' := by
 have HT := Z hr
 have HTc := Z hc
 have HB := Z (Below.refl w.heap.size w)
 have HR := Z hR
 have hu := Tryd.underlying30
 have F := Tryd.underlying34
 have G := Tryd.underlying28
 have H := Tryd.underlying146
 clear hr hc hR
 have HP := Z hP
 clear hP
 go_enter Tryd.func91, Tryd.ntmps91
 go_wp2_with (first | ((with_reducible refine gate_dst (N := 2) rfl ?_); refine bx_ 2 30 #[.int .i64 2, .slice z tx.length c1, .bool ap, .bool an, .int .i64 as_, .bool am, .int .i64 ad, .int .u8 ch] ?_; intro g hg w1 hbox hb; have BK := Z (hbox); replace HB := Z (below_step bl_ hb); clear hb hbox hg; obtain ⟨d, h, i, j, k, l, m, n, o, p, q, r, u, v, x, y⟩ := cells8 BK.out) | ((with_reducible refine gate_callee (f := 36) rfl ?_); refine goesL_ (some 14) rfl rfl Tryd.func36 (by kernel_rfl) rfl #[.agg #[.int .i64 2, .slice z tx.length c1, .bool ap, .bool an, .int .i64 as_, .bool am, .int .i64 ad, .int .u8 ch], .int .i64 s] rfl ag_ ?_; (with_reducible refine (order_Right.calls kz 2 z c1 tx ap an as_ am ad ch s none E _ ?s1 ?s2 HR.out).mono ?_); (case s1 => exact Kd.C_below HT.out HB.out); (case s2 => exact HTc.out); rintro e w5 ⟨ev, rfl, he, hb⟩; refine ⟨_, rfl, ?_⟩; simp only [errW_none]; clear he; clear d h i j k l m n o p q r u v x y; replace BK := Z (kb BK.out hb); replace HB := Z (below_step bl_ hb); clear hb; obtain ⟨d, h, i, j, k, l, m, n, o, p, q, r, u, v, x, y⟩ := cells8 BK.out) | ((with_reducible refine gate_callee (f := 97) rfl ?_); refine goesL_ (some 26) rfl rfl Tryd.func97 (by kernel_rfl) rfl #[.int .i64 2] rfl ag_ ?_; (with_reducible refine (byteOf_calls 2 (by omega) (by omega) _).mono ?_); rintro e w' ⟨rfl, rfl⟩; refine ⟨_, rfl, ?_⟩) | ((with_reducible refine gate_dst (N := 27) rfl ?_); refine Kd.R_lit (Kd.int .u8) w.heap.size 5 ?hg (N := 27) ?hd (xs := ([byteT 2] : List Int)) (inner := [.int .u8 (byteT 2)]) (ok := fun _ => True) (okp := fun _ => True) ?hr ?hp (fun _ hk => hk) trivial HB.out (below_size HB.out) (by simp) ?_; (case hd => rfl); (case hg => rfl); (case hr => first | (go_simp; done) | (go_simp; rfl)); (case hp => exact (Reps.one (show Kd.M (Kd.int .u8) _ _ _ (byteT 2) [.int .u8 (byteT 2)] from rfl) (Reps.none _ _))); intro L I ho hb hg_ hnew_; have a := Z (blk_grown BK.out hg_ (by simp)); have HO := Z ho; clear ho HB BK hg_ hnew_; clear d h i j k l m n o p q r u v x y; have HB := Z hb; have BK := a; clear hb a; obtain ⟨d, h, i, j, k, l, m, n, o, p, q, r, u, v, x, y⟩ := cells8 BK.out) | ((with_reducible refine gate_callee (f := 60) rfl ?_); refine goesL_ (some 35) rfl rfl Tryd.func60 (by kernel_rfl) rfl #[.agg #[.bool ap, .bool an, .int .i64 as_, .bool am]] rfl ag_ ?_; (with_reducible refine (attr_Put.calls kz ap an as_ am p1 none p3 _ HP.out).mono ?_); rintro e J ⟨ev, rfl, he, hb⟩; refine ⟨_, rfl, ?_⟩; simp only [errW_none]; clear d h i j k l m n o p q r u v x y; replace BK := Z (kb BK.out hb); replace HO := Z (rb HO.out hb); replace HB := Z (below_step bl_ hb); clear he hb; obtain ⟨Ao, co, eo⟩ := Kd.R_slice HO.out; subst eo; obtain ⟨d, h, i, j, k, l, m, n, o, p, q, r, u, v, x, y⟩ := cells8 BK.out) | ((with_reducible refine gate_builtin (b := .append) (xs := #[.tmp 38, .tmp 40]) rfl ?_); at_builtin; refine Kd.R_append (Kd.int .u8) (w0 := w) w.heap.size rfl (.tmp 38) (.tmp 40) 26 5 (.int .u8 0) 1 rfl Tryd.underlying26 infoU8_ rfl (by decide) (by omega) (.slice Ao 1 co) [byteT 2] (p1) [.int .u8 (p1)] (fun _ => True) (fun _ => False) rfl rfl ?aP (fun _ hk => hk.elim) ?aF ?aO ?aB ?aS ?aL ?_; (case aP => exact rfl); (case aB => exact bl_); (case aF => exact fun _ _ => trivial); (case aO => exact HO.out); (case aS => exact (below_size bl_)); (case aL => simp); intro O K ho hb hg hat; clear d h i j k l m n o p q r u v x y; clear BK; have A := Z ho; clear ho HB HO; have HB := Z hb; have HO := A; clear A hb hg hat))
 go_ret2
 exact ⟨_, rfl, Kd.R_reok (ok := fun k_ => w.heap.size ≤ k_) rfl HO.out (fun k_ e_ => Kd.R_base HO.out k_ e_), bl_⟩
set_option maxHeartbeats 8000000 in
set_option maxRecDepth 100000 in
theorem order_Put3 (kz : Nat) (F : Option Addr) (c1 : Nat) (tx : List Int) (ap an : Bool) (as_ : Int) (am : Bool) (ad ch s : Int) (w : World) (hr : Kd.C (Kd.int .u8) w F tx.length tx) (hc : tx.length ≤ c1) (I : 0 ≤ ad) (hA1 : ad < s) (J : s ≤ 4096) (e2 : List S184) (hR : order_Right.f kz 3 tx ap an as_ am ad ch s = some (none, e2)) : Calls Tryd.prog 91 #[.agg #[.int .i64 3, .slice F tx.length c1, .bool ap, .bool an, .int .i64 as_, .bool am, .int .i64 ad, .int .u8 ch], .int .i64 s] w fun e w' => ∃ V : Value, e = .returned (.tuple #[V, .nilIface]) ∧ Kd.R (Kd.int .u8) 5 w' w.heap.size (fun k_ => w.heap.size ≤ k_) V [byteT 3, sixT (ad / 64), sixT (ad % 64)] ∧ Below w.heap.size w w' := by
 have HT := Z hr
 have HTc := Z hc
 have HB := Z (Below.refl w.heap.size w)
 have HR := Z hR
 have hu := Tryd.underlying30
 have ag := Tryd.underlying34
 have ah := Tryd.underlying28
 have ai := Tryd.underlying146
 clear hr hc hR
 have W := Z I
 have X := Z hA1
 have Y := Z J
 clear I hA1 J
 go_enter Tryd.func91, Tryd.ntmps91
 go_wp2_with (first | ((with_reducible refine gate_dst (N := 2) rfl ?_); refine bx_ 2 30 #[.int .i64 3, .slice F tx.length c1, .bool ap, .bool an, .int .i64 as_, .bool am, .int .i64 ad, .int .u8 ch] ?_; intro g hg w1 hbox hb; have BK := Z (hbox); replace HB := Z (below_step bl_ hb); clear hb hbox hg; obtain ⟨c, d, i, j, k, l, m, n, o, q, r, u, x, y, z, A⟩ := cells8 BK.out) | ((with_reducible refine gate_callee (f := 36) rfl ?_); refine goesL_ (some 14) rfl rfl Tryd.func36 (by kernel_rfl) rfl #[.agg #[.int .i64 3, .slice F tx.length c1, .bool ap, .bool an, .int .i64 as_, .bool am, .int .i64 ad, .int .u8 ch], .int .i64 s] rfl ag_ ?_; (with_reducible refine (order_Right.calls kz 3 F c1 tx ap an as_ am ad ch s none e2 _ ?s1 ?s2 HR.out).mono ?_); (case s1 => exact Kd.C_below HT.out HB.out); (case s2 => exact HTc.out); rintro e w5 ⟨ev, rfl, he, hb⟩; refine ⟨_, rfl, ?_⟩; simp only [errW_none]; clear he; clear c d i j k l m n o q r u x y z A; replace BK := Z (kb BK.out hb); replace HB := Z (below_step bl_ hb); clear hb; obtain ⟨c, d, i, j, k, l, m, n, o, q, r, u, x, y, z, A⟩ := cells8 BK.out) | ((with_reducible refine gate_callee (f := 97) rfl ?_); refine goesL_ (some 26) rfl rfl Tryd.func97 (by kernel_rfl) rfl #[.int .i64 3] rfl ag_ ?_; (with_reducible refine (byteOf_calls 3 (by omega) (by omega) _).mono ?_); rintro e w' ⟨rfl, rfl⟩; refine ⟨_, rfl, ?_⟩) | ((with_reducible refine gate_dst (N := 27) rfl ?_); refine Kd.R_lit (Kd.int .u8) w.heap.size 5 ?hg (N := 27) ?hd (xs := ([byteT 3] : List Int)) (inner := [.int .u8 (byteT 3)]) (ok := fun _ => True) (okp := fun _ => True) ?hr ?hp (fun _ hk => hk) trivial HB.out (below_size HB.out) (by simp) ?_; (case hd => rfl); (case hg => rfl); (case hr => first | (go_simp; done) | (go_simp; rfl)); (case hp => exact (Reps.one (show Kd.M (Kd.int .u8) _ _ _ (byteT 3) [.int .u8 (byteT 3)] from rfl) (Reps.none _ _))); intro v1 aj ho hb hg_ hnew_; have a := Z (blk_grown BK.out hg_ (by simp)); have HO := Z ho; clear ho HB BK hg_ hnew_; clear c d i j k l m n o q r u x y z A; have HB := Z hb; have BK := a; clear hb a; obtain ⟨c, d, i, j, k, l, m, n, o, q, r, u, x, y, z, A⟩ := cells8 BK.out) | ((with_reducible refine gate_callee (f := 98) rfl ?_); refine goesL_ (some 51) rfl rfl Tryd.func98 (by kernel_rfl) rfl #[.int .i64 ad, .int .i64 s] rfl ag_ ?_; (with_reducible refine (addr_Put_calls ad s W.out X.out Y.out _).mono ?_); rintro e ak ⟨rfl, hb⟩; refine ⟨_, rfl, ?_⟩; clear c d i j k l m n o q r u x y z A; replace BK := Z (kb BK.out hb); replace HO := Z (rb HO.out hb); replace HB := Z (below_step bl_ hb); clear hb; obtain ⟨c, d, i, j, k, l, m, n, o, q, r, u, x, y, z, A⟩ := cells8 BK.out) | ((with_reducible refine gate_dst (N := 10) rfl ?_); refine bx_ 10 146 #[.int .u8 0, .int .u8 0] ?_; intro G hg ac hbox hb; clear c d i j k l m n o q r u x y z A; have NB := Z (nl BK.out hg); have NO := Z (own_newB HO.out hg); have GE := Z (le_new hg (below_size bl_) : w.heap.size ≤ G); replace BK := Z (kb BK.out hb); replace HO := Z (rb HO.out hb); have BA := Z (hbox); replace HB := Z (below_step bl_ hb); clear hb hbox hg; obtain ⟨c, d, i, j, k, l, m, n, o, q, r, u, x, y, z, A⟩ := cells8 BK.out; obtain ⟨k0, k1, n0, n1⟩ := cells2 BA.out) | ((with_reducible refine gate_store (t := 146) (p := 10) rfl ?_); refine sx_ 146 10 ((ac.setCell ⟨G, 0, none⟩ (.int .u8 (sixT (ad / 64)))).setCell ⟨G, 1, none⟩ (.int .u8 (sixT (ad % 64)))) ?_; intro E hw; have K : Aside0 (E.heap[G]? = some (.cells #[.int .u8 (sixT (ad / 64)), .int .u8 (sixT (ad % 64))] 146 (0, 0))) := ⟨by rw [hw]; exact blk_put (cs := #[.int .u8 (sixT (ad / 64)), .int .u8 0]) (blk_put (cs := #[.int .u8 0, .int .u8 0]) BA.out 0 _ rfl) 1 _ rfl⟩; have L : Aside0 (E.heap[g]? = some (.cells #[.int .i64 3, .slice F tx.length c1, .bool ap, .bool an, .int .i64 as_, .bool am, .int .i64 ad, .int .u8 ch] 30 (0, 0))) := ⟨by rw [hw]; exact blk_off BK.out NB.out off2_⟩; have O : Aside0 (Kd.R (Kd.int .u8) 5 E w.heap.size (fun _ => True) v1 [byteT 3]) := ⟨by rw [hw]; exact R_offoB HO.out rfl NO.out off2_⟩; have P : Aside0 (Below w.heap.size w E) := ⟨by rw [hw]; exact bl_⟩; clear hw k0 k1 n0 n1 HO BA BK HB; clear c d i j k l m n o q r u x y z A; have BA := K; have BK := L; have HO := O; have HB := P; clear K L O P; obtain ⟨c, d, i, j, k, l, m, n, o, q, r, u, x, y, z, A⟩ := cells8 BK.out) | ((with_reducible refine gate_builtin (b := .append) (xs := #[.tmp 57, .tmp 58]) rfl ?_); at_builtin; refine Kd.R_append_rows (Kd.int .u8) (w0 := w) w.heap.size rfl (.tmp 57) (.tmp 58) 26 5 (.int .u8 0) 1 rfl Tryd.underlying26 infoU8_ rfl (by decide) (by omega) v1 [byteT 3] [sixT (ad / 64), sixT (ad % 64)] (some ⟨G, 0, none⟩) 2 2 (fun _ => True) (fun _ => False) rfl rfl ?aO ?aR (fun _ _ h => h) (fun _ h => h.elim) ?aF ?aB ?aS ?aL ?_; (case aR => exact two_C BA.out); (case aB => exact bl_); (case aF => exact fun _ _ => trivial); (case aO => exact HO.out); (case aS => exact (below_size bl_)); (case aL => simp); intro v2 al ho hb hg hat; have a := Z (blk_grown BK.out hg (Kd.R_ne (HO.out) BK.out (by decide))); clear c d i j k l m n o q r u x y z A; clear BK; have BK := a; clear a; have H := Z ho; clear ho HB HO BA NO; have HB := Z hb; have HO := H; clear H hb hg hat; obtain ⟨c, d, i, j, k, l, m, n, o, q, r, u, x, y, z, A⟩ := cells8 BK.out))
 go_ret2
 exact ⟨_, rfl, Kd.R_reok (ok := fun k_ => w.heap.size ≤ k_) rfl HO.out (fun k_ e_ => Kd.R_base HO.out k_ e_), bl_⟩
set_option maxHeartbeats 8000000 in
set_option maxRecDepth 100000 in
theorem order_Put7 (kz : Nat) (F : Option Addr) (c1 : Nat) (tx : List Int) (ap an : Bool) (as_ : Int) (am : Bool) (ad ch s : Int) (w : World) (hr : Kd.C (Kd.int .u8) w F tx.length tx) (hc : tx.length ≤ c1) (I : 0 ≤ ad) (hA1 : ad < s) (J : s ≤ 4096) (e2 : List S184) (hR : order_Right.f kz 7 tx ap an as_ am ad ch s = some (none, e2)) : Calls Tryd.prog 91 #[.agg #[.int .i64 7, .slice F tx.length c1, .bool ap, .bool an, .int .i64 as_, .bool am, .int .i64 ad, .int .u8 ch], .int .i64 s] w fun e w' => ∃ V : Value, e = .returned (.tuple #[V, .nilIface]) ∧ Kd.R (Kd.int .u8) 5 w' w.heap.size (fun k_ => w.heap.size ≤ k_) V [byteT 7, sixT (ad / 64), sixT (ad % 64)] ∧ Below w.heap.size w w' := by
 have HT := Z hr
 have HTc := Z hc
 have HB := Z (Below.refl w.heap.size w)
 have HR := Z hR
 have hu := Tryd.underlying30
 have ag := Tryd.underlying34
 have ah := Tryd.underlying28
 have ai := Tryd.underlying146
 clear hr hc hR
 have W := Z I
 have X := Z hA1
 have Y := Z J
 clear I hA1 J
 go_enter Tryd.func91, Tryd.ntmps91
 go_wp2_with (first | ((with_reducible refine gate_dst (N := 2) rfl ?_); refine bx_ 2 30 #[.int .i64 7, .slice F tx.length c1, .bool ap, .bool an, .int .i64 as_, .bool am, .int .i64 ad, .int .u8 ch] ?_; intro g hg w1 hbox hb; have BK := Z (hbox); replace HB := Z (below_step bl_ hb); clear hb hbox hg; obtain ⟨c, d, i, j, k, l, m, n, o, q, r, u, x, y, z, A⟩ := cells8 BK.out) | ((with_reducible refine gate_callee (f := 36) rfl ?_); refine goesL_ (some 14) rfl rfl Tryd.func36 (by kernel_rfl) rfl #[.agg #[.int .i64 7, .slice F tx.length c1, .bool ap, .bool an, .int .i64 as_, .bool am, .int .i64 ad, .int .u8 ch], .int .i64 s] rfl ag_ ?_; (with_reducible refine (order_Right.calls kz 7 F c1 tx ap an as_ am ad ch s none e2 _ ?s1 ?s2 HR.out).mono ?_); (case s1 => exact Kd.C_below HT.out HB.out); (case s2 => exact HTc.out); rintro e w5 ⟨ev, rfl, he, hb⟩; refine ⟨_, rfl, ?_⟩; simp only [errW_none]; clear he; clear c d i j k l m n o q r u x y z A; replace BK := Z (kb BK.out hb); replace HB := Z (below_step bl_ hb); clear hb; obtain ⟨c, d, i, j, k, l, m, n, o, q, r, u, x, y, z, A⟩ := cells8 BK.out) | ((with_reducible refine gate_callee (f := 97) rfl ?_); refine goesL_ (some 26) rfl rfl Tryd.func97 (by kernel_rfl) rfl #[.int .i64 7] rfl ag_ ?_; (with_reducible refine (byteOf_calls 7 (by omega) (by omega) _).mono ?_); rintro e w' ⟨rfl, rfl⟩; refine ⟨_, rfl, ?_⟩) | ((with_reducible refine gate_dst (N := 27) rfl ?_); refine Kd.R_lit (Kd.int .u8) w.heap.size 5 ?hg (N := 27) ?hd (xs := ([byteT 7] : List Int)) (inner := [.int .u8 (byteT 7)]) (ok := fun _ => True) (okp := fun _ => True) ?hr ?hp (fun _ hk => hk) trivial HB.out (below_size HB.out) (by simp) ?_; (case hd => rfl); (case hg => rfl); (case hr => first | (go_simp; done) | (go_simp; rfl)); (case hp => exact (Reps.one (show Kd.M (Kd.int .u8) _ _ _ (byteT 7) [.int .u8 (byteT 7)] from rfl) (Reps.none _ _))); intro v1 aj ho hb hg_ hnew_; have a := Z (blk_grown BK.out hg_ (by simp)); have HO := Z ho; clear ho HB BK hg_ hnew_; clear c d i j k l m n o q r u x y z A; have HB := Z hb; have BK := a; clear hb a; obtain ⟨c, d, i, j, k, l, m, n, o, q, r, u, x, y, z, A⟩ := cells8 BK.out) | ((with_reducible refine gate_callee (f := 98) rfl ?_); refine goesL_ (some 51) rfl rfl Tryd.func98 (by kernel_rfl) rfl #[.int .i64 ad, .int .i64 s] rfl ag_ ?_; (with_reducible refine (addr_Put_calls ad s W.out X.out Y.out _).mono ?_); rintro e ak ⟨rfl, hb⟩; refine ⟨_, rfl, ?_⟩; clear c d i j k l m n o q r u x y z A; replace BK := Z (kb BK.out hb); replace HO := Z (rb HO.out hb); replace HB := Z (below_step bl_ hb); clear hb; obtain ⟨c, d, i, j, k, l, m, n, o, q, r, u, x, y, z, A⟩ := cells8 BK.out) | ((with_reducible refine gate_dst (N := 10) rfl ?_); refine bx_ 10 146 #[.int .u8 0, .int .u8 0] ?_; intro G hg ac hbox hb; clear c d i j k l m n o q r u x y z A; have NB := Z (nl BK.out hg); have NO := Z (own_newB HO.out hg); have GE := Z (le_new hg (below_size bl_) : w.heap.size ≤ G); replace BK := Z (kb BK.out hb); replace HO := Z (rb HO.out hb); have BA := Z (hbox); replace HB := Z (below_step bl_ hb); clear hb hbox hg; obtain ⟨c, d, i, j, k, l, m, n, o, q, r, u, x, y, z, A⟩ := cells8 BK.out; obtain ⟨k0, k1, n0, n1⟩ := cells2 BA.out) | ((with_reducible refine gate_store (t := 146) (p := 10) rfl ?_); refine sx_ 146 10 ((ac.setCell ⟨G, 0, none⟩ (.int .u8 (sixT (ad / 64)))).setCell ⟨G, 1, none⟩ (.int .u8 (sixT (ad % 64)))) ?_; intro E hw; have K : Aside0 (E.heap[G]? = some (.cells #[.int .u8 (sixT (ad / 64)), .int .u8 (sixT (ad % 64))] 146 (0, 0))) := ⟨by rw [hw]; exact blk_put (cs := #[.int .u8 (sixT (ad / 64)), .int .u8 0]) (blk_put (cs := #[.int .u8 0, .int .u8 0]) BA.out 0 _ rfl) 1 _ rfl⟩; have L : Aside0 (E.heap[g]? = some (.cells #[.int .i64 7, .slice F tx.length c1, .bool ap, .bool an, .int .i64 as_, .bool am, .int .i64 ad, .int .u8 ch] 30 (0, 0))) := ⟨by rw [hw]; exact blk_off BK.out NB.out off2_⟩; have O : Aside0 (Kd.R (Kd.int .u8) 5 E w.heap.size (fun _ => True) v1 [byteT 7]) := ⟨by rw [hw]; exact R_offoB HO.out rfl NO.out off2_⟩; have P : Aside0 (Below w.heap.size w E) := ⟨by rw [hw]; exact bl_⟩; clear hw k0 k1 n0 n1 HO BA BK HB; clear c d i j k l m n o q r u x y z A; have BA := K; have BK := L; have HO := O; have HB := P; clear K L O P; obtain ⟨c, d, i, j, k, l, m, n, o, q, r, u, x, y, z, A⟩ := cells8 BK.out) | ((with_reducible refine gate_builtin (b := .append) (xs := #[.tmp 57, .tmp 58]) rfl ?_); at_builtin; refine Kd.R_append_rows (Kd.int .u8) (w0 := w) w.heap.size rfl (.tmp 57) (.tmp 58) 26 5 (.int .u8 0) 1 rfl Tryd.underlying26 infoU8_ rfl (by decide) (by omega) v1 [byteT 7] [sixT (ad / 64), sixT (ad % 64)] (some ⟨G, 0, none⟩) 2 2 (fun _ => True) (fun _ => False) rfl rfl ?aO ?aR (fun _ _ h => h) (fun _ h => h.elim) ?aF ?aB ?aS ?aL ?_; (case aR => exact two_C BA.out); (case aB => exact bl_); (case aF => exact fun _ _ => trivial); (case aO => exact HO.out); (case aS => exact (below_size bl_)); (case aL => simp); intro v2 al ho hb hg hat; have a := Z (blk_grown BK.out hg (Kd.R_ne (HO.out) BK.out (by decide))); clear c d i j k l m n o q r u x y z A; clear BK; have BK := a; clear a; have H := Z ho; clear ho HB HO BA NO; have HB := Z hb; have HO := H; clear H hb hg hat; obtain ⟨c, d, i, j, k, l, m, n, o, q, r, u, x, y, z, A⟩ := cells8 BK.out))
 go_ret2
 exact ⟨_, rfl, Kd.R_reok (ok := fun k_ => w.heap.size ≤ k_) rfl HO.out (fun k_ e_ => Kd.R_base HO.out k_ e_), bl_⟩
set_option maxHeartbeats 8000000 in
set_option maxRecDepth 100000 in
theorem order_Put6 (kz : Nat) (G : Option Addr) (c1 : Nat) (tx : List Int) (ap an : Bool) (as_ : Int) (am : Bool) (ad ch s : Int) (w : World) (hr : Kd.C (Kd.int .u8) w G tx.length tx) (hc : tx.length ≤ c1) (I : 0 ≤ ad) (hA1 : ad < s) (J : s ≤ 4096) (e2 : List S184) (hR : order_Right.f kz 6 tx ap an as_ am ad ch s = some (none, e2)) : Calls Tryd.prog 91 #[.agg #[.int .i64 6, .slice G tx.length c1, .bool ap, .bool an, .int .i64 as_, .bool am, .int .i64 ad, .int .u8 ch], .int .i64 s] w fun e w' => ∃ V : Value, e = .returned (.tuple #[V, .nilIface]) ∧ Kd.R (Kd.int .u8) 5 w' w.heap.size (fun k_ => w.heap.size ≤ k_) V [byteT 6, sixT (ad / 64), sixT (ad % 64), ch] ∧ Below w.heap.size w w' := by
 have HT := Z hr
 have HTc := Z hc
 have HB := Z (Below.refl w.heap.size w)
 have HR := Z hR
 have hu := Tryd.underlying30
 have ah := Tryd.underlying34
 have ai := Tryd.underlying28
 have aj := Tryd.underlying146
 clear hr hc hR
 have W := Z I
 have X := Z hA1
 have Y := Z J
 clear I hA1 J
 go_enter Tryd.func91, Tryd.ntmps91
 go_wp2_with (first | ((with_reducible refine gate_dst (N := 2) rfl ?_); refine bx_ 2 30 #[.int .i64 6, .slice G tx.length c1, .bool ap, .bool an, .int .i64 as_, .bool am, .int .i64 ad, .int .u8 ch] ?_; intro g hg w1 hbox hb; have BK := Z (hbox); replace HB := Z (below_step bl_ hb); clear hb hbox hg; obtain ⟨c, d, i, j, k, l, m, n, o, q, r, u, x, y, z, A⟩ := cells8 BK.out) | ((with_reducible refine gate_callee (f := 36) rfl ?_); refine goesL_ (some 14) rfl rfl Tryd.func36 (by kernel_rfl) rfl #[.agg #[.int .i64 6, .slice G tx.length c1, .bool ap, .bool an, .int .i64 as_, .bool am, .int .i64 ad, .int .u8 ch], .int .i64 s] rfl ag_ ?_; (with_reducible refine (order_Right.calls kz 6 G c1 tx ap an as_ am ad ch s none e2 _ ?s1 ?s2 HR.out).mono ?_); (case s1 => exact Kd.C_below HT.out HB.out); (case s2 => exact HTc.out); rintro e w5 ⟨ev, rfl, he, hb⟩; refine ⟨_, rfl, ?_⟩; simp only [errW_none]; clear he; clear c d i j k l m n o q r u x y z A; replace BK := Z (kb BK.out hb); replace HB := Z (below_step bl_ hb); clear hb; obtain ⟨c, d, i, j, k, l, m, n, o, q, r, u, x, y, z, A⟩ := cells8 BK.out) | ((with_reducible refine gate_callee (f := 97) rfl ?_); refine goesL_ (some 26) rfl rfl Tryd.func97 (by kernel_rfl) rfl #[.int .i64 6] rfl ag_ ?_; (with_reducible refine (byteOf_calls 6 (by omega) (by omega) _).mono ?_); rintro e w' ⟨rfl, rfl⟩; refine ⟨_, rfl, ?_⟩) | ((with_reducible refine gate_dst (N := 27) rfl ?_); refine Kd.R_lit (Kd.int .u8) w.heap.size 5 ?hg (N := 27) ?hd (xs := ([byteT 6] : List Int)) (inner := [.int .u8 (byteT 6)]) (ok := fun _ => True) (okp := fun _ => True) ?hr ?hp (fun _ hk => hk) trivial HB.out (below_size HB.out) (by simp) ?_; (case hd => rfl); (case hg => rfl); (case hr => first | (go_simp; done) | (go_simp; rfl)); (case hp => exact (Reps.one (show Kd.M (Kd.int .u8) _ _ _ (byteT 6) [.int .u8 (byteT 6)] from rfl) (Reps.none _ _))); intro v1 ak ho hb hg_ hnew_; have a := Z (blk_grown BK.out hg_ (by simp)); have HO := Z ho; clear ho HB BK hg_ hnew_; clear c d i j k l m n o q r u x y z A; have HB := Z hb; have BK := a; clear hb a; obtain ⟨c, d, i, j, k, l, m, n, o, q, r, u, x, y, z, A⟩ := cells8 BK.out) | ((with_reducible refine gate_callee (f := 98) rfl ?_); refine goesL_ (some 51) rfl rfl Tryd.func98 (by kernel_rfl) rfl #[.int .i64 ad, .int .i64 s] rfl ag_ ?_; (with_reducible refine (addr_Put_calls ad s W.out X.out Y.out _).mono ?_); rintro e al ⟨rfl, hb⟩; refine ⟨_, rfl, ?_⟩; clear c d i j k l m n o q r u x y z A; replace BK := Z (kb BK.out hb); replace HO := Z (rb HO.out hb); replace HB := Z (below_step bl_ hb); clear hb; obtain ⟨c, d, i, j, k, l, m, n, o, q, r, u, x, y, z, A⟩ := cells8 BK.out) | ((with_reducible refine gate_dst (N := 10) rfl ?_); refine bx_ 10 146 #[.int .u8 0, .int .u8 0] ?_; intro H hg ac hbox hb; clear c d i j k l m n o q r u x y z A; have NB := Z (nl BK.out hg); have NO := Z (own_newB HO.out hg); have GE := Z (le_new hg (below_size bl_) : w.heap.size ≤ H); replace BK := Z (kb BK.out hb); replace HO := Z (rb HO.out hb); have BA := Z (hbox); replace HB := Z (below_step bl_ hb); clear hb hbox hg; obtain ⟨c, d, i, j, k, l, m, n, o, q, r, u, x, y, z, A⟩ := cells8 BK.out; obtain ⟨k0, k1, n0, n1⟩ := cells2 BA.out) | ((with_reducible refine gate_store (t := 146) (p := 10) rfl ?_); refine sx_ 146 10 ((ac.setCell ⟨H, 0, none⟩ (.int .u8 (sixT (ad / 64)))).setCell ⟨H, 1, none⟩ (.int .u8 (sixT (ad % 64)))) ?_; intro F hw; have K : Aside0 (F.heap[H]? = some (.cells #[.int .u8 (sixT (ad / 64)), .int .u8 (sixT (ad % 64))] 146 (0, 0))) := ⟨by rw [hw]; exact blk_put (cs := #[.int .u8 (sixT (ad / 64)), .int .u8 0]) (blk_put (cs := #[.int .u8 0, .int .u8 0]) BA.out 0 _ rfl) 1 _ rfl⟩; have L : Aside0 (F.heap[g]? = some (.cells #[.int .i64 6, .slice G tx.length c1, .bool ap, .bool an, .int .i64 as_, .bool am, .int .i64 ad, .int .u8 ch] 30 (0, 0))) := ⟨by rw [hw]; exact blk_off BK.out NB.out off2_⟩; have O : Aside0 (Kd.R (Kd.int .u8) 5 F w.heap.size (fun _ => True) v1 [byteT 6]) := ⟨by rw [hw]; exact R_offoB HO.out rfl NO.out off2_⟩; have P : Aside0 (Below w.heap.size w F) := ⟨by rw [hw]; exact bl_⟩; clear hw k0 k1 n0 n1 HO BA BK HB; clear c d i j k l m n o q r u x y z A; have BA := K; have BK := L; have HO := O; have HB := P; clear K L O P; obtain ⟨c, d, i, j, k, l, m, n, o, q, r, u, x, y, z, A⟩ := cells8 BK.out) | ((with_reducible refine gate_builtin (b := .append) (xs := #[.tmp 57, .tmp 58]) rfl ?_); at_builtin; refine Kd.R_append_rows (Kd.int .u8) (w0 := w) w.heap.size rfl (.tmp 57) (.tmp 58) 26 5 (.int .u8 0) 1 rfl Tryd.underlying26 infoU8_ rfl (by decide) (by omega) v1 [byteT 6] [sixT (ad / 64), sixT (ad % 64)] (some ⟨H, 0, none⟩) 2 2 (fun _ => True) (fun _ => False) rfl rfl ?aO ?aR (fun _ _ h => h) (fun _ h => h.elim) ?aF ?aB ?aS ?aL ?_; (case aR => exact two_C BA.out); (case aB => exact bl_); (case aF => exact fun _ _ => trivial); (case aO => exact HO.out); (case aS => exact (below_size bl_)); (case aL => simp); intro v2 ao ho hb hg hat; have a := Z (blk_grown BK.out hg (Kd.R_ne (HO.out) BK.out (by decide))); clear c d i j k l m n o q r u x y z A; clear BK; have BK := a; clear a; have D := Z ho; clear ho HB HO BA NO; have HB := Z hb; have HO := D; clear D hb hg hat; obtain ⟨c, d, i, j, k, l, m, n, o, q, r, u, x, y, z, A⟩ := cells8 BK.out) | ((with_reducible refine gate_builtin (b := .append) (xs := #[.tmp 63, .tmp 66]) rfl ?_); at_builtin; refine Kd.R_append (Kd.int .u8) (w0 := w) w.heap.size rfl (.tmp 63) (.tmp 66) 26 5 (.int .u8 0) 1 rfl Tryd.underlying26 infoU8_ rfl (by decide) (by omega) v2 [byteT 6, sixT (ad / 64), sixT (ad % 64)] (ch) [.int .u8 (ch)] (fun _ => True) (fun _ => False) rfl rfl ?aP (fun _ hk => hk.elim) ?aF ?aO ?aB ?aS ?aL ?_; (case aP => exact rfl); (case aB => exact bl_); (case aF => exact fun _ _ => trivial); (case aO => exact HO.out); (case aS => exact (below_size bl_)); (case aL => simp); intro v3 aq ho hb hg hat; clear c d i j k l m n o q r u x y z A; clear BK; have D := Z ho; clear ho HB HO; have HB := Z hb; have HO := D; clear D hb hg hat))
 go_ret2
 exact ⟨_, rfl, Kd.R_reok (ok := fun k_ => w.heap.size ≤ k_) rfl HO.out (fun k_ e_ => Kd.R_base HO.out k_ e_), bl_⟩
set_option maxHeartbeats 8000000 in
set_option maxRecDepth 100000 in
theorem order_Put0 (kz : Nat) (k : Int) (c : Option Addr) (c1 : Nat) (tx : List Int) (ap an : Bool) (as_ : Int) (am : Bool) (ad ch s : Int) (w : World) (hr : Kd.C (Kd.int .u8) w c tx.length tx) (hc : tx.length ≤ c1) (er : Er) (B : List S184) (hR : order_Right.f kz k tx ap an as_ am ad ch s = some (some er, B)) : Calls Tryd.prog 91 #[.agg #[.int .i64 k, .slice c tx.length c1, .bool ap, .bool an, .int .i64 as_, .bool am, .int .i64 ad, .int .u8 ch], .int .i64 s] w fun e w' => ∃ A : Value, e = .returned (.tuple #[.slice none 0 0, errW A (some er)]) ∧ Kd.V k184 184 w' w.heap.size (fun k_ => w.heap.size ≤ k_) A B ∧ Below w.heap.size w w' := by
 have HT := Z hr
 have HTc := Z hc
 have HB := Z (Below.refl w.heap.size w)
 have HR := Z hR
 have hu := Tryd.underlying30
 have D := Tryd.underlying34
 have E := Tryd.underlying28
 have F := Tryd.underlying146
 clear hr hc hR
 go_enter Tryd.func91, Tryd.ntmps91
 go_wp2_with (first | ((with_reducible refine gate_dst (N := 2) rfl ?_); refine bx_ 2 30 #[.int .i64 k, .slice c tx.length c1, .bool ap, .bool an, .int .i64 as_, .bool am, .int .i64 ad, .int .u8 ch] ?_; intro g hg w1 hbox hb; have BK := Z (hbox); replace HB := Z (below_step bl_ hb); clear hb hbox hg; obtain ⟨d, h, i, j, l, m, n, o, p, q, r, u, v, x, y, z⟩ := cells8 BK.out) | ((with_reducible refine gate_callee (f := 36) rfl ?_); refine goesL_ (some 14) rfl rfl Tryd.func36 (by kernel_rfl) rfl #[.agg #[.int .i64 k, .slice c tx.length c1, .bool ap, .bool an, .int .i64 as_, .bool am, .int .i64 ad, .int .u8 ch], .int .i64 s] rfl ag_ ?_; (with_reducible refine (order_Right.calls kz k c c1 tx ap an as_ am ad ch s (some er) B _ ?s1 ?s2 HR.out).mono ?_); (case s1 => exact Kd.C_below HT.out HB.out); (case s2 => exact HTc.out); rintro e w5 ⟨ev, rfl, he, hb⟩; refine ⟨_, rfl, ?_⟩; simp only [errW_some]; have HE := Z (Kd.V_mono (ok' := fun k_ => w.heap.size ≤ k_) he (fun k_ hk_ => Nat.le_trans (below_size bl_) hk_)); clear he; clear d h i j l m n o p q r u v x y z; replace BK := Z (kb BK.out hb); replace HB := Z (below_step bl_ hb); clear hb; obtain ⟨d, h, i, j, l, m, n, o, p, q, r, u, v, x, y, z⟩ := cells8 BK.out))
 go_ret2
 exact ⟨_, rfl, HE.out, bl_⟩
/-- order.Put: an order's bytes, or what is wrong. -/
def order_Put.f (kz : Nat) (k : Int) (tx : List Int) (ap an : Bool) (as_ : Int) (am : Bool) (ad ch s : Int) : Option (List Int × Option Er × List S184) :=
 (order_Right.f kz k tx ap an as_ am ad ch s).bind fun e => if e.1.isSome = true then some ([], e.1, e.2)
  else if k = 1 then (if tx.length ≤ 16383 then some (tx, none, []) else none)
  else if k = 2 then (attr_Put.f kz ap an as_ am).bind fun p => if p.2.1.isSome = true then none else some ([byteT 2, p.1], none, [])
  else if k = 4 then some ([byteT 4], none, [])
  else if k = 5 then some ([byteT 5], none, [])
  else if 0 ≤ ad ∧ ad < s ∧ s ≤ 4096 then
   (if k = 3 then some ([byteT 3, sixT (ad / 64), sixT (ad % 64)], none, []) else if k = 7 then some ([byteT 7, sixT (ad / 64), sixT (ad % 64)], none, []) else if k = 6 then some ([byteT 6, sixT (ad / 64), sixT (ad % 64), ch], none, []) else none)
  else none
theorem order_Put.mono (k : Int) (tx : List Int) (ap an : Bool) (as_ : Int) (am : Bool) (ad ch s : Int) (kz : Nat) : LeO (order_Put.f kz k tx ap an as_ am ad ch s) (order_Put.f (kz + 1) k tx ap an as_ am ad ch s) := by
 unfold order_Put.f
 repeat' first
  | (with_reducible exact order_Right.mono _ _ _ _ _ _ _ _ _ _)
  | (with_reducible exact attr_Put.mono _ _ _ _ _)
  | (with_reducible exact LeO.refl _)
  | (with_reducible exact LeO.none _)
  | (with_reducible refine LeO.ite ?_ ?_)
  | (with_reducible refine LeO.bind ?_ (fun _ => ?_))
theorem order_Put.calls (kz : Nat) (k : Int) (g : Option Addr) (c1 : Nat) (tx : List Int) (ap : Bool) (an : Bool) (as_ : Int) (am : Bool) (ad : Int) (ch : Int) (s : Int) (l : List Int) (m : Option Er) (n : List S184) (w : World) (hr : Kd.C (Kd.int .u8) w g tx.length tx) (hc : tx.length ≤ c1) (h : order_Put.f kz k tx ap an as_ am ad ch s = some (l, m, n)) :
  Calls Tryd.prog 91 #[.agg #[.int .i64 k, .slice g tx.length c1, .bool ap, .bool an, .int .i64 as_, .bool am, .int .i64 ad, .int .u8 ch], .int .i64 s] w fun e w' => ∃ a j : Value, e = .returned (.tuple #[a, errW j m]) ∧ Kd.R (Kd.int .u8) 5 w' w.heap.size (fun k_ => (w.heap.size ≤ k_)) a l ∧ Kd.V k184 184 w' w.heap.size (fun k_ => (w.heap.size ≤ k_) ∧ some k_ ≠ (a : Value).ownBlock) j n ∧ Below w.heap.size w w' := by
 unfold order_Put.f at h
 obtain ⟨⟨y, i⟩, hR, h⟩ := Option.bind_eq_some_iff.mp h
 have fin : ∀ {row : List Int}, l = row → m = none → n = [] → (Calls Tryd.prog 91 #[.agg #[.int .i64 k, .slice g tx.length c1, .bool ap, .bool an, .int .i64 as_, .bool am, .int .i64 ad, .int .u8 ch], .int .i64 s] w fun e w' => ∃ a : Value, e = .returned (.tuple #[a, .nilIface]) ∧ Kd.R (Kd.int .u8) 5 w' w.heap.size (fun k_ => w.heap.size ≤ k_) a row ∧ Below w.heap.size w w') → Calls Tryd.prog 91 #[.agg #[.int .i64 k, .slice g tx.length c1, .bool ap, .bool an, .int .i64 as_, .bool am, .int .i64 ad, .int .u8 ch], .int .i64 s] w fun e w' => ∃ a j : Value, e = .returned (.tuple #[a, errW j m]) ∧ Kd.R (Kd.int .u8) 5 w' w.heap.size (fun k_ => (w.heap.size ≤ k_)) a l ∧ Kd.V k184 184 w' w.heap.size (fun k_ => (w.heap.size ≤ k_) ∧ some k_ ≠ (a : Value).ownBlock) j n ∧ Below w.heap.size w w' := by
  rintro row rfl rfl rfl hq
  refine hq.mono ?_
  rintro e w' ⟨z, rfl, hR, hb⟩
  exact ⟨z, .slice none 0 0, rfl, hR, Kd.V_nil _ _ _ _ _, hb⟩
 have parts : ∀ {row : List Int}, some (row, (none : Option Er), ([] : List S184)) = some (l, m, n) → l = row ∧ m = none ∧ n = [] := fun hh => by
  simp only [Option.some.injEq, Prod.mk.injEq] at hh
  exact ⟨hh.1.symm, hh.2.1.symm, hh.2.2.symm⟩
 cases y with
 | some er =>
  have h : some (([] : List Int), some er, i) = some (l, m, n) := h
  simp only [Option.some.injEq, Prod.mk.injEq] at h
  obtain ⟨rfl, rfl, rfl⟩ := h
  refine (order_Put0 kz k g c1 tx ap an as_ am ad ch s w hr hc er i hR).mono ?_
  rintro e w' ⟨A, rfl, hV, hb⟩
  exact ⟨.slice none 0 0, A, rfl, Kd.R_nil _ _ _ _ _, Kd.V_mono hV (fun k_ hk => ⟨hk, fun e_ => by cases e_⟩), hb⟩
 | none =>
  rw [if_neg (by simp)] at h
  by_cases o : k = 1
  ·rw [if_pos o] at h
   by_cases hn : tx.length ≤ 16383
   ·rw [if_pos hn] at h
    obtain ⟨b, c, d⟩ := parts h
    subst o
    exact fin b c d (order_Put1 kz g c1 tx ap an as_ am ad ch s w hr hc hn i hR)
   ·rw [if_neg hn] at h; cases h
  rw [if_neg o] at h
  by_cases p : k = 2
  ·rw [if_pos p] at h
   obtain ⟨⟨p1, p2, p3⟩, hP, h⟩ := Option.bind_eq_some_iff.mp h
   cases p2 with
   | some x => rw [if_pos (by simp)] at h; cases h
   | none =>
    rw [if_neg (by simp)] at h
    obtain ⟨b, c, d⟩ := parts h
    subst p
    exact fin b c d (order_Put2 kz g c1 tx ap an as_ am ad ch s w hr hc p1 p3 hP i hR)
  rw [if_neg p] at h
  by_cases r : k = 4
  ·rw [if_pos r] at h
   obtain ⟨b, c, d⟩ := parts h
   subst r
   exact fin b c d (order_Put4 kz g c1 tx ap an as_ am ad ch s w hr hc i hR)
  rw [if_neg r] at h
  by_cases t : k = 5
  ·rw [if_pos t] at h
   obtain ⟨b, c, d⟩ := parts h
   subst t
   exact fin b c d (order_Put5 kz g c1 tx ap an as_ am ad ch s w hr hc i hR)
  rw [if_neg t] at h
  by_cases hA : 0 ≤ ad ∧ ad < s ∧ s ≤ 4096
  ·rw [if_pos hA] at h
   by_cases q : k = 3
   ·rw [if_pos q] at h
    obtain ⟨b, c, d⟩ := parts h
    subst q
    exact fin b c d (order_Put3 kz g c1 tx ap an as_ am ad ch s w hr hc hA.1 hA.2.1 hA.2.2 i hR)
   rw [if_neg q] at h
   by_cases v : k = 7
   ·rw [if_pos v] at h
    obtain ⟨b, c, d⟩ := parts h
    subst v
    exact fin b c d (order_Put7 kz g c1 tx ap an as_ am ad ch s w hr hc hA.1 hA.2.1 hA.2.2 i hR)
   rw [if_neg v] at h
   by_cases u : k = 6
   ·rw [if_pos u] at h
    obtain ⟨b, c, d⟩ := parts h
    subst u
    exact fin b c d (order_Put6 kz g c1 tx ap an as_ am ad ch s w hr hc hA.1 hA.2.1 hA.2.2 i hR)
   ·rw [if_neg u] at h; cases h
  ·rw [if_neg hA] at h; cases h
end

/-! ### stream_spot: function 92 -/
section
/-- stream.spot: an error at a place. -/
def stream_spot.f (a0 : Int) (a : Option Er) (b : List S184) : Option (Option Er × List S184) :=
 match a with | some (.num n) => some (some Er.spot, [⟨a0, n⟩]) | _ => none
set_option maxHeartbeats 4000000 in
set_option maxRecDepth 100000 in
theorem stream_spot.calls (a0 : Int) (b : Option Er) (c : Option Addr) (d : Nat) (a : List S184) (p : Option Er) (r : List S184) (w : World) (i : Kd.C k184 w c a.length a) (g : a.length ≤ d) (h : stream_spot.f a0 b a = some (p, r)) :
  Calls Tryd.prog 92 #[.int .i64 a0, errW (.slice c a.length d) b] w fun e w' => ∃ k : Value, e = .returned (errW k p) ∧ Kd.V k184 184 w' w.heap.size (fun k_ => (w.heap.size ≤ k_)) k r ∧ Below w.heap.size w w' := by
 unfold stream_spot.f at h
 rcases b with _ | q
 ·cases h
 ·cases q with
  | spot => cases h
  | num n =>
   simp only [Option.some.injEq, Prod.mk.injEq] at h
   obtain ⟨rfl, rfl⟩ := h
   rw [errW_some, show (Er.num n).ty = ERNT from rfl, show (Er.num n).pay _ = .int .i64 n from rfl]
   have HB := Z (Below.refl w.heap.size w)
   have hu := Tryd.underlying85
   have s := Tryd.underlying34
   clear i g
   go_enter Tryd.func92, Tryd.ntmps92
   go_wp2_with (first | ((with_reducible refine gate_dst (N := 8) rfl ?_); refine bx_ 8 85 #[.int .i64 a0, .iface ERNT (.int .i64 n)] ?_; intro o hg w1 hbox hb; have j := Z (below_step bl_ hb); have l := Z hbox; have m := Z (le_new hg (below_size bl_) : w.heap.size ≤ o); clear HB hb hbox hg; have HB := j; clear j))
   go_ret
   exact ⟨.slice (some ⟨o, 0, none⟩) 1 1, rfl, spot_V l.out m.out, bl_⟩
end

/-! ### stream_orders: function 76 -/
mutual
def stream_orders.l0 : Nat → List (S30) → Int → List Int → List (S30) → Int → Int → Option (List Int × Option Er × (List (S184)))
 | 0, _, _, _, _, _, _ => none
 | k + 1, c, d, e, x11, x12, a => if a < x12 then (if 0 ≤ a then (if a < (x11.length : Int) then ((order_Put.f k ((rd_T30 x11 a).f0) ((rd_T30 x11 a).f1) ((rd_T30 x11 a).f2.f0) ((rd_T30 x11 a).f2.f1) ((rd_T30 x11 a).f2.f2) ((rd_T30 x11 a).f2.f3) ((rd_T30 x11 a).f3) ((rd_T30 x11 a).f4) d).bind fun b => (if b.2.1.isNone = true then (if a > 0 then (if ((rd_T30 x11 a).f0) = 1 then (if 0 ≤ (wrap64 (a - 1)) then (if (wrap64 (a - 1)) < (c.length : Int) then (stream_orders.j1 k c d e a b.1 x11 x12 a (((rd_T30 c (wrap64 (a - 1))).f0) == 1) none b.2.2) else (none)) else (none)) else (stream_orders.j1 k c d e a b.1 x11 x12 a false none b.2.2)) else (stream_orders.j1 k c d e a b.1 x11 x12 a false none b.2.2)) else (stream_orders.j1 k c d e a b.1 x11 x12 a false (some (b.2.1.getD ez)) b.2.2))) else (none)) else (none)) else (some (e, none, ([] : List (S184))))
def stream_orders.j1 : Nat → List (S30) → Int → List Int → Int → List Int → List (S30) → Int → Int → Bool → Option Er → List (S184) → Option (List Int × Option Er × (List (S184)))
 | 0, _, _, _, _, _, _, _, _, _, _, _ => none
 | k + 1, l, m, h, i, j, x11, x12, e, g, a, b => if g = true then ((stream_spot.f i (some (Er.num 1)) ([] : List (S184))).bind fun c => (some (([] : List Int), c.1, c.2))) else (if a.isNone = true then (if h.length + j.length < 140737488355328 then (stream_orders.l0 k l m (h ++ j) x11 x12 (wrap64 (e + 1))) else (none)) else ((stream_spot.f i (some (a.getD ez)) b).bind fun d => (some (([] : List Int), d.1, d.2))))
end
def stream_orders.f (k : Nat) (l0 : List (S30)) (a1 : Int) : Option (List Int × Option Er × (List (S184))) := stream_orders.l0 k l0 a1 ([] : List Int) l0 (l0.length : Int) 0
theorem stream_orders.mono_l : ∀ k, (∀ a b c d e f, LeO (stream_orders.l0 k a b c d e f) (stream_orders.l0 (k + 1) a b c d e f)) ∧ (∀ a b c d e f l m n o j, LeO (stream_orders.j1 k a b c d e f l m n o j) (stream_orders.j1 (k + 1) a b c d e f l m n o j))
 | 0 => ⟨fun _ _ _ _ _ _ r h => by simp [stream_orders.l0] at h, fun _ _ _ _ _ _ _ _ _ _ _ r h => by simp [stream_orders.j1] at h⟩
 | k + 1 => by
  obtain ⟨g, i⟩ := stream_orders.mono_l k
  refine ⟨?_, ?_⟩
  ·intro a b c d e f
   unfold stream_orders.l0
   repeat' first
   | (with_reducible exact g _ _ _ _ _ _)
   | (with_reducible exact i _ _ _ _ _ _ _ _ _ _ _)
   | (with_reducible exact order_Put.mono _ _ _ _ _ _ _ _ _ _)
   | (with_reducible exact LeO.refl _)
   | (with_reducible exact LeO.none _)
   | (with_reducible refine LeO.ite ?_ ?_)
   | (with_reducible refine LeO.bind ?_ (fun _ => ?_))
   | exact g _ _ _ _ _ _
   | exact i _ _ _ _ _ _ _ _ _ _ _
   | exact order_Put.mono _ _ _ _ _ _ _ _ _ _
   | exact LeO.none _
   | refine LeO.ite ?_ ?_
   | refine LeO.bind ?_ (fun _ => ?_)
  ·intro a b c d e f l m n o j
   unfold stream_orders.j1
   repeat' first
   | (with_reducible exact g _ _ _ _ _ _)
   | (with_reducible exact i _ _ _ _ _ _ _ _ _ _ _)
   | (with_reducible exact order_Put.mono _ _ _ _ _ _ _ _ _ _)
   | (with_reducible exact LeO.refl _)
   | (with_reducible exact LeO.none _)
   | (with_reducible refine LeO.ite ?_ ?_)
   | (with_reducible refine LeO.bind ?_ (fun _ => ?_))
   | exact g _ _ _ _ _ _
   | exact i _ _ _ _ _ _ _ _ _ _ _
   | exact order_Put.mono _ _ _ _ _ _ _ _ _ _
   | exact LeO.none _
   | refine LeO.ite ?_ ?_
   | refine LeO.bind ?_ (fun _ => ?_)
theorem stream_orders.mono : ∀ a0 a1 k, LeO (stream_orders.f k a0 a1) (stream_orders.f (k + 1) a0 a1) := by
 intro a0 a1 k
 obtain ⟨a, b⟩ := stream_orders.mono_l k
 unfold stream_orders.f
 repeat' first
   | (with_reducible exact a _ _ _ _ _ _)
   | (with_reducible exact b _ _ _ _ _ _ _ _ _ _ _)
   | (with_reducible exact order_Put.mono _ _ _ _ _ _ _ _ _ _)
   | (with_reducible exact LeO.refl _)
   | (with_reducible exact LeO.none _)
   | (with_reducible refine LeO.ite ?_ ?_)
   | (with_reducible refine LeO.bind ?_ (fun _ => ?_))
   | exact a _ _ _ _ _ _
   | exact b _ _ _ _ _ _ _ _ _ _ _
   | exact order_Put.mono _ _ _ _ _ _ _ _ _ _
   | exact LeO.none _
   | refine LeO.ite ?_ ?_
   | refine LeO.bind ?_ (fun _ => ?_)
set_option maxHeartbeats 8000000 in
set_option maxRecDepth 100000 in
theorem stream_orders.calls (k : Nat) (A0 : Option Addr) (c0 : Nat) (l0 : List (S30)) (a1 : Int) (W : List Int) (X : Option Er) (Y : List (S184)) (w : World) (hr0 : Kd.C k30 w A0 l0.length l0) (b2 : l0.length ≤ c0) (h : stream_orders.f k l0 a1 = some (W, X, Y)) :
  Calls Tryd.prog 76 #[.slice A0 l0.length c0, .int .i64 a1] w fun e w' => ∃ bN b4 : Value, e = .returned (.tuple #[bN, errW b4 X]) ∧ Kd.R (Kd.int .u8) 5 w' w.heap.size (fun k_ => (w.heap.size ≤ k_)) bN W ∧ Kd.V k184 184 w' w.heap.size (fun k_ => (w.heap.size ≤ k_) ∧ some k_ ≠ (bN : Value).ownBlock) b4 Y ∧ Below w.heap.size w w' := by
 have cr := Tryd.underlying30
 have ct := Tryd.underlying34
 have cu := Tryd.underlying75
 have b0 := Z hr0
 have cz := Z b2
 clear hr0 b2
 have HB := Z (Below.refl w.heap.size w)
 have H : (stream_orders.l0 k l0 a1 ([] : List Int) l0 (l0.length : Int) 0) = some (W, X, Y) := h
 clear h
 have H' := Z H
 clear H
 go_enter Tryd.func76, Tryd.ntmps76
 go_wp2
 go_loopg [6, 13] k (fun kq v6 cm w' => ∃ (m : List Int) (a : Int), cm = .int .i64 a ∧ Aside0 (stream_orders.l0 kq l0 a1 m l0 (l0.length : Int) a = some (W, X, Y)) ∧ Aside0 (kq ≤ k) ∧ Aside0 (Kd.R (Kd.int .u8) 5 w' w.heap.size (fun k_ => (w.heap.size ≤ k_)) v6 m) ∧ Aside0 (Below w.heap.size w w'))
 case atStart => exact ⟨(([] : List Int)), (0), (dn_), H', ⟨Nat.le_refl _⟩, ⟨by first | exact Kd.R_nil _ _ _ _ _ | exact Kd.N_nil _ _ _ _ _ | exact Kd.V_nil _ _ _ _ _ | exact Kd.Q_nil _ _ _ _ _ | exact Kd.S_nil _ _ _ _ _⟩, ⟨bl_⟩⟩
 case round =>
  clear H'
  try clear p2
  obtain ⟨m, a, rfl, HA, ak, HO_6, HB⟩ := hrel
  cases gk with
  | zero => exact absurd HA.out (by simp [stream_orders.l0])
  | succ k1 =>
   have H := HA.out
   clear HA
   simp only [stream_orders.l0] at H
   by_cases c3 : a < (l0.length : Int)
   ·rw [if_pos c3] at H
    have bq : decide (a < (l0.length : Int)) = true := decide_eq_true c3
    clear c3
    by_cases c4 : 0 ≤ a
    ·rw [if_pos c4] at H
     have b6 : decide (0 ≤ a) = true := decide_eq_true c4
     clear c4
     by_cases c5 : a < (l0.length : Int)
     ·rw [if_pos c5] at H
      have b7 : decide (a < (l0.length : Int)) = true := decide_eq_true c5
      clear c5
      replace H := Option.bind_eq_some_iff.mp H
      obtain ⟨⟨l, y, n⟩, bY, H⟩ := H
      replace H : (if y.isNone = true then (if a > 0 then (if ((rd_T30 l0 a).f0) = 1 then (if 0 ≤ (wrap64 (a - 1)) then (if (wrap64 (a - 1)) < (l0.length : Int) then (stream_orders.j1 k1 l0 a1 m a l l0 (l0.length : Int) a (((rd_T30 l0 (wrap64 (a - 1))).f0) == 1) none n) else (none)) else (none)) else (stream_orders.j1 k1 l0 a1 m a l l0 (l0.length : Int) a false none n)) else (stream_orders.j1 k1 l0 a1 m a l l0 (l0.length : Int) a false none n)) else (stream_orders.j1 k1 l0 a1 m a l l0 (l0.length : Int) a false (some (y.getD ez)) n)) = some (W, X, Y) := H
      have A6 := Z bY
      clear bY
      have bp := Z H
      clear H
      have ap : 0 ≤ (a : Int) := od_
      have ar : a < (l0.length : Int) := od_
      obtain ⟨bU, i, j, b9, A, B, D, E, F, G, I, J, an, al⟩ := at_T30 b0.out a ap ar
      cases b9
      replace A := (HB.out.cell (bk_ w _ A)).trans A
      replace B := (HB.out.cell (bk_ w _ B)).trans B
      replace D := (HB.out.cell (bk_ w _ D)).trans D
      replace E := (HB.out.cell (bk_ w _ E)).trans E
      replace F := (HB.out.cell (bk_ w _ F)).trans F
      replace G := (HB.out.cell (bk_ w _ G)).trans G
      replace I := (HB.out.cell (bk_ w _ I)).trans I
      replace J := (HB.out.cell (bk_ w _ J)).trans J
      have aJ := Z al
      have aI := Z an
      clear al an
      replace ap := eq_true ap
      replace ar := eq_true ar
      go_upto_region 6 with (first | ((with_reducible refine gate_dst (N := 8) rfl ?_); refine bx_ 8 30 #[.int .i64 0, .slice none 0 0, .bool false, .bool false, .int .i64 0, .bool false, .int .i64 0, .int .u8 0] ?_; intro c hg w8 hbox hb; replace HO_6 := Z (rb HO_6.out hb); have d := Z (hbox); have cp := Z (ln_ hg : w.heap.size ≤ c); have co := Z (ln_ hg : w.heap.size ≤ c); replace HB := Z (below_step bl_ hb); clear hb hbox hg; obtain ⟨bs, bt, bu, bv, bw, bx, bz, bA, bB, bC, bD, bE, bF, bG, bH, bI⟩ := cells8 d.out) | ((with_reducible refine gate_callee (f := 91) rfl ?_); refine goesL_ (some 21) rfl rfl Tryd.func91 (by kernel_rfl) rfl #[.agg #[.int .i64 ((rd_T30 l0 a).f0), .slice i ((rd_T30 l0 a).f1).length j, .bool ((rd_T30 l0 a).f2.f0), .bool ((rd_T30 l0 a).f2.f1), .int .i64 ((rd_T30 l0 a).f2.f2), .bool ((rd_T30 l0 a).f2.f3), .int .i64 ((rd_T30 l0 a).f3), .int .u8 ((rd_T30 l0 a).f4)], .int .i64 a1] rfl ag_ ?_; (with_reducible refine (order_Put.calls k1 ((rd_T30 l0 a).f0) _ _ ((rd_T30 l0 a).f1) ((rd_T30 l0 a).f2.f0) ((rd_T30 l0 a).f2.f1) ((rd_T30 l0 a).f2.f2) ((rd_T30 l0 a).f2.f3) ((rd_T30 l0 a).f3) ((rd_T30 l0 a).f4) a1 l y n _ ?side1 ?side2 A6.out).mono ?_); (case side1 => exact Kd.C_below aJ.out bl_); (case side2 => exact aI.out); rintro e cA ⟨ae, cd, rfl, ac, b3, hb⟩; refine ⟨_, rfl, ?_⟩; have r := Z (Kd.R_elder' (by (with_reducible repeat apply pR); exact (Kd.R_mono (Kd.R_far (p := ⟨c, 7, none⟩) (Kd.R_far (p := ⟨c, 6, none⟩) (f6R c (Kd.R_types HO_6.out d.out (by decide)) (fun _ hk => hk.2)) (fun _ hk => hk.2) (.int .i64 ((rd_T30 l0 a).f3))) (fun _ hk => hk.2) (.int .u8 ((rd_T30 l0 a).f4))) (fun _ h_ => h_.1))) (Kd.R_base ac) hb); have s := Z (Kd.R_lower (Kd.R_new' (Kd.R_newM (M := fun k_ => (w.heap.size ≤ k_)) (Kd.R_mono (ok' := fun k_ => True) ac (fun _ hk_ => trivial)) (below_size bl_) (fun k_ h_ => h_)) (Kd.R_lt (by (with_reducible repeat apply pR); exact (Kd.R_mono (Kd.R_far (p := ⟨c, 7, none⟩) (Kd.R_far (p := ⟨c, 6, none⟩) (f6R c (Kd.R_types HO_6.out d.out (by decide)) (fun _ hk => hk.2)) (fun _ hk => hk.2) (.int .i64 ((rd_T30 l0 a).f3))) (fun _ hk => hk.2) (.int .u8 ((rd_T30 l0 a).f4))) (fun _ h_ => h_.1))))) (below_size bl_)); have u := Z (Kd.V_lower (Kd.V_mono (ok' := fun k_ => (w.heap.size ≤ k_) ∧ some k_ ≠ (ae : Value).ownBlock ∧ some k_ ≠ (u6 : Value).ownBlock ∧ k_ ≠ c) b3 (fun k_ hk_ => ⟨(Nat.le_trans (below_size bl_) hk_.1), hk_.2, (Kd.fresh' (Kd.R_lt (by (with_reducible repeat apply pR); exact (Kd.R_mono (Kd.R_far (p := ⟨c, 7, none⟩) (Kd.R_far (p := ⟨c, 6, none⟩) (f6R c (Kd.R_types HO_6.out d.out (by decide)) (fun _ hk => hk.2)) (fun _ hk => hk.2) (.int .i64 ((rd_T30 l0 a).f3))) (fun _ hk => hk.2) (.int .u8 ((rd_T30 l0 a).f4))) (fun _ h_ => h_.1)))) k_ hk_.1), (Kd.freshB (g := c) (o := .cells #[.int .i64 ((rd_T30 l0 a).f0), .slice i ((rd_T30 l0 a).f1).length j, .bool ((rd_T30 l0 a).f2.f0), .bool ((rd_T30 l0 a).f2.f1), .int .i64 ((rd_T30 l0 a).f2.f2), .bool ((rd_T30 l0 a).f2.f3), .int .i64 ((rd_T30 l0 a).f3), .int .u8 ((rd_T30 l0 a).f4)] 30 (0, 0)) (by (with_reducible repeat apply pK); refine blk_put (cs := #[.int .i64 ((rd_T30 l0 a).f0), .slice i ((rd_T30 l0 a).f1).length j, .bool ((rd_T30 l0 a).f2.f0), .bool ((rd_T30 l0 a).f2.f1), .int .i64 ((rd_T30 l0 a).f2.f2), .bool ((rd_T30 l0 a).f2.f3), .int .i64 ((rd_T30 l0 a).f3), .int .u8 0]) ?_ 7 _ rfl; (with_reducible repeat apply pK); refine blk_put (cs := #[.int .i64 ((rd_T30 l0 a).f0), .slice i ((rd_T30 l0 a).f1).length j, .bool ((rd_T30 l0 a).f2.f0), .bool ((rd_T30 l0 a).f2.f1), .int .i64 ((rd_T30 l0 a).f2.f2), .bool ((rd_T30 l0 a).f2.f3), .int .i64 0, .int .u8 0]) ?_ 6 _ rfl; (with_reducible repeat apply pK); refine blk_put (cs := #[.int .i64 ((rd_T30 l0 a).f0), .slice i ((rd_T30 l0 a).f1).length j, .bool ((rd_T30 l0 a).f2.f0), .bool ((rd_T30 l0 a).f2.f1), .int .i64 ((rd_T30 l0 a).f2.f2), .bool false, .int .i64 0, .int .u8 0]) ?_ 5 _ rfl; (with_reducible repeat apply pK); refine blk_put (cs := #[.int .i64 ((rd_T30 l0 a).f0), .slice i ((rd_T30 l0 a).f1).length j, .bool ((rd_T30 l0 a).f2.f0), .bool ((rd_T30 l0 a).f2.f1), .int .i64 0, .bool false, .int .i64 0, .int .u8 0]) ?_ 4 _ rfl; (with_reducible repeat apply pK); refine blk_put (cs := #[.int .i64 ((rd_T30 l0 a).f0), .slice i ((rd_T30 l0 a).f1).length j, .bool ((rd_T30 l0 a).f2.f0), .bool false, .int .i64 0, .bool false, .int .i64 0, .int .u8 0]) ?_ 3 _ rfl; (with_reducible repeat apply pK); refine blk_put (cs := #[.int .i64 ((rd_T30 l0 a).f0), .slice i ((rd_T30 l0 a).f1).length j, .bool false, .bool false, .int .i64 0, .bool false, .int .i64 0, .int .u8 0]) ?_ 2 _ rfl; (with_reducible repeat apply pK); refine blk_put (cs := #[.int .i64 ((rd_T30 l0 a).f0), .slice none 0 0, .bool false, .bool false, .int .i64 0, .bool false, .int .i64 0, .int .u8 0]) ?_ 1 _ rfl; (with_reducible repeat apply pK); refine blk_put (cs := #[.int .i64 0, .slice none 0 0, .bool false, .bool false, .int .i64 0, .bool false, .int .i64 0, .int .u8 0]) ?_ 0 _ rfl; (with_reducible repeat apply pK); exact d.out) k_ hk_.1)⟩)) (below_size bl_)); have v := Z (blk_below (g := c) (o := .cells #[.int .i64 ((rd_T30 l0 a).f0), .slice i ((rd_T30 l0 a).f1).length j, .bool ((rd_T30 l0 a).f2.f0), .bool ((rd_T30 l0 a).f2.f1), .int .i64 ((rd_T30 l0 a).f2.f2), .bool ((rd_T30 l0 a).f2.f3), .int .i64 ((rd_T30 l0 a).f3), .int .u8 ((rd_T30 l0 a).f4)] 30 (0, 0)) (by (with_reducible repeat apply pK); refine blk_put (cs := #[.int .i64 ((rd_T30 l0 a).f0), .slice i ((rd_T30 l0 a).f1).length j, .bool ((rd_T30 l0 a).f2.f0), .bool ((rd_T30 l0 a).f2.f1), .int .i64 ((rd_T30 l0 a).f2.f2), .bool ((rd_T30 l0 a).f2.f3), .int .i64 ((rd_T30 l0 a).f3), .int .u8 0]) ?_ 7 _ rfl; (with_reducible repeat apply pK); refine blk_put (cs := #[.int .i64 ((rd_T30 l0 a).f0), .slice i ((rd_T30 l0 a).f1).length j, .bool ((rd_T30 l0 a).f2.f0), .bool ((rd_T30 l0 a).f2.f1), .int .i64 ((rd_T30 l0 a).f2.f2), .bool ((rd_T30 l0 a).f2.f3), .int .i64 0, .int .u8 0]) ?_ 6 _ rfl; (with_reducible repeat apply pK); refine blk_put (cs := #[.int .i64 ((rd_T30 l0 a).f0), .slice i ((rd_T30 l0 a).f1).length j, .bool ((rd_T30 l0 a).f2.f0), .bool ((rd_T30 l0 a).f2.f1), .int .i64 ((rd_T30 l0 a).f2.f2), .bool false, .int .i64 0, .int .u8 0]) ?_ 5 _ rfl; (with_reducible repeat apply pK); refine blk_put (cs := #[.int .i64 ((rd_T30 l0 a).f0), .slice i ((rd_T30 l0 a).f1).length j, .bool ((rd_T30 l0 a).f2.f0), .bool ((rd_T30 l0 a).f2.f1), .int .i64 0, .bool false, .int .i64 0, .int .u8 0]) ?_ 4 _ rfl; (with_reducible repeat apply pK); refine blk_put (cs := #[.int .i64 ((rd_T30 l0 a).f0), .slice i ((rd_T30 l0 a).f1).length j, .bool ((rd_T30 l0 a).f2.f0), .bool false, .int .i64 0, .bool false, .int .i64 0, .int .u8 0]) ?_ 3 _ rfl; (with_reducible repeat apply pK); refine blk_put (cs := #[.int .i64 ((rd_T30 l0 a).f0), .slice i ((rd_T30 l0 a).f1).length j, .bool false, .bool false, .int .i64 0, .bool false, .int .i64 0, .int .u8 0]) ?_ 2 _ rfl; (with_reducible repeat apply pK); refine blk_put (cs := #[.int .i64 ((rd_T30 l0 a).f0), .slice none 0 0, .bool false, .bool false, .int .i64 0, .bool false, .int .i64 0, .int .u8 0]) ?_ 1 _ rfl; (with_reducible repeat apply pK); refine blk_put (cs := #[.int .i64 0, .slice none 0 0, .bool false, .bool false, .int .i64 0, .bool false, .int .i64 0, .int .u8 0]) ?_ 0 _ rfl; (with_reducible repeat apply pK); exact d.out) hb); have x := Z (below_step bl_ hb); clear HO_6 d HB; have HO_6 := r; have ag := s; have ah := u; have d := v; have HB := x; clear r s u v x; (try clear hb); (try clear b1); (try clear hk); (try clear hi); (try clear ac); (try clear b3); (try simp only [errW_none, errW_some])))
      (try simp only [Act.put, sA, sB, sC])
      go_cut [43] (fun cn wc => ∃ (kq : Nat) (ai : Bool), cn = .bool ai ∧ Aside0 (stream_orders.j1 kq l0 a1 m a l l0 (l0.length : Int) a ai y n = some (W, X, Y)) ∧ Aside0 (kq ≤ k1) ∧ Aside0 (Kd.R (Kd.int .u8) 5 wc w.heap.size (fun k_ => (w.heap.size ≤ k_) ∧ some k_ ≠ (ae : Value).ownBlock) u6 m) ∧ Aside0 (Kd.R (Kd.int .u8) 5 wc w.heap.size (fun k_ => (w.heap.size ≤ k_) ∧ some k_ ≠ (u6 : Value).ownBlock) ae l) ∧ Aside0 (Kd.V k184 184 wc w.heap.size (fun k_ => (w.heap.size ≤ k_) ∧ some k_ ≠ (u6 : Value).ownBlock ∧ some k_ ≠ (ae : Value).ownBlock ∧ k_ ≠ c) cd n) ∧ Aside0 (wc.heap[c]? = some (.cells #[.int .i64 ((rd_T30 l0 a).f0), (.slice i ((rd_T30 l0 a).f1).length j), .bool ((rd_T30 l0 a).f2.f0), .bool ((rd_T30 l0 a).f2.f1), .int .i64 ((rd_T30 l0 a).f2.f2), .bool ((rd_T30 l0 a).f2.f3), .int .i64 ((rd_T30 l0 a).f3), .int .u8 ((rd_T30 l0 a).f4)] 30 (0, 0))) ∧ Aside0 (Below w.heap.size w wc))
      case first =>
       have H := bp.out
       clear bp
       rcases y with _ | az
       ·have H1 : (if a > 0 then (if ((rd_T30 l0 a).f0) = 1 then (if 0 ≤ (wrap64 (a - 1)) then (if (wrap64 (a - 1)) < (l0.length : Int) then (stream_orders.j1 k1 l0 a1 m a l l0 (l0.length : Int) a (((rd_T30 l0 (wrap64 (a - 1))).f0) == 1) none n) else (none)) else (none)) else (stream_orders.j1 k1 l0 a1 m a l l0 (l0.length : Int) a false none n)) else (stream_orders.j1 k1 l0 a1 m a l l0 (l0.length : Int) a false none n)) = some (W, X, Y) := by rw [if_pos (show (none : Option Er).isNone = true by rfl)] at H; exact H
        clear H
        have H := H1
        clear H1
        try simp only [errW_none, errW_some]
        by_cases aj : a > 0
        ·rw [if_pos aj] at H
         have z : decide (0 < a) = true := decide_eq_true aj
         clear aj
         (first | rw [z] | (simp only [i64_w, i32_w]; rw [z]) | skip)
         by_cases af : ((rd_T30 l0 a).f0) = 1
         ·rw [if_pos af] at H
          have aC : (((rd_T30 l0 a).f0) == 1) = true := beq_iff_eq.mpr af
          have aD : (((rd_T30 l0 a).f0) != 1) = false := bne_eq_false_iff_eq.mpr af
          clear af
          obtain ⟨q, ab⟩ : ∃ j_ : Int, (wrap64 (a - 1)) = j_ := ⟨_, rfl⟩
          replace H : (if 0 ≤ (q) then (if (q) < (l0.length : Int) then (stream_orders.j1 k1 l0 a1 m a l l0 (l0.length : Int) a (((rd_T30 l0 (q)).f0) == 1) none n) else (none)) else (none)) = some (W, X, Y) := by first | (rw [ab] at H; exact H) | (simp only [ab] at H ⊢; exact H)
          have cl : (IntKind.i64.wrap (a - 1)) = q := (i64_w _).trans ab
          by_cases aw : 0 ≤ (q)
          ·rw [if_pos aw] at H
           have bW : decide (0 ≤ (q)) = true := decide_eq_true aw
           clear aw
           by_cases ax : (q) < (l0.length : Int)
           ·rw [if_pos ax] at H
            have bX : decide ((q) < (l0.length : Int)) = true := decide_eq_true ax
            clear ax
            have H' := Z H
            clear H
            obtain ⟨aK, aM, aN, aP, aQ, aT, aU, aV, a5, a6, a7, a8, a9, ba, bb, bc⟩ := cells8 d.out
            have aq : 0 ≤ ((q) : Int) := od_
            have au : (q) < (l0.length : Int) := od_
            obtain ⟨bV, ci, ck, ca, K, L, O, P, Q, S, T, U, ao, am⟩ := at_T30 b0.out (q) aq au
            obtain rfl : bU = bV := (by injection ca)
            replace K := (HB.out.cell (bk_ w _ K)).trans K
            replace L := (HB.out.cell (bk_ w _ L)).trans L
            replace O := (HB.out.cell (bk_ w _ O)).trans O
            replace P := (HB.out.cell (bk_ w _ P)).trans P
            replace Q := (HB.out.cell (bk_ w _ Q)).trans Q
            replace S := (HB.out.cell (bk_ w _ S)).trans S
            replace T := (HB.out.cell (bk_ w _ T)).trans T
            replace U := (HB.out.cell (bk_ w _ U)).trans U
            have cf := Z am
            have ce := Z ao
            clear am ao
            replace aq := eq_true aq
            replace au := eq_true au
            go_wp2
            go_meet
            case rel => exact ⟨_, ((((rd_T30 l0 (q)).f0) == 1)), (by first | rfl | (simp; done) | (simp only [← ab, i64_w]; rfl) | (simp only [← ab] <;> (first | rfl | simp)) | (simp [*]; done)), H', ⟨by have := ak.out; first | omega | exact Nat.le_refl _⟩, ⟨by (with_reducible repeat apply pR); exact HO_6.out⟩, ⟨by (with_reducible repeat apply pR); exact Kd.R_mono ag.out (fun _ hk => ⟨hk.1.1, hk.2⟩)⟩, ⟨by (with_reducible repeat apply pV); exact Kd.V_mono ah.out (fun _ hk => ⟨hk.1, ⟨hk.2.2.1, ⟨hk.2.1, hk.2.2.2⟩⟩⟩)⟩, ⟨vK d.out⟩, ⟨bl_⟩⟩
           ·rw [if_neg ax] at H
            exact absurd H (by simp)
          ·rw [if_neg aw] at H
           exact absurd H (by simp)
         ·rw [if_neg af] at H
          have aC : (((rd_T30 l0 a).f0) == 1) = false := beq_eq_false_iff_ne.mpr af
          have aD : (((rd_T30 l0 a).f0) != 1) = true := bne_iff_ne.mpr af
          have H' := Z H
          clear H
          obtain ⟨aW, aX, aY, aZ, a0, a2, a3, a4, bd, be, bf, bg, bh, bi, bj, bk⟩ := cells8 d.out
          go_wp2
          go_meet
          case rel => exact ⟨_, (false), (dn_), H', ⟨by have := ak.out; first | omega | exact Nat.le_refl _⟩, ⟨by (with_reducible repeat apply pR); exact HO_6.out⟩, ⟨by (with_reducible repeat apply pR); exact Kd.R_mono ag.out (fun _ hk => ⟨hk.1.1, hk.2⟩)⟩, ⟨by (with_reducible repeat apply pV); exact Kd.V_mono ah.out (fun _ hk => ⟨hk.1, ⟨hk.2.2.1, ⟨hk.2.1, hk.2.2.2⟩⟩⟩)⟩, ⟨vK d.out⟩, ⟨bl_⟩⟩
        ·rw [if_neg aj] at H
         have z : decide (0 < a) = false := decide_eq_false aj
         clear aj
         (first | rw [z] | (simp only [i64_w, i32_w]; rw [z]) | skip)
         have H' := Z H
         clear H
         go_wp2
         go_meet
         case rel => exact ⟨_, (false), (dn_), H', ⟨by have := ak.out; first | omega | exact Nat.le_refl _⟩, ⟨by (with_reducible repeat apply pR); exact HO_6.out⟩, ⟨by (with_reducible repeat apply pR); exact Kd.R_mono ag.out (fun _ hk => ⟨hk.1.1, hk.2⟩)⟩, ⟨by (with_reducible repeat apply pV); exact Kd.V_mono ah.out (fun _ hk => ⟨hk.1, ⟨hk.2.2.1, ⟨hk.2.1, hk.2.2.2⟩⟩⟩)⟩, ⟨vK d.out⟩, ⟨bl_⟩⟩
       ·have H1 : (stream_orders.j1 k1 l0 a1 m a l l0 (l0.length : Int) a false (some az) n) = some (W, X, Y) := by rw [if_neg (show ¬ (some az).isNone = true by simp)] at H; exact H
        clear H
        have H := H1
        clear H1
        try simp only [errW_none, errW_some]
        have H' := Z H
        clear H
        go_wp2
        go_meet
        case rel => exact ⟨_, (false), (dn_), H', ⟨by have := ak.out; first | omega | exact Nat.le_refl _⟩, ⟨by (with_reducible repeat apply pR); exact HO_6.out⟩, ⟨by (with_reducible repeat apply pR); exact Kd.R_mono ag.out (fun _ hk => ⟨hk.1.1, hk.2⟩)⟩, ⟨by (with_reducible repeat apply pV); exact Kd.V_mono ah.out (fun _ hk => ⟨hk.1, ⟨hk.2.2.1, ⟨hk.2.1, hk.2.2.2⟩⟩⟩)⟩, ⟨vK d.out⟩, ⟨bl_⟩⟩
      case rest =>
       clear bp
       try clear c1
       try clear p1
       try clear q1
       try clear hx1
       try clear p2
       try clear c3
       try clear bq
       try clear c4
       try clear b6
       try clear c5
       try clear b7
       try clear p6
       try clear c7
       try clear c9
       try clear aj
       try clear z
       try clear af
       try clear aC
       try clear aD
       try clear aw
       try clear bW
       try clear ax
       try clear bX
       try clear aK
       try clear aM
       try clear aN
       try clear aP
       try clear aQ
       try clear aT
       try clear aU
       try clear aV
       try clear aW
       try clear aX
       try clear aY
       try clear aZ
       try clear a0
       try clear a2
       try clear a3
       try clear a4
       try clear bs
       try clear bt
       try clear bu
       try clear bv
       try clear bw
       try clear bx
       try clear bz
       try clear bA
       try clear a5
       try clear a6
       try clear a7
       try clear a8
       try clear a9
       try clear ba
       try clear bb
       try clear bc
       try clear bd
       try clear be
       try clear bf
       try clear bg
       try clear bh
       try clear bi
       try clear bj
       try clear bk
       try clear bB
       try clear bC
       try clear bD
       try clear bE
       try clear bF
       try clear bG
       try clear bH
       try clear bI
       try clear A
       try clear B
       try clear D
       try clear E
       try clear F
       try clear G
       try clear I
       try clear J
       try clear K
       try clear L
       try clear O
       try clear P
       try clear Q
       try clear S
       try clear T
       try clear U
       try clear ap
       try clear aq
       try clear p2
       try clear ar
       try clear az
       try clear au
       obtain ⟨kq, ai, rfl, HA, bZ, HO_6, HO_9, HO_900010001, d, HB⟩ := hcut
       cases kq with
       | zero => exact absurd HA.out (by simp [stream_orders.j1])
       | succ aH =>
        have H := HA.out
        clear HA
        simp only [stream_orders.j1] at H
        by_cases aE : ai = true
        ·subst aE
         have H1 : ((stream_spot.f a (some (Er.num 1)) ([] : List (S184))).bind fun aA => (some (([] : List Int), aA.1, aA.2))) = some (W, X, Y) := by rw [if_pos rfl] at H; exact H
         clear H
         have H := H1
         clear H1
         replace H := Option.bind_eq_some_iff.mp H
         obtain ⟨⟨bJ, bK⟩, bl, H⟩ := H
         replace H : (some (([] : List Int), bJ, bK)) = some (W, X, Y) := H
         have ch := Z bl
         clear bl
         simp only [Option.some.injEq, Prod.mk.injEq] at H
         obtain ⟨rfl, rfl, rfl⟩ := H
         go_wp2_with (first | ((with_reducible refine gate_callee (f := 92) rfl ?_); refine goesL_ (some 49) rfl rfl Tryd.func92 (by kernel_rfl) rfl #[.int .i64 a, errW (.slice none 0 0) (some (Er.num 1))] rfl ag_ ?_; (refine (stream_spot.calls a (some (Er.num 1)) _ _ ([] : List (S184)) bJ bK _ ?side1 ?side2 ch.out).mono ?_); (case side1 => exact Kd.C_nil _ _); (case side2 => exact Nat.le_refl _); rintro e cB ⟨cv, rfl, ac, hb⟩; refine ⟨_, rfl, ?_⟩; replace HO_900010001 := Z (vb HO_900010001.out hb); have bP := Z (Kd.V_lower (Kd.V_mono (ok' := fun k_ => (w.heap.size ≤ k_) ∧ some k_ ≠ (u6 : Value).ownBlock ∧ some k_ ≠ (ae : Value).ownBlock ∧ k_ ≠ c) ac (fun k_ hk_ => ⟨(Nat.le_trans (below_size bl_) hk_), (Kd.fresh' (Kd.R_lt (by (with_reducible repeat apply pR); exact HO_6.out)) k_ hk_), (Kd.fresh' (Kd.R_lt (by (with_reducible repeat apply pR); exact HO_9.out)) k_ hk_), (Kd.freshB (g := c) (o := .cells #[.int .i64 ((rd_T30 l0 a).f0), .slice i ((rd_T30 l0 a).f1).length j, .bool ((rd_T30 l0 a).f2.f0), .bool ((rd_T30 l0 a).f2.f1), .int .i64 ((rd_T30 l0 a).f2.f2), .bool ((rd_T30 l0 a).f2.f3), .int .i64 ((rd_T30 l0 a).f3), .int .u8 ((rd_T30 l0 a).f4)] 30 (0, 0)) (vK d.out) k_ hk_)⟩)) (below_size bl_)); replace HO_6 := Z (rb HO_6.out hb); replace HO_9 := Z (rb HO_9.out hb); replace d := Z (kb d.out hb); replace HB := Z (below_step bl_ hb); (try clear hb); (try clear b1); (try clear hk); (try clear hi); (try clear ac); (try simp only [errW_none, errW_some])))
         go_ret2
         exact ⟨_, _, er_, by first | exact Kd.R_nil _ _ _ _ _ | exact Kd.N_nil _ _ _ _ _ | exact Kd.V_nil _ _ _ _ _ | exact Kd.Q_nil _ _ _ _ _ | exact Kd.S_nil _ _ _ _ _, by (with_reducible repeat apply pV); exact Kd.V_mono bP.out (fun _ hk => ⟨hk.1, (by simp [Value.ownBlock])⟩), bl_⟩
        ·replace aE := Bool.eq_false_iff.mpr aE
         subst aE
         have H1 : (if y.isNone = true then (if m.length + l.length < 140737488355328 then (stream_orders.l0 aH l0 a1 (m ++ l) l0 (l0.length : Int) (wrap64 (a + 1))) else (none)) else ((stream_spot.f a (some (y.getD ez)) n).bind fun aa => (some (([] : List Int), aa.1, aa.2)))) = some (W, X, Y) := by rw [if_neg (show ¬ (false = true) by decide)] at H; exact H
         clear H
         have H := H1
         clear H1
         rcases y with _ | av
         ·have H1 : (if m.length + l.length < 140737488355328 then (stream_orders.l0 aH l0 a1 (m ++ l) l0 (l0.length : Int) (wrap64 (a + 1))) else (none)) = some (W, X, Y) := by rw [if_pos (show (none : Option Er).isNone = true by rfl)] at H; exact H
          clear H
          have H := H1
          clear H1
          try simp only [errW_none, errW_some]
          by_cases aG : m.length + l.length < 140737488355328
          ·rw [if_pos aG] at H
           have bS := Z aG
           clear aG
           obtain ⟨bO, ad⟩ : ∃ y_ : List Int, y_ = (m ++ l) := ⟨_, rfl⟩
           replace H : (stream_orders.l0 aH l0 a1 bO l0 (l0.length : Int) (wrap64 (a + 1))) = some (W, X, Y) := by first | (rw [ad]; with_reducible exact H) | (have bo := (Option.bind_some _ _).symm.trans H; rw [ad]; with_reducible exact bo) | (have bo := (Option.bind_some _ _).symm.trans H; with_reducible exact bo) | with_reducible exact H | (rw [ad]; exact H) | exact H
           have bT := Z ad
           clear ad
           have H' := Z H
           clear H
           obtain ⟨bn, br, cb⟩ := Kd.R_slice HO_9.out
           subst cb
           go_wp2_with (first | ((with_reducible refine gate_builtin (b := .append) (xs := #[.tmp 50, .tmp 51]) rfl ?_); at_builtin; refine Kd.R_append_rows (Kd.int .u8) (w0 := w) w.heap.size rfl (.tmp 50) (.tmp 51) 26 5 (.int .u8 0) 1 rfl Tryd.underlying26 info5 rfl (by decide) (by omega) u6 m l _ _ _ (fun k_ => (w.heap.size ≤ k_) ∧ some k_ ≠ (.slice bn l.length br : Value).ownBlock) (fun _ => False) rfl rfl ?aO ?aR (fun _ _ h => h) (fun _ h => h.elim) ?aF ?aB ?aS ?aL ?_; (case aR => repeat (first | exact (Kd.R_reads' HO_9.out).2.2 | (with_reducible apply pC))); (case aB => exact bl_); (case aF => exact (fun k_ hk => ⟨(Nat.le_trans (below_size bl_) hk), Kd.fresh' (Kd.R_lt (by (with_reducible repeat apply pR); exact HO_9.out)) k_ hk⟩)); (case aO => exact (by (with_reducible repeat apply pR); exact HO_6.out)); (case aS => exact (below_size bl_)); (case aL => have := bS.out; omega); intro cw cC ho hb hg hat; rw [← bT.out] at ho; replace HO_9 := Z (Kd.R_after (ok := (fun k_ => (w.heap.size ≤ k_))) (by (with_reducible repeat apply pR); exact HO_9.out) hg hat); replace HO_900010001 := Z (Kd.V_afterv (ok := (fun k_ => (w.heap.size ≤ k_) ∧ some k_ ≠ (.slice bn l.length br : Value).ownBlock ∧ k_ ≠ c)) (by (with_reducible repeat apply pV); exact Kd.V_mono HO_900010001.out (fun _ hk => ⟨⟨hk.1, ⟨hk.2.2.1, hk.2.2.2⟩⟩, hk.2.1⟩)) hg hat); replace d := Z (blk_grown (g := c) (o := .cells #[.int .i64 ((rd_T30 l0 a).f0), .slice i ((rd_T30 l0 a).f1).length j, .bool ((rd_T30 l0 a).f2.f0), .bool ((rd_T30 l0 a).f2.f1), .int .i64 ((rd_T30 l0 a).f2.f2), .bool ((rd_T30 l0 a).f2.f3), .int .i64 ((rd_T30 l0 a).f3), .int .u8 ((rd_T30 l0 a).f4)] 30 (0, 0)) (vK d.out) hg (Kd.R_ne HO_6.out d.out (by decide))); replace HB := Z (hb); have bQ := Z (ho); clear HO_6; clear ho hb hg hat))
           go_roundg aH
           case measure => have := ak.out; have := bZ.out; omega
           case rel => exact ⟨(bO), (wrap64 (a + 1)), (dn_), H', ⟨by have := ak.out; have := bZ.out; omega⟩, ⟨by (with_reducible repeat apply pR); exact Kd.R_mono bQ.out (fun _ hk => hk.1)⟩, ⟨bl_⟩⟩
          ·rw [if_neg aG] at H
           exact absurd H (by simp)
         ·have H1 : ((stream_spot.f a (some av) n).bind fun aa => (some (([] : List Int), aa.1, aa.2))) = some (W, X, Y) := by rw [if_neg (show ¬ (some av).isNone = true by simp)] at H; exact H
          clear H
          have H := H1
          clear H1
          try simp only [errW_none, errW_some]
          replace H := Option.bind_eq_some_iff.mp H
          obtain ⟨⟨bL, bM⟩, bm, H⟩ := H
          replace H : (some (([] : List Int), bL, bM)) = some (W, X, Y) := H
          have cj := Z bm
          clear bm
          simp only [Option.some.injEq, Prod.mk.injEq] at H
          obtain ⟨rfl, rfl, rfl⟩ := H
          obtain ⟨b5, b8, cc⟩ := Kd.V_slice HO_900010001.out
          subst cc
          go_wp2_with (first | ((with_reducible refine gate_callee (f := 92) rfl ?_); refine goesL_ (some 49) rfl rfl Tryd.func92 (by kernel_rfl) rfl #[.int .i64 a, errW (.slice b5 n.length b8) (some av)] rfl ag_ ?_; (with_reducible refine (stream_spot.calls a (some av) _ _ n bL bM _ ?side1 ?side2 cj.out).mono ?_); (case side1 => repeat (first | exact (Kd.V_reads' HO_900010001.out).2.2 | (with_reducible apply pC))); (case side2 => exact (Kd.V_reads' HO_900010001.out).2.1); rintro e cD ⟨cx, rfl, ac, hb⟩; refine ⟨_, rfl, ?_⟩; replace HO_900010001 := Z (vb HO_900010001.out hb); have bR := Z (Kd.V_lower (Kd.V_mono (ok' := fun k_ => (w.heap.size ≤ k_) ∧ some k_ ≠ (u6 : Value).ownBlock ∧ some k_ ≠ (ae : Value).ownBlock ∧ k_ ≠ c) ac (fun k_ hk_ => ⟨(Nat.le_trans (below_size bl_) hk_), (Kd.fresh' (Kd.R_lt (by (with_reducible repeat apply pR); exact HO_6.out)) k_ hk_), (Kd.fresh' (Kd.R_lt (by (with_reducible repeat apply pR); exact HO_9.out)) k_ hk_), (Kd.freshB (g := c) (o := .cells #[.int .i64 ((rd_T30 l0 a).f0), .slice i ((rd_T30 l0 a).f1).length j, .bool ((rd_T30 l0 a).f2.f0), .bool ((rd_T30 l0 a).f2.f1), .int .i64 ((rd_T30 l0 a).f2.f2), .bool ((rd_T30 l0 a).f2.f3), .int .i64 ((rd_T30 l0 a).f3), .int .u8 ((rd_T30 l0 a).f4)] 30 (0, 0)) (vK d.out) k_ hk_)⟩)) (below_size bl_)); replace HO_6 := Z (rb HO_6.out hb); replace HO_9 := Z (rb HO_9.out hb); replace d := Z (kb d.out hb); replace HB := Z (below_step bl_ hb); (try clear hb); (try clear b1); (try clear hk); (try clear hi); (try clear ac); (try simp only [errW_none, errW_some])))
          go_ret2
          exact ⟨_, _, er_, by first | exact Kd.R_nil _ _ _ _ _ | exact Kd.N_nil _ _ _ _ _ | exact Kd.V_nil _ _ _ _ _ | exact Kd.Q_nil _ _ _ _ _ | exact Kd.S_nil _ _ _ _ _, by (with_reducible repeat apply pV); exact Kd.V_mono bR.out (fun _ hk => ⟨hk.1, (by simp [Value.ownBlock])⟩), bl_⟩
     ·rw [if_neg c5] at H
      exact absurd H (by simp)
    ·rw [if_neg c4] at H
     exact absurd H (by simp)
   ·rw [if_neg c3] at H
    have bq : decide (a < (l0.length : Int)) = false := decide_eq_false c3
    clear c3
    simp only [Option.some.injEq, Prod.mk.injEq] at H
    obtain ⟨rfl, rfl, rfl⟩ := H
    go_wp2
    go_ret2
    exact ⟨_, _, er_, by (with_reducible repeat apply pR); exact HO_6.out, Kd.R_V (by first | exact Kd.R_nil _ _ _ 0 _ | exact Kd.N_nil _ _ _ _ _ | exact Kd.V_nil _ _ _ _ _ | exact Kd.Q_nil _ _ _ _ _ | exact Kd.S_nil _ _ _ _ _), bl_⟩

end Go.Proofs.YtgboplhcjhlabaaDoor.P
