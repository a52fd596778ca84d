/- pp.py and press2.py (wip/tools) wrote this text. -/
import Derived.Test.YtggecanpjkpkiaaDoorPx0
import Derived.Test.YtggecanpjkpkiaaDoorPxS
import Derived.Test.YtggecanpjkpkiaaDoorPx3
import Derived.Test.YtggecanpjkpkiaaDoorPx4
import Derived.Test.YtggecanpjkpkiaaDoorPx5
import Derived.Test.YtggecanpjkpkiaaDoorPx7
namespace Go.Proofs.YtggecanpjkpkiaaDoor.P
open Go.RowKit Go.Proofs.YtggecanpjkpkiaaDoorW.PrintWords Go.Proofs.YtggecanpjkpkiaaDoorW.PrintLast Go.Proofs.YtggecanpjkpkiaaDoorW.PrintMore
attribute [local go_sem] max2_int min2_int max_two min_two max_three min_three max_four min_four
attribute [local go_sem] Instr.field asAgg
set_option linter.unusedVariables false
set_option linter.unusedSimpArgs false

/-! ### wipe_Wipes: function 29 -/
def wipe_Wipes.f (a0 : Int) : Option (Bool) := if a0 ≥ 12 then (some (decide (a0 ≤ 14))) else (some false)
set_option maxHeartbeats 8000000 in
set_option maxRecDepth 100000 in
theorem wipe_Wipes.calls (a0 : Int) (r : Bool) (w : World) (h : wipe_Wipes.f a0 = some r) :
  Calls Tryd.prog 29 #[.int .i64 a0] w fun e w' => e = .returned (.bool r) ∧ Drawn0 w w' := by
 have H : (if a0 ≥ 12 then (some (decide (a0 ≤ 14))) else (some false)) = some r := h
 clear h
 by_cases c2 : a0 ≥ 12
 ·rw [if_pos c2] at H
  have a : decide (12 ≤ a0) = true := decide_eq_true c2
  clear c2
  obtain rfl := Option.some.inj H
  go_enter Tryd.func29, Tryd.ntmps29
  go_wp2
  go_ret
  exact ⟨dn_, dr_⟩
 ·rw [if_neg c2] at H
  have a : decide (12 ≤ a0) = false := decide_eq_false c2
  clear c2
  obtain rfl := Option.some.inj H
  go_enter Tryd.func29, Tryd.ntmps29
  go_wp2
  go_ret
  exact ⟨dn_, dr_⟩

/-! ### host_Reset: function 66 -/
section
/-- A cell, modified no more: whatever cell, or one that is not protected. -/
def resetC (all : Bool) (c : S35) : S35 := if (all || !c.f1.f0) = true then ⟨c.f0, ⟨c.f1.f0, c.f1.f1, c.f1.f2, false⟩, c.f2⟩ else c
def resetN (all : Bool) (l : List S35) (i : Nat) : List S35 := (l.take i).map (resetC all) ++ l.drop i
theorem resetN_len (all : Bool) (l : List S35) (i : Nat) : (resetN all l i).length = l.length := by simp only [resetN, List.length_append, List.length_map, List.length_take, List.length_drop]; omega
theorem resetN_rd (all : Bool) (l : List S35) (x : Int) (a : x < l.length) : rd_T35 (resetN all l x.toNat) x = rd_T35 l x := by
 simp only [rd_T35, resetN, List.getD_eq_getElem?_getD]
 rw [List.getElem?_append_right (by simp only [List.length_map, List.length_take]; omega), List.length_map, List.length_take, List.getElem?_drop]
 congr 2; omega
theorem resetN_step (all : Bool) (l : List S35) (i : Nat) (hi : i < l.length) : resetN all l (i + 1) = (resetN all l i).set i (resetC all l[i]) := by
 unfold resetN
 rw [List.take_succ_eq_append_getElem hi, List.map_append, List.set_append_right _ _ (by simp only [List.length_map, List.length_take]; omega), List.drop_eq_getElem_cons hi, List.length_map, List.length_take, show i - min i l.length = 0 by omega]
 simp only [List.map_cons, List.map_nil, List.append_assoc, sB, List.cons_append, List.nil_append]
theorem resetN_next (all : Bool) (l : List S35) (x : Int) (a : 0 ≤ x) (b : x < l.length) : resetN all l (x + 1).toNat = (resetN all l x.toNat).set x.toNat (resetC all (rd_T35 l x)) := by
 obtain ⟨i, rfl⟩ := Int.eq_ofNat_of_zero_le a
 have hi : i < l.length := by omega
 have e : rd_T35 l (i : Int) = l[i] := by simp [rd_T35, hi]
 rw [e, show ((i : Int) + 1).toNat = i + 1 by omega, show (i : Int).toNat = i by omega, resetN_step all l i hi]
theorem resetN_keep (all : Bool) (l : List S35) (x : Int) (a : 0 ≤ x) (b : x < l.length) (hk : resetC all (rd_T35 l x) = rd_T35 l x) : resetN all l (x + 1).toNat = resetN all l x.toNat := by
 rw [resetN_next all l x a b, hk, ← resetN_rd all l x b]
 obtain ⟨i, rfl⟩ := Int.eq_ofNat_of_zero_le a
 have hi : i < (resetN all l i).length := by rw [resetN_len]; omega
 simp [rd_T35, hi]
theorem resetN_end (all : Bool) (l : List S35) (i : Nat) (h : l.length ≤ i) : resetN all l i = l.map (resetC all) := by
 unfold resetN; rw [List.take_of_length_le h, List.drop_eq_nil_of_le h, List.append_nil]
theorem R_offo {α : Type} {d : Kd α} {e base : Nat} {ok : Nat → Prop} {v : Value} {xs : List α} {w w1 : World} {g : Nat} (h : Kd.R d e w base ok v xs) (hE : d.E = []) (hne : some g ≠ v.ownBlock) (hm : ∀ k, k ≠ g → w1.heap[k]? = w.heap[k]?) : Kd.R d e w1 base ok v xs :=
 Kd.R_mono (Kd.R_step (Kd.R_tight hE h) (fun k hk _ => hm k (fun e_ => hne (by rw [← e_]; exact hk)))) (fun k hk => h.1 k hk.symm)
theorem own_new {α : Type} {d : Kd α} {e base g : Nat} {ok : Nat → Prop} {v : Value} {xs : List α} {w : World} (h : Kd.R d e w base ok v xs) (hg : g = w.heap.size) : some g ≠ v.ownBlock := fun hk => by
 have := own_lt h.2.choose_spec.1 g hk.symm
 omega
/-- host.Reset: a copy, modified no more: all of it, or what is not protected. -/
def host_Reset.f (b : Int) (c : Int) (a : List (S35)) (d : Int) (e : Bool) (g : Bool) (a1 : Bool) : Option (Int × Int × (List (S35)) × Int × Bool × Bool) := if a.length ≤ 16383 then some (b, c, a.map (resetC a1), d, e, g) else none
set_option maxHeartbeats 8000000 in
set_option maxRecDepth 100000 in
theorem host_Reset.calls (s : Int) (u : Int) (W : Option Addr) (X : Nat) (d : List (S35)) (y : Int) (z : Bool) (A : Bool) (a1 : Bool) (r1 : Int) (r2 : Int) (r3 : List (S35)) (r4 : Int) (r5 : Bool) (r6 : Bool) (w : World) (ac : Kd.C k35 w W d.length d) (ab : d.length ≤ X) (h : host_Reset.f s u d y z A a1 = some (r1, r2, r3, r4, r5, r6)) :
  Calls Tryd.prog 66 #[.agg #[.int .i64 s, .int .i64 u, .slice W d.length X, .int .i64 y, .bool z, .bool A], .bool a1] w fun e w' => ∃ am : Value, e = .returned (.agg #[.int .i64 r1, .int .i64 r2, am, .int .i64 r4, .bool r5, .bool r6]) ∧ Kd.R k35 35 w' w.heap.size (fun _ => True) am r3 ∧ Below w.heap.size w w' := by
 unfold host_Reset.f at h
 by_cases hn : d.length ≤ 16383
 ·rw [if_pos hn] at h
  simp only [Option.some.injEq, Prod.mk.injEq] at h
  obtain ⟨rfl, rfl, rfl, rfl, rfl, rfl⟩ := h
  have HR := Z ac
  have HL := Z ab
  have HN := Z hn
  have HC := Z (show grid_Copy.f s u d y z A = some (s, u, d, y, z, A) by unfold grid_Copy.f slices_Clone_shutter_api_Cell_shutter_api_Cell.f; rw [if_pos hn]; rfl)
  have HB := Z (Below.refl w.heap.size w)
  have hu := Tryd.underlying24
  have aK := Tryd.underlying35
  clear ac ab hn
  go_enter Tryd.func66, Tryd.ntmps66
  go_wp2_with (first
   | ((with_reducible refine gate_dst (N := 2) rfl ?_); refine bx_ 2 24 #[.int .i64 s, .int .i64 u, .slice W d.length X, .int .i64 y, .bool z, .bool A] ?_; intro g1 hg w1 hbox hb; have i := Z (below_step bl_ hb); have k := Z hbox; have l := Z (le_new hg (below_size bl_) : w.heap.size ≤ g1); clear HB; have HB := i; have a := k; have aI := l; clear i k l hb hbox hg)
   | ((with_reducible refine gate_dst (N := 4) rfl ?_); refine bx_ 4 24 #[.int .i64 0, .int .i64 0, .slice none 0 0, .int .i64 0, .bool false, .bool false] ?_; intro g2 hg w2 hbox hb; have i := Z (kb a.out hb); have k := Z (below_step bl_ hb); have l := Z hbox; have n := Z (le_new hg (below_size bl_) : w.heap.size ≤ g2); have B := Z (nl a.out hg); clear a HB; have a := i; have HB := k; have g := l; have aJ := n; have NB := B; clear i k l n B hb hbox hg; have hnb := NB.out; have hnc := NB.out.symm; obtain ⟨z0, z1, z2, z3, z4, z5, y0, y1, y2, y3, y4, y5⟩ := cells6 a.out)
   | ((with_reducible refine gate_callee (f := 61) rfl ?_); refine goesL_ (some 8) rfl rfl Tryd.func61 (by kernel_rfl) rfl #[.agg #[.int .i64 s, .int .i64 u, .slice W d.length X, .int .i64 y, .bool z, .bool A]] rfl ag_ ?_; (with_reducible refine (grid_Copy.calls s u _ _ d y z A s u d y z A _ ?side1 ?side2 HC.out).mono ?_); (case side1 => exact Kd.C_below HR.out HB.out); (case side2 => exact HL.out); rintro e w3 ⟨v1, rfl, al, hb⟩; refine ⟨_, rfl, ?_⟩; have HO := Z (Kd.R_lower al (below_size bl_)); replace a := Z (kb a.out hb); replace g := Z (kb g.out hb); replace HB := Z (below_step bl_ hb); clear al hb; obtain ⟨x0, x1, x2, x3, x4, x5, q0, q1, q2, q3, q4, q5⟩ := cells6 a.out; obtain ⟨Ao, co, eo⟩ := Kd.R_slice HO.out; subst eo))
  go_loopg [12] d.length (fun m av w' => ∃ x : Int, av = .int .i64 x ∧ Aside0 (0 ≤ x) ∧ Aside0 (x + (m : Int) = d.length) ∧ Aside0 (Kd.R k35 35 w' w.heap.size (fun _ => True) (.slice Ao d.length co) (resetN a1 d x.toNat)) ∧ Aside0 (w'.heap[g1]? = some (.cells #[.int .i64 s, .int .i64 u, .slice Ao d.length co, .int .i64 y, .bool z, .bool A] 24 (0, 0))) ∧ Aside0 (w'.heap[g2]? = some (.cells #[.int .i64 0, .int .i64 0, .slice none 0 0, .int .i64 0, .bool false, .bool false] 24 (0, 0))) ∧ Aside0 (Below w.heap.size w w'))
  case atStart => exact ⟨0, by first | rfl | (simp; done), ⟨by omega⟩, ⟨by omega⟩, ⟨R_off HO.out a.out (by decide) off2_⟩, ⟨put6 a.out⟩, ⟨blk_off g.out hnc off2_⟩, ⟨bl_⟩⟩
  case round =>
   try clear x0 x1 x2 x3 x4 x5 q0 q1 q2 q3 q4 q5
   try clear z0 z1 z2 z3 z4 z5 y0 y1 y2 y3 y4 y5
   clear HO a g HB
   obtain ⟨x, rfl, H, XM, HO, a, g, HB⟩ := hrel
   have Y := H.out
   have hxm := XM.out
   obtain ⟨u0, u1, u2, u3, u4, u5, q0, q1, q2, q3, q4, q5⟩ := cells6 a.out
   by_cases c : x < (d.length : Int)
   ·have c0 : decide (x < (d.length : Int)) = true := decide_eq_true c
    have c1 : decide (0 ≤ x) = true := decide_eq_true Y
    cases gk with
    | zero => exact absurd c (by omega)
    | succ k1 =>
     have EN := Z (show x + 1 + ((k1 : Nat) : Int) = d.length by omega)
     have EW := Z (show wrap64 (x + 1) = x + 1 by have := HN.out; unfold wrap64; omega)
     have EX := Z c
     obtain ⟨ys, hys⟩ : ∃ ys, ys = resetN a1 d x.toNat := ⟨_, rfl⟩
     rw [← hys] at HO
     have YL := Z (show ys.length = d.length by rw [hys, resetN_len])
     have EY := Z hys
     have EC := Z (show rd_T35 ys x = rd_T35 d x by rw [hys]; exact resetN_rd a1 d x c)
     have hq : x < (d.length : Int) := c
     clear c hxm hys
     obtain ⟨go, co', eo', gb, gl, cl, HG⟩ := Kd.R_form HO.out (by have := YL.out; omega)
     (first | cases eo' | (injection eo' with ea_ en_ ec_; (first | subst ea_ | (injection ea_ with ea_; subst ea_)); subst ec_; clear en_))
     have GB := Z gb
     clear gb gl HG
     obtain ⟨ce, hcl, hM, hcc, hfr⟩ := Kd.R_elem HO.out z35 x Y hq
     obtain rfl := k35_openM hM
     obtain ⟨v, hv⟩ : ∃ v, v = ys.getD x.toNat z35 := ⟨_, rfl⟩
     rw [← hv] at hcc hM
     have EV := Z (show v = rd_T35 d x from hv.trans EC.out)
     obtain ⟨I, ⟨b, J, b3, b4⟩, b5⟩ := v
     have hx_0 : wr.cell? ⟨go, (x : Int).toNat * 6, none⟩ = some (.bool I) := hcc 0 _ rfl
     have hx_1 : wr.cell? ⟨go, (x : Int).toNat * 6 + 1, none⟩ = some (.bool b) := hcc 1 _ rfl
     have hx_2 : wr.cell? ⟨go, (x : Int).toNat * 6 + 2, none⟩ = some (.bool J) := hcc 2 _ rfl
     have hx_3 : wr.cell? ⟨go, (x : Int).toNat * 6 + 3, none⟩ = some (.int .i64 b3) := hcc 3 _ rfl
     have hx_4 : wr.cell? ⟨go, (x : Int).toNat * 6 + 4, none⟩ = some (.bool b4) := hcc 4 _ rfl
     have hx_5 : wr.cell? ⟨go, (x : Int).toNat * 6 + 5, none⟩ = some (.int .u8 b5) := hcc 5 _ rfl
     clear hcl hcc hfr hM hv
     replace Y := eq_true Y
     replace hq := eq_true hq
     cases a1 <;> cases b
     ·go_wp2_with (first | ((with_reducible refine gate_dst (N := 6) rfl ?_); refine bx_ 6 35 #[.bool false, .bool false, .bool false, .int .i64 0, .bool false, .int .u8 0] ?_; intro q hg w6 hbox hb; have i := Z (rb HO.out hb); have k := Z (kb a.out hb); have l := Z (kb g.out hb); have n := Z (below_step bl_ hb); have r := Z hbox; have B := Z (le_new hg (below_size bl_) : w.heap.size ≤ q); have E := Z (nl a.out hg); have F := Z (nl g.out hg); have G := Z (own_new HO.out hg); clear HO a g HB hb hbox hg; have HO := i; have a := k; have g := l; have HB := n; have o := r; have ak := B; have K := E; have L := F; have M := G; clear i k l n r B E F G; obtain ⟨k0, D, k2, k3, k4, k5, O, P, Q, S, T, U⟩ := cells6 o.out) | ((with_reducible refine gate_store (t := 35) (p := 6) rfl ?_); refine sx_ 35 6 ((((((w6.setCell ⟨q, 0, none⟩ (.bool I)).setCell ⟨q, 1, none⟩ (.bool false)).setCell ⟨q, 2, none⟩ (.bool J)).setCell ⟨q, 3, none⟩ (.int .i64 b3)).setCell ⟨q, 4, none⟩ (.bool b4)).setCell ⟨q, 5, none⟩ (.int .u8 b5)) ?_; intro w7 hw; replace HO : Aside0 (Kd.R k35 35 w7 w.heap.size (fun _ => True) (.slice (some ⟨go, 0, none⟩) d.length co) ys) := ⟨by rw [hw]; exact R_offo HO.out rfl M.out off2_⟩; replace a : Aside0 (w7.heap[g1]? = some (.cells #[.int .i64 s, .int .i64 u, .slice (some ⟨go, 0, none⟩) d.length co, .int .i64 y, .bool z, .bool A] 24 (0, 0))) := ⟨by rw [hw]; exact blk_off a.out K.out off2_⟩; replace g : Aside0 (w7.heap[g2]? = some (.cells #[.int .i64 0, .int .i64 0, .slice none 0 0, .int .i64 0, .bool false, .bool false] 24 (0, 0))) := ⟨by rw [hw]; exact blk_off g.out L.out off2_⟩; replace o : Aside0 (w7.heap[q]? = some (.cells #[.bool I, .bool false, .bool J, .int .i64 b3, .bool b4, .int .u8 b5] 35 (0, 0))) := ⟨by rw [hw]; exact put6 o.out⟩; replace HB : Aside0 (Below w.heap.size w w7) := ⟨by rw [hw]; exact bl_⟩; clear hw k0 D k2 k3 k4 k5 O P Q S T U; obtain ⟨k0, D, k2, k3, k4, k5, O, P, Q, S, T, U⟩ := cells6 o.out; obtain ⟨u0, u1, u2, u3, u4, u5, q0, q1, q2, q3, q4, q5⟩ := cells6 a.out; obtain ⟨ce, hcl, hM, hcc, hfr⟩ := Kd.R_elem HO.out z35 x H.out EX.out; rw [show ys.getD x.toNat z35 = _ from EC.out.trans EV.out.symm] at hM; obtain rfl := k35_openM hM; have hy_4 := hcc 4 _ rfl; (try simp only [show (k35).sz = 6 from rfl] at hy_4); have hz_4 := hfr 4; (try simp only [show (k35).sz = 6 from rfl] at hz_4); have HP := Kd.R_seg HO.out x H.out EX.out (seg := [.bool false]) (j := 4) hcl hcc (show 5 ≤ 6 from by decide) (x' := (⟨I, ⟨false, J, b3, false⟩, b5⟩ : S35)) (k35_mkM _ _ _ _) (fun _ hk => hk); clear hcl hcc hfr hM) | ((with_reducible refine gate_store (t := 4) (p := 29) rfl ?_); refine sx_ 4 29 (w7.setCell ⟨go, (x : Int).toNat * 6 + 4, none⟩ (.bool false)) ?_; intro V hw; have hg : w7.grownBy V (some go) := (by rw [hw]; exact HP.2); have hp_ : Kd.R k35 35 V w.heap.size (fun _ => True) (.slice (some ⟨go, 0, none⟩) d.length co) (ys.set x.toNat (⟨I, ⟨false, J, b3, false⟩, b5⟩ : S35)) := (by rw [hw]; exact HP.1); clear HP; have i := Z hp_; have k := Z (blk_grown a.out hg (Kd.R_ne HO.out a.out (by decide))); have l := Z (blk_grown g.out hg (Kd.R_ne HO.out g.out (by decide))); have n : Aside0 (Below w.heap.size w V) := ⟨by rw [hw]; exact below_set HB.out GB.out⟩; clear HO a g o HB hg hw hp_; have HO := i; have a := k; have g := l; have HB := n; clear i k l n))
      go_roundg k1
      case measure => omega
      case rel => exact ⟨x + 1, by first | (rw [EW.out]; done) | rw [EW.out], ⟨by have := H.out; omega⟩, EN, ⟨by rw [resetN_next false d x H.out EX.out, ← EY.out, ← EV.out]; exact HO.out⟩, a, g, HB⟩
     ·go_wp2_with (first | ((with_reducible refine gate_dst (N := 6) rfl ?_); refine bx_ 6 35 #[.bool false, .bool false, .bool false, .int .i64 0, .bool false, .int .u8 0] ?_; intro q hg w6 hbox hb; have i := Z (rb HO.out hb); have k := Z (kb a.out hb); have l := Z (kb g.out hb); have n := Z (below_step bl_ hb); have r := Z hbox; have B := Z (le_new hg (below_size bl_) : w.heap.size ≤ q); have E := Z (nl a.out hg); have F := Z (nl g.out hg); have G := Z (own_new HO.out hg); clear HO a g HB hb hbox hg; have HO := i; have a := k; have g := l; have HB := n; have o := r; have ak := B; have K := E; have L := F; have M := G; clear i k l n r B E F G; obtain ⟨k0, D, k2, k3, k4, k5, O, P, Q, S, T, U⟩ := cells6 o.out) | ((with_reducible refine gate_store (t := 35) (p := 6) rfl ?_); refine sx_ 35 6 ((((((w6.setCell ⟨q, 0, none⟩ (.bool I)).setCell ⟨q, 1, none⟩ (.bool true)).setCell ⟨q, 2, none⟩ (.bool J)).setCell ⟨q, 3, none⟩ (.int .i64 b3)).setCell ⟨q, 4, none⟩ (.bool b4)).setCell ⟨q, 5, none⟩ (.int .u8 b5)) ?_; intro w7 hw; replace HO : Aside0 (Kd.R k35 35 w7 w.heap.size (fun _ => True) (.slice (some ⟨go, 0, none⟩) d.length co) ys) := ⟨by rw [hw]; exact R_offo HO.out rfl M.out off2_⟩; replace a : Aside0 (w7.heap[g1]? = some (.cells #[.int .i64 s, .int .i64 u, .slice (some ⟨go, 0, none⟩) d.length co, .int .i64 y, .bool z, .bool A] 24 (0, 0))) := ⟨by rw [hw]; exact blk_off a.out K.out off2_⟩; replace g : Aside0 (w7.heap[g2]? = some (.cells #[.int .i64 0, .int .i64 0, .slice none 0 0, .int .i64 0, .bool false, .bool false] 24 (0, 0))) := ⟨by rw [hw]; exact blk_off g.out L.out off2_⟩; replace o : Aside0 (w7.heap[q]? = some (.cells #[.bool I, .bool true, .bool J, .int .i64 b3, .bool b4, .int .u8 b5] 35 (0, 0))) := ⟨by rw [hw]; exact put6 o.out⟩; replace HB : Aside0 (Below w.heap.size w w7) := ⟨by rw [hw]; exact bl_⟩; clear hw k0 D k2 k3 k4 k5 O P Q S T U; obtain ⟨k0, D, k2, k3, k4, k5, O, P, Q, S, T, U⟩ := cells6 o.out; obtain ⟨u0, u1, u2, u3, u4, u5, q0, q1, q2, q3, q4, q5⟩ := cells6 a.out))
      go_roundg k1
      case measure => omega
      case rel => exact ⟨x + 1, by first | (rw [EW.out]; done) | rw [EW.out], ⟨by have := H.out; omega⟩, EN, ⟨by rw [resetN_keep false d x H.out EX.out (by rw [← EV.out]; rfl), ← EY.out]; exact HO.out⟩, a, g, HB⟩
     ·go_wp2_with (first | ((with_reducible refine gate_dst (N := 6) rfl ?_); refine bx_ 6 35 #[.bool false, .bool false, .bool false, .int .i64 0, .bool false, .int .u8 0] ?_; intro q hg w6 hbox hb; have i := Z (rb HO.out hb); have k := Z (kb a.out hb); have l := Z (kb g.out hb); have n := Z (below_step bl_ hb); have r := Z hbox; have B := Z (le_new hg (below_size bl_) : w.heap.size ≤ q); have E := Z (nl a.out hg); have F := Z (nl g.out hg); have G := Z (own_new HO.out hg); clear HO a g HB hb hbox hg; have HO := i; have a := k; have g := l; have HB := n; have o := r; have ak := B; have K := E; have L := F; have M := G; clear i k l n r B E F G; obtain ⟨k0, D, k2, k3, k4, k5, O, P, Q, S, T, U⟩ := cells6 o.out) | ((with_reducible refine gate_store (t := 35) (p := 6) rfl ?_); refine sx_ 35 6 ((((((w6.setCell ⟨q, 0, none⟩ (.bool I)).setCell ⟨q, 1, none⟩ (.bool false)).setCell ⟨q, 2, none⟩ (.bool J)).setCell ⟨q, 3, none⟩ (.int .i64 b3)).setCell ⟨q, 4, none⟩ (.bool b4)).setCell ⟨q, 5, none⟩ (.int .u8 b5)) ?_; intro w7 hw; replace HO : Aside0 (Kd.R k35 35 w7 w.heap.size (fun _ => True) (.slice (some ⟨go, 0, none⟩) d.length co) ys) := ⟨by rw [hw]; exact R_offo HO.out rfl M.out off2_⟩; replace a : Aside0 (w7.heap[g1]? = some (.cells #[.int .i64 s, .int .i64 u, .slice (some ⟨go, 0, none⟩) d.length co, .int .i64 y, .bool z, .bool A] 24 (0, 0))) := ⟨by rw [hw]; exact blk_off a.out K.out off2_⟩; replace g : Aside0 (w7.heap[g2]? = some (.cells #[.int .i64 0, .int .i64 0, .slice none 0 0, .int .i64 0, .bool false, .bool false] 24 (0, 0))) := ⟨by rw [hw]; exact blk_off g.out L.out off2_⟩; replace o : Aside0 (w7.heap[q]? = some (.cells #[.bool I, .bool false, .bool J, .int .i64 b3, .bool b4, .int .u8 b5] 35 (0, 0))) := ⟨by rw [hw]; exact put6 o.out⟩; replace HB : Aside0 (Below w.heap.size w w7) := ⟨by rw [hw]; exact bl_⟩; clear hw k0 D k2 k3 k4 k5 O P Q S T U; obtain ⟨k0, D, k2, k3, k4, k5, O, P, Q, S, T, U⟩ := cells6 o.out; obtain ⟨u0, u1, u2, u3, u4, u5, q0, q1, q2, q3, q4, q5⟩ := cells6 a.out; obtain ⟨ce, hcl, hM, hcc, hfr⟩ := Kd.R_elem HO.out z35 x H.out EX.out; rw [show ys.getD x.toNat z35 = _ from EC.out.trans EV.out.symm] at hM; obtain rfl := k35_openM hM; have hy_4 := hcc 4 _ rfl; (try simp only [show (k35).sz = 6 from rfl] at hy_4); have hz_4 := hfr 4; (try simp only [show (k35).sz = 6 from rfl] at hz_4); have HP := Kd.R_seg HO.out x H.out EX.out (seg := [.bool false]) (j := 4) hcl hcc (show 5 ≤ 6 from by decide) (x' := (⟨I, ⟨false, J, b3, false⟩, b5⟩ : S35)) (k35_mkM _ _ _ _) (fun _ hk => hk); clear hcl hcc hfr hM) | ((with_reducible refine gate_store (t := 4) (p := 29) rfl ?_); refine sx_ 4 29 (w7.setCell ⟨go, (x : Int).toNat * 6 + 4, none⟩ (.bool false)) ?_; intro V hw; have hg : w7.grownBy V (some go) := (by rw [hw]; exact HP.2); have hp_ : Kd.R k35 35 V w.heap.size (fun _ => True) (.slice (some ⟨go, 0, none⟩) d.length co) (ys.set x.toNat (⟨I, ⟨false, J, b3, false⟩, b5⟩ : S35)) := (by rw [hw]; exact HP.1); clear HP; have i := Z hp_; have k := Z (blk_grown a.out hg (Kd.R_ne HO.out a.out (by decide))); have l := Z (blk_grown g.out hg (Kd.R_ne HO.out g.out (by decide))); have n : Aside0 (Below w.heap.size w V) := ⟨by rw [hw]; exact below_set HB.out GB.out⟩; clear HO a g o HB hg hw hp_; have HO := i; have a := k; have g := l; have HB := n; clear i k l n))
      go_roundg k1
      case measure => omega
      case rel => exact ⟨x + 1, by first | (rw [EW.out]; done) | rw [EW.out], ⟨by have := H.out; omega⟩, EN, ⟨by rw [resetN_next true d x H.out EX.out, ← EY.out, ← EV.out]; exact HO.out⟩, a, g, HB⟩
     ·go_wp2_with (first | ((with_reducible refine gate_dst (N := 6) rfl ?_); refine bx_ 6 35 #[.bool false, .bool false, .bool false, .int .i64 0, .bool false, .int .u8 0] ?_; intro q hg w6 hbox hb; have i := Z (rb HO.out hb); have k := Z (kb a.out hb); have l := Z (kb g.out hb); have n := Z (below_step bl_ hb); have r := Z hbox; have B := Z (le_new hg (below_size bl_) : w.heap.size ≤ q); have E := Z (nl a.out hg); have F := Z (nl g.out hg); have G := Z (own_new HO.out hg); clear HO a g HB hb hbox hg; have HO := i; have a := k; have g := l; have HB := n; have o := r; have ak := B; have K := E; have L := F; have M := G; clear i k l n r B E F G; obtain ⟨k0, D, k2, k3, k4, k5, O, P, Q, S, T, U⟩ := cells6 o.out) | ((with_reducible refine gate_store (t := 35) (p := 6) rfl ?_); refine sx_ 35 6 ((((((w6.setCell ⟨q, 0, none⟩ (.bool I)).setCell ⟨q, 1, none⟩ (.bool true)).setCell ⟨q, 2, none⟩ (.bool J)).setCell ⟨q, 3, none⟩ (.int .i64 b3)).setCell ⟨q, 4, none⟩ (.bool b4)).setCell ⟨q, 5, none⟩ (.int .u8 b5)) ?_; intro w7 hw; replace HO : Aside0 (Kd.R k35 35 w7 w.heap.size (fun _ => True) (.slice (some ⟨go, 0, none⟩) d.length co) ys) := ⟨by rw [hw]; exact R_offo HO.out rfl M.out off2_⟩; replace a : Aside0 (w7.heap[g1]? = some (.cells #[.int .i64 s, .int .i64 u, .slice (some ⟨go, 0, none⟩) d.length co, .int .i64 y, .bool z, .bool A] 24 (0, 0))) := ⟨by rw [hw]; exact blk_off a.out K.out off2_⟩; replace g : Aside0 (w7.heap[g2]? = some (.cells #[.int .i64 0, .int .i64 0, .slice none 0 0, .int .i64 0, .bool false, .bool false] 24 (0, 0))) := ⟨by rw [hw]; exact blk_off g.out L.out off2_⟩; replace o : Aside0 (w7.heap[q]? = some (.cells #[.bool I, .bool true, .bool J, .int .i64 b3, .bool b4, .int .u8 b5] 35 (0, 0))) := ⟨by rw [hw]; exact put6 o.out⟩; replace HB : Aside0 (Below w.heap.size w w7) := ⟨by rw [hw]; exact bl_⟩; clear hw k0 D k2 k3 k4 k5 O P Q S T U; obtain ⟨k0, D, k2, k3, k4, k5, O, P, Q, S, T, U⟩ := cells6 o.out; obtain ⟨u0, u1, u2, u3, u4, u5, q0, q1, q2, q3, q4, q5⟩ := cells6 a.out; obtain ⟨ce, hcl, hM, hcc, hfr⟩ := Kd.R_elem HO.out z35 x H.out EX.out; rw [show ys.getD x.toNat z35 = _ from EC.out.trans EV.out.symm] at hM; obtain rfl := k35_openM hM; have hy_4 := hcc 4 _ rfl; (try simp only [show (k35).sz = 6 from rfl] at hy_4); have hz_4 := hfr 4; (try simp only [show (k35).sz = 6 from rfl] at hz_4); have HP := Kd.R_seg HO.out x H.out EX.out (seg := [.bool false]) (j := 4) hcl hcc (show 5 ≤ 6 from by decide) (x' := (⟨I, ⟨true, J, b3, false⟩, b5⟩ : S35)) (k35_mkM _ _ _ _) (fun _ hk => hk); clear hcl hcc hfr hM) | ((with_reducible refine gate_store (t := 4) (p := 29) rfl ?_); refine sx_ 4 29 (w7.setCell ⟨go, (x : Int).toNat * 6 + 4, none⟩ (.bool false)) ?_; intro V hw; have hg : w7.grownBy V (some go) := (by rw [hw]; exact HP.2); have hp_ : Kd.R k35 35 V w.heap.size (fun _ => True) (.slice (some ⟨go, 0, none⟩) d.length co) (ys.set x.toNat (⟨I, ⟨true, J, b3, false⟩, b5⟩ : S35)) := (by rw [hw]; exact HP.1); clear HP; have i := Z hp_; have k := Z (blk_grown a.out hg (Kd.R_ne HO.out a.out (by decide))); have l := Z (blk_grown g.out hg (Kd.R_ne HO.out g.out (by decide))); have n : Aside0 (Below w.heap.size w V) := ⟨by rw [hw]; exact below_set HB.out GB.out⟩; clear HO a g o HB hg hw hp_; have HO := i; have a := k; have g := l; have HB := n; clear i k l n))
      go_roundg k1
      case measure => omega
      case rel => exact ⟨x + 1, by first | (rw [EW.out]; done) | rw [EW.out], ⟨by have := H.out; omega⟩, EN, ⟨by rw [resetN_next true d x H.out EX.out, ← EY.out, ← EV.out]; exact HO.out⟩, a, g, HB⟩
   ·have c0 : decide (x < (d.length : Int)) = false := decide_eq_false c
    have EX := Z (show d.length ≤ x.toNat by omega)
    clear c hxm Y
    obtain ⟨s0, s1, s2, s3, s4, s5, p0, p1, p2, p3, p4, p5⟩ := cells6 g.out
    go_wp2
    refine bodyPost_ret (results_cell_row rfl _ _ g2 24 #[.int .i64 s, .int .i64 u, .slice Ao d.length co, .int .i64 y, .bool z, .bool A] (0, 0) _ rfl (put6 g.out) Tryd.underlying24 rfl (by kernel_rfl)) rfl ?_
    exact ⟨_, rfl, by rw [← resetN_end a1 d _ EX.out]; exact R_off HO.out g.out (by decide) off2_, bl_⟩
 ·rw [if_neg hn] at h; cases h
end

/-! ### grid_Size: function 68 -/
def grid_Size.f (b : Int) (c : Int) (a : List (S35)) (d : Int) (e : Bool) (g : Bool) : Option (Int) := some (a.length : Int)
set_option maxHeartbeats 8000000 in
set_option maxRecDepth 100000 in
theorem grid_Size.calls (c : Int) (d : Int) (b : Option Addr) (k : Nat) (a : List (S35)) (g : Int) (i : Bool) (j : Bool) (r : Int) (w : World) (n : Kd.C k35 w b a.length a) (m : a.length ≤ k) (h : grid_Size.f c d a g i j = some r) :
  Calls Tryd.prog 68 #[.agg #[.int .i64 c, .int .i64 d, .slice b a.length k, .int .i64 g, .bool i, .bool j]] w fun e w' => e = .returned (.int .i64 r) ∧ Below w.heap.size w w' := by
 have P := Tryd.underlying24
 have O := Z n
 have M := Z m
 clear n m
 have HB := Z (Below.refl w.heap.size w)
 have H : (some (a.length : Int)) = some r := h
 clear h
 obtain rfl := Option.some.inj H
 go_enter Tryd.func68, Tryd.ntmps68
 go_wp2_with (first | ((with_reducible refine gate_dst (N := 1) rfl ?_); refine bx_ 1 24 #[.int .i64 c, .int .i64 d, .slice b a.length k, .int .i64 g, .bool i, .bool j] ?_; intro l hg w2 hbox hb; have o := Z (hbox); have L := Z (ln_ hg : w.heap.size ≤ l); have K := Z (ln_ hg : w.heap.size ≤ l); replace HB := Z (below_step bl_ hb); clear hb hbox hg; obtain ⟨v, x, y, z, A, B, D, E, F, G, I, J⟩ := cells6 o.out))
 go_ret
 exact ⟨er_, bl_⟩

/-! ### wipe_all: function 43 -/
def wipe_all.l0 : Nat → Int → Int → Int → Int → List (S35) → Int → Bool → Bool → Int → Int → List (S35) → Int → Bool → Bool → Option (Int × Int × (List (S35)) × Int × Bool × Bool)
 | 0, _, _, _, _, _, _, _, _, _, _, _, _, _, _ => none
 | k + 1, r, x10, b, c, d, e, g, h, i, j, a, n, l, m => if x10 < r then ((field_Open.f b c d e g h x10).bind fun o => (if o = true then (if 0 ≤ x10 then (if x10 < (a.length : Int) then (wipe_all.l0 k r (wrap64 (x10 + 1)) b c d e g h i j (a.set (x10 : Int).toNat (⟨(rd_T35 a x10).f0, (⟨(rd_T35 a x10).f1.f0, (rd_T35 a x10).f1.f1, (rd_T35 a x10).f1.f2, (rd_T35 a x10).f1.f3⟩ : S33), 0⟩ : S35)) n l m) else (none)) else (none)) else (wipe_all.l0 k r (wrap64 (x10 + 1)) b c d e g h i j a n l m))) else ((grid_Size.f b c d e g h).bind fun p => ((field_Next.f b c d e g h (wrap64 (p - 1))).bind fun q => (some (i, j, a, mx 0 q, l, m))))
def wipe_all.f (k : Nat) (c : Int) (d : Int) (b : List (S35)) (e : Int) (g : Bool) (h : Bool) : Option (Int × Int × (List (S35)) × Int × Bool × Bool) := (host_Reset.f c d b e g h false).bind fun a => (wipe_all.l0 k (b.length : Int) 0 c d b e g h a.1 a.2.1 a.2.2.1 a.2.2.2.1 a.2.2.2.2.1 a.2.2.2.2.2)
theorem wipe_all.mono_l : ∀ k, (∀ f g i j l m n o p q a b c d, LeO (wipe_all.l0 k f g i j l m n o p q a b c d) (wipe_all.l0 (k + 1) f g i j l m n o p q a b c d))
 | 0 => fun _ _ _ _ _ _ _ _ _ _ _ _ _ _ r h => by simp [wipe_all.l0] at h
 | k + 1 => by
  have e := wipe_all.mono_l k
  ·intro f g i j l m n o p q a b c d
   unfold wipe_all.l0
   repeat' first
   | (with_reducible exact e _ _ _ _ _ _ _ _ _ _ _ _ _ _)
   | (with_reducible exact LeO.refl _)
   | (with_reducible exact LeO.none _)
   | (with_reducible refine LeO.ite ?_ ?_)
   | (with_reducible refine LeO.bind ?_ (fun _ => ?_))
   | exact e _ _ _ _ _ _ _ _ _ _ _ _ _ _
   | exact LeO.none _
   | refine LeO.ite ?_ ?_
   | refine LeO.bind ?_ (fun _ => ?_)
theorem wipe_all.mono : ∀ a0 a1 b c a4 d k, LeO (wipe_all.f k a0 a1 b c a4 d) (wipe_all.f (k + 1) a0 a1 b c a4 d) := by
 intro a0 a1 b c a4 d k
 have a := wipe_all.mono_l k
 unfold wipe_all.f
 repeat' first
   | (with_reducible exact a _ _ _ _ _ _ _ _ _ _ _ _ _ _)
   | (with_reducible exact LeO.refl _)
   | (with_reducible exact LeO.none _)
   | (with_reducible refine LeO.ite ?_ ?_)
   | (with_reducible refine LeO.bind ?_ (fun _ => ?_))
   | exact a _ _ _ _ _ _ _ _ _ _ _ _ _ _
   | exact LeO.none _
   | refine LeO.ite ?_ ?_
   | refine LeO.bind ?_ (fun _ => ?_)
def wipe_all.T8 : Bool × List (List Nat × List Nat) := (true, [([], []), ([], []), ([1], [1]), ([2], [2]), ([0, 3, 2], [0, 3]), ([4], [4]), ([0, 1, 2, 3, 4, 5], []), ([6, 5, 4, 0, 1, 2, 3, 4, 5], [5, 6])])
def wipe_all.B8 : List Nat := [0, 0, 2, 6, 15, 31, 63, 127]
theorem wipe_all.tab8 : rtab .any (opsOf Tryd.f43 8) = wipe_all.T8 := by kernel_rfl
theorem wipe_all.bits8 : waitsOk wipe_all.T8.2 wipe_all.B8 = true := by kernel_rfl
set_option maxHeartbeats 8000000 in
set_option maxRecDepth 100000 in
theorem wipe_all.calls (k : Nat) (r : Int) (s : Int) (V : Option Addr) (W : Nat) (l : List (S35)) (u : Int) (x : Bool) (y : Bool) (r1 : Int) (r2 : Int) (r3 : List (S35)) (r4 : Int) (r5 : Bool) (r6 : Bool) (w : World) (aN : Kd.C k35 w V l.length l) (aK : l.length ≤ W) (h : wipe_all.f k r s l u x y = some (r1, r2, r3, r4, r5, r6)) :
  Calls Tryd.prog 43 #[.agg #[.int .i64 r, .int .i64 s, .slice V l.length W, .int .i64 u, .bool x, .bool y]] w fun e w' => ∃ bU : Value, e = .returned (.agg #[.int .i64 r1, .int .i64 r2, bU, .int .i64 r4, .bool r5, .bool r6]) ∧ Kd.R k35 35 w' w.heap.size (fun _ => True) bU r3 ∧ Below w.heap.size w w' := by
 have d1 := Tryd.underlying24
 have ak := Z aN
 have ai := Z aK
 clear aN aK
 have HB := Z (Below.refl w.heap.size w)
 have H : ((host_Reset.f r s l u x y false).bind fun ag => (wipe_all.l0 k (l.length : Int) 0 r s l u x y ag.1 ag.2.1 ag.2.2.1 ag.2.2.2.1 ag.2.2.2.2.1 ag.2.2.2.2.2)) = some (r1, r2, r3, r4, r5, r6) := h
 clear h
 replace H := Option.bind_eq_some_iff.mp H
 obtain ⟨⟨F, G, aw, U, L, M⟩, bN, H⟩ := H
 replace H : (wipe_all.l0 k (l.length : Int) 0 r s l u x y F G aw U L M) = some (r1, r2, r3, r4, r5, r6) := H
 have A2 := Z bN
 clear bN
 have H' := Z H
 clear H
 go_enter Tryd.func43, Tryd.ntmps43
 go_wp2_with (first | ((with_reducible refine gate_dst (N := 1) rfl ?_); refine bx_ 1 24 #[.int .i64 r, .int .i64 s, .slice V l.length W, .int .i64 u, .bool x, .bool y] ?_; intro Q hg w3 hbox hb; have c := Z (hbox); have dt := Z (ln_ hg : w.heap.size ≤ Q); have dp := Z (ln_ hg : w.heap.size ≤ Q); replace HB := Z (below_step bl_ hb); clear hb hbox hg) | ((with_reducible refine gate_dst (N := 2) rfl ?_); refine bx_ 2 24 #[.int .i64 0, .int .i64 0, .slice none 0 0, .int .i64 0, .bool false, .bool false] ?_; intro P hg w4 hbox hb; have d := Z (hbox); have du := Z (ln_ hg : w.heap.size ≤ P); have dq := Z (ln_ hg : w.heap.size ≤ P); replace HB := Z (below_step bl_ hb); have Y := Z (nl c.out hg); have aa := Z (ng c.out hg); replace c := Z (kb c.out hb); clear hb hbox hg; have dW := Y.out; have dY := aa.out; obtain ⟨bo, bp, bq, br, bs, bt, bw, bx, bz, bA, bB, bC⟩ := cells6 c.out) | ((with_reducible refine gate_callee (f := 66) rfl ?_); refine goesL_ (some 6) rfl rfl Tryd.func66 (by kernel_rfl) rfl #[.agg #[.int .i64 r, .int .i64 s, .slice V l.length W, .int .i64 u, .bool x, .bool y], .bool false] rfl ag_ ?_; (with_reducible refine (host_Reset.calls r s _ _ l u x y false F G aw U L M _ ?side1 ?side2 A2.out).mono ?_); (case side1 => repeat (first | exact (Kd.C_below ak.out HB.out) | (with_reducible apply pC))); (case side2 => exact ai.out); rintro e w7 ⟨d8, rfl, bQ, hb⟩; refine ⟨_, rfl, ?_⟩; have aj := Z (Kd.R_lower bQ (below_size bl_)); replace c := Z (kb c.out hb); replace d := Z (kb d.out hb); replace HB := Z (below_step bl_ hb); (try clear hb); (try clear aJ); (try clear hk); (try clear hi); (try clear bQ)) | ((with_reducible refine gate_dst (N := 3) rfl ?_); refine bx_ 3 24 #[.int .i64 0, .int .i64 0, .slice none 0 0, .int .i64 0, .bool false, .bool false] ?_; intro z hg w8 hbox hb; replace aj := Z (rb aj.out hb); have m := Z (hbox); have dv := Z (ln_ hg : w.heap.size ≤ z); have dr := Z (ln_ hg : w.heap.size ≤ z); replace HB := Z (below_step bl_ hb); have q := Z (nl c.out hg); have T := Z (ng c.out hg); replace c := Z (kb c.out hb); have O := Z (nl d.out hg); have ab := Z (ng d.out hg); replace d := Z (kb d.out hb); clear hb hbox hg; have dX := T.out; have dZ := q.out; have dz := ab.out; have dI := O.out; obtain ⟨aO, aP, aQ, aR, aS, aT, a0, a1, a2, a3, a4, a5⟩ := cells6 m.out; obtain ⟨bf, bj, bW⟩ := Kd.R_slice aj.out; subst bW; obtain ⟨aU, aV, aW, aX, aY, aZ, a6, a7, a8, a9, ba, bb⟩ := cells6 c.out))
 go_loopg [10] k (fun kq dm w' => ∃ (b : Int) (a : List (S35)) (u672002 : Value), dm = .int .i64 b ∧ Aside0 (wipe_all.l0 kq (l.length : Int) b r s l u x y F G a U L M = some (r1, r2, r3, r4, r5, r6)) ∧ Aside0 (kq ≤ k) ∧ Aside0 (Kd.R k35 35 w' w.heap.size (fun _ => True) u672002 a) ∧ Aside0 (w'.heap[Q]? = some (.cells #[.int .i64 r, .int .i64 s, (.slice V l.length W), .int .i64 u, .bool x, .bool y] 24 (0, 0))) ∧ Aside0 (w'.heap[P]? = some (.cells #[.int .i64 0, .int .i64 0, (.slice none 0 0), .int .i64 0, .bool false, .bool false] 24 (0, 0))) ∧ Aside0 (w'.heap[z]? = some (.cells #[.int .i64 F, .int .i64 G, u672002, .int .i64 U, .bool L, .bool M] 24 (0, 0))) ∧ Aside0 (Below w.heap.size w w'))
 case atStart => exact ⟨(0), (aw), (.slice bf aw.length bj), (dn_), H', ⟨Nat.le_refl _⟩, ⟨by (with_reducible repeat apply pR); exact Kd.R_mono (f6R z (Kd.R_types aj.out m.out (by decide)) (fun _ hk => hk.2)) (fun _ hk => trivial)⟩, ⟨blk_off c.out q.out off2_⟩, ⟨blk_off d.out O.out off2_⟩, ⟨put6 m.out⟩, ⟨bl_⟩⟩
 case round =>
  clear H'
  try clear c1
  try clear p2
  try clear c4
  try clear c5
  try clear c6
  try clear c9
  try clear c10
  try clear aO
  try clear aP
  try clear aQ
  try clear aR
  try clear aS
  try clear aT
  try clear aU
  try clear aV
  try clear aW
  try clear aX
  try clear aY
  try clear aZ
  try clear bo
  try clear bp
  try clear bq
  try clear br
  try clear bs
  try clear bt
  try clear a0
  try clear a1
  try clear a2
  try clear a3
  try clear a4
  try clear a5
  try clear a6
  try clear a7
  try clear a8
  try clear a9
  try clear ba
  try clear bb
  try clear bw
  try clear bx
  try clear bz
  try clear bA
  try clear bB
  try clear bC
  obtain ⟨b, a, u672002, rfl, HA, aF, HO_672002, c, d, m, HB⟩ := hrel
  cases gk with
  | zero => exact absurd HA.out (by simp [wipe_all.l0])
  | succ k1 =>
   have H := HA.out
   clear HA
   simp only [wipe_all.l0] at H
   by_cases ax : b < (l.length : Int)
   ·rw [if_pos ax] at H
    have bK : decide (b < (l.length : Int)) = true := decide_eq_true ax
    clear ax
    replace H := Option.bind_eq_some_iff.mp H
    obtain ⟨bH, bc, H⟩ := H
    replace H : (if bH = true then (if 0 ≤ b then (if b < (a.length : Int) then (wipe_all.l0 k1 (l.length : Int) (wrap64 (b + 1)) r s l u x y F G (a.set (b : Int).toNat (⟨(rd_T35 a b).f0, (⟨(rd_T35 a b).f1.f0, (rd_T35 a b).f1.f1, (rd_T35 a b).f1.f2, (rd_T35 a b).f1.f3⟩ : S33), 0⟩ : S35)) U L M) else (none)) else (none)) else (wipe_all.l0 k1 (l.length : Int) (wrap64 (b + 1)) r s l u x y F G a U L M)) = some (r1, r2, r3, r4, r5, r6) := H
    have bM := Z bc
    clear bc
    by_cases aG : bH = true
    ·subst aG
     have H1 : (if 0 ≤ b then (if b < (a.length : Int) then (wipe_all.l0 k1 (l.length : Int) (wrap64 (b + 1)) r s l u x y F G (a.set (b : Int).toNat (⟨(rd_T35 a b).f0, (⟨(rd_T35 a b).f1.f0, (rd_T35 a b).f1.f1, (rd_T35 a b).f1.f2, (rd_T35 a b).f1.f3⟩ : S33), 0⟩ : S35)) U L M) else (none)) else (none)) = some (r1, r2, r3, r4, r5, r6) := by rw [if_pos rfl] at H; exact H
     clear H
     have H := H1
     clear H1
     by_cases aH : 0 ≤ b
     ·rw [if_pos aH] at H
      have dw : decide (0 ≤ b) = true := decide_eq_true aH
      clear aH
      by_cases aI : b < (a.length : Int)
      ·rw [if_pos aI] at H
       have dx : decide (b < (a.length : Int)) = true := decide_eq_true aI
       clear aI
       obtain ⟨aE, al⟩ : ∃ y_ : List (S35), y_ = (a.set (b : Int).toNat (⟨(rd_T35 a b).f0, (⟨(rd_T35 a b).f1.f0, (rd_T35 a b).f1.f1, (rd_T35 a b).f1.f2, (rd_T35 a b).f1.f3⟩ : S33), 0⟩ : S35)) := ⟨_, rfl⟩
       replace H : (wipe_all.l0 k1 (l.length : Int) (wrap64 (b + 1)) r s l u x y F G aE U L M) = some (r1, r2, r3, r4, r5, r6) := by first | (rw [al]; with_reducible exact H) | (have bg := (Option.bind_some _ _).symm.trans H; rw [al]; with_reducible exact bg) | (have bg := (Option.bind_some _ _).symm.trans H; with_reducible exact bg) | with_reducible exact H | (rw [al]; exact H) | exact H
       have bJ := Z al
       clear al
       have H' := Z H
       clear H
       have dA := Y.out
       have dJ := aa.out
       have dB := q.out
       have dK := T.out
       obtain ⟨bZ, b0, b1, b2, b3, b4, cu, cv, cw, cx, cy, cz⟩ := cells6 c.out
       go_wp2_with (first | ((with_reducible refine gate_callee (f := 44) rfl ?_); refine goesL_ (some 15) rfl rfl Tryd.func44 (by kernel_rfl) rfl #[.agg #[.int .i64 r, .int .i64 s, .slice V l.length W, .int .i64 u, .bool x, .bool y], .int .i64 b] rfl ag_ ?_; (with_reducible refine (field_Open.calls r s _ _ l u x y b true _ ?side1 ?side2 bM.out).mono ?_); (case side1 => repeat (first | exact (Kd.C_below ak.out HB.out) | (with_reducible apply pC))); (case side2 => exact ai.out); rintro e X ⟨rfl, hb⟩; refine ⟨_, rfl, ?_⟩; replace HO_672002 := Z (rb HO_672002.out hb); replace c := Z (kb c.out hb); replace d := Z (kb d.out hb); replace m := Z (kb m.out hb); replace HB := Z (below_step bl_ hb); (try clear hb); (try clear aJ); (try clear hk); (try clear hi); have dC := ab.out; have dL := O.out; obtain ⟨b5, b6, b7, b8, b9, ca, cA, cB, cC, cD, cE, cF⟩ := cells6 m.out; have bF : 0 ≤ (b : Int) := od_; have bG : (b : Int) < ((a.length : Int) : Int) := od_; obtain ⟨I, ay, bk, bl, bY, dV, bh⟩ := Kd.R_form HO_672002.out (by omega); (first | cases bk | (injection bk with ea_ en_ ec_; (first | subst ea_ | (injection ea_ with ea_; subst ea_)); subst ec_; clear en_)); have bV := Z bl; have dS := Z bh; clear bl bY bh; obtain ⟨dT, bL, bm, ac, ad⟩ := Kd.R_elem HO_672002.out z35 (b : Int) bF bG; obtain rfl := k35_openM bm; have dg : X.cell? ⟨I, (b : Int).toNat * 6, none⟩ = some (.bool ((rd_T35 a b).f0)) := ac 0 _ rfl; have dh : X.cell? ⟨I, (b : Int).toNat * 6 + 1, none⟩ = some (.bool ((rd_T35 a b).f1.f0)) := ac 1 _ rfl; have di : X.cell? ⟨I, (b : Int).toNat * 6 + 2, none⟩ = some (.bool ((rd_T35 a b).f1.f1)) := ac 2 _ rfl; have dj : X.cell? ⟨I, (b : Int).toNat * 6 + 3, none⟩ = some (.int .i64 ((rd_T35 a b).f1.f2)) := ac 3 _ rfl; have dk : X.cell? ⟨I, (b : Int).toNat * 6 + 4, none⟩ = some (.bool ((rd_T35 a b).f1.f3)) := ac 4 _ rfl; have dl : X.cell? ⟨I, (b : Int).toNat * 6 + 5, none⟩ = some (.int .u8 ((rd_T35 a b).f2)) := ac 5 _ rfl; have c3 : X.frozen? ⟨I, (b : Int).toNat * 6, none⟩ = false := ad 0; have c7 : X.frozen? ⟨I, (b : Int).toNat * 6 + 1, none⟩ = false := ad 1; have c8 : X.frozen? ⟨I, (b : Int).toNat * 6 + 2, none⟩ = false := ad 2; have da : X.frozen? ⟨I, (b : Int).toNat * 6 + 3, none⟩ = false := ad 3; have db : X.frozen? ⟨I, (b : Int).toNat * 6 + 4, none⟩ = false := ad 4; have dc : X.frozen? ⟨I, (b : Int).toNat * 6 + 5, none⟩ = false := ad 5; clear bL ac ad bm; replace bF := eq_true bF; replace bG := eq_true bG; have bi := Z (show Kd.R k35 35 X w.heap.size (fun _ => True) (.slice (some ⟨I, 0, none⟩) a.length ay) a from (by (with_reducible repeat apply pR); exact HO_672002.out)); obtain ⟨dU, aL, bn, az, aM⟩ := Kd.R_elem bi.out z35 (b : Int) (od_) (by have h_ : (b : Int) < ((a.length : Int) : Int) := od_; first | exact h_ | (have e_ := (Kd.R_reads' HO_672002.out).1; omega) | simpa using h_); obtain rfl := k35_openM bn; have aD := Kd.R_seg bi.out (b : Int) (od_) (by have h_ : (b : Int) < ((a.length : Int) : Int) := od_; first | exact h_ | (have e_ := (Kd.R_reads' HO_672002.out).1; omega) | simpa using h_) (seg := [.int .u8 0]) (j := 5) aL az (show 6 ≤ 6 from by decide) (x' := (⟨(rd_T35 a b).f0, (⟨(rd_T35 a b).f1.f0, (rd_T35 a b).f1.f1, (rd_T35 a b).f1.f2, (rd_T35 a b).f1.f3⟩ : S33), 0⟩ : S35)) (k35_mkM _ _ _ (⟨(rd_T35 a b).f0, (⟨(rd_T35 a b).f1.f0, (rd_T35 a b).f1.f1, (rd_T35 a b).f1.f2, (rd_T35 a b).f1.f3⟩ : S33), 0⟩ : S35) ) (fun _ hk => hk); have bD := az 5 _ rfl; (try simp only [show (k35).sz = 6 from rfl, Nat.mul_one, Nat.add_zero] at bD); have bu := aM 5; (try simp only [show (k35).sz = 6 from rfl, Nat.mul_one, Nat.add_zero] at bu); clear aL az aM bn) | ((with_reducible refine gate_store (t := 5) (p := 20) rfl ?_); refine sx_ 5 20 (X.setCell ⟨I, (b : Int).toNat * 6 + 5, none⟩ (.int .u8 0)) ?_; intro bI hw; have hg : X.grownBy bI (some I) := (by rw [hw]; exact aD.2); have hp_ : Kd.R k35 35 bI w.heap.size (fun _ => True) (.slice (some ⟨I, 0, none⟩) a.length ay) aE := (by rw [hw, bJ.out]; exact aD.1); clear aD; replace c := Z (blk_grown (g := Q) (o := .cells #[.int .i64 r, .int .i64 s, .slice V l.length W, .int .i64 u, .bool x, .bool y] 24 (0, 0)) (vK c.out) hg (Kd.R_ne HO_672002.out c.out (by decide))); replace d := Z (blk_grown (g := P) (o := .cells #[.int .i64 0, .int .i64 0, .slice none 0 0, .int .i64 0, .bool false, .bool false] 24 (0, 0)) (vK d.out) hg (Kd.R_ne HO_672002.out d.out (by decide))); replace m := Z (blk_grown (g := z) (o := .cells #[.int .i64 F, .int .i64 G, .slice (some ⟨I, 0, none⟩) a.length ay, .int .i64 U, .bool L, .bool M] 24 (0, 0)) (vK m.out) hg (Kd.R_ne HO_672002.out m.out (by decide))); replace HO_672002 := Z (hp_); replace HB := Z ((by rw [hw]; exact below_set (HB.out) bV.out : Below w.heap.size w bI)); clear hg hw hp_))
       go_roundg k1
       case measure => have := aF.out; omega
       case rel => exact ⟨(wrap64 (b + 1)), (aE), (.slice (some ⟨I, 0, none⟩) a.length ay), (dn_), H', ⟨by have := aF.out; omega⟩, ⟨by (with_reducible repeat apply pR); exact HO_672002.out⟩, ⟨vK c.out⟩, ⟨vK d.out⟩, ⟨vK m.out⟩, ⟨bl_⟩⟩
      ·rw [if_neg aI] at H
       exact absurd H (by simp)
     ·rw [if_neg aH] at H
      exact absurd H (by simp)
    ·replace aG := Bool.eq_false_iff.mpr aG
     subst aG
     have H1 : (wipe_all.l0 k1 (l.length : Int) (wrap64 (b + 1)) r s l u x y F G a U L M) = some (r1, r2, r3, r4, r5, r6) := by rw [if_neg (show ¬ (false = true) by decide)] at H; exact H
     clear H
     have H := H1
     clear H1
     have H' := Z H
     clear H
     have dD := Y.out
     have dM := aa.out
     have dE := q.out
     have dN := T.out
     obtain ⟨cb, cc, cd, ce, cf, cg, cG, cH, cI, cJ, cK, cL⟩ := cells6 c.out
     go_wp2_with (first | ((with_reducible refine gate_callee (f := 44) rfl ?_); refine goesL_ (some 15) rfl rfl Tryd.func44 (by kernel_rfl) rfl #[.agg #[.int .i64 r, .int .i64 s, .slice V l.length W, .int .i64 u, .bool x, .bool y], .int .i64 b] rfl ag_ ?_; (with_reducible refine (field_Open.calls r s _ _ l u x y b false _ ?side1 ?side2 bM.out).mono ?_); (case side1 => repeat (first | exact (Kd.C_below ak.out HB.out) | (with_reducible apply pC))); (case side2 => exact ai.out); rintro e d9 ⟨rfl, hb⟩; refine ⟨_, rfl, ?_⟩; replace HO_672002 := Z (rb HO_672002.out hb); replace c := Z (kb c.out hb); replace d := Z (kb d.out hb); replace m := Z (kb m.out hb); replace HB := Z (below_step bl_ hb); (try clear hb); (try clear aJ); (try clear hk); (try clear hi)))
     go_roundg k1
     case measure => have := aF.out; omega
     case rel => exact ⟨(wrap64 (b + 1)), (a), (u672002), (dn_), H', ⟨by have := aF.out; omega⟩, ⟨by (with_reducible repeat apply pR); exact HO_672002.out⟩, ⟨vK c.out⟩, ⟨vK d.out⟩, ⟨vK m.out⟩, ⟨bl_⟩⟩
   ·rw [if_neg ax] at H
    have bK : decide (b < (l.length : Int)) = false := decide_eq_false ax
    clear ax
    replace H := Option.bind_eq_some_iff.mp H
    obtain ⟨aA, bd, H⟩ := H
    replace H : ((field_Next.f r s l u x y (wrap64 (aA - 1))).bind fun ah => (some (F, G, a, mx 0 ah, L, M))) = some (r1, r2, r3, r4, r5, r6) := H
    have bO := Z bd
    clear bd
    replace H := Option.bind_eq_some_iff.mp H
    obtain ⟨ah, be, H⟩ := H
    replace H : (some (F, G, a, mx 0 ah, L, M)) = some (r1, r2, r3, r4, r5, r6) := H
    have bP := Z be
    clear be
    obtain ⟨af, ae⟩ : ∃ j_ : Int, (mx 0 ah) = j_ := ⟨_, rfl⟩
    replace H : (some (F, G, a, af, L, M)) = some (r1, r2, r3, r4, r5, r6) := by first | (rw [ae] at H; exact H) | (simp only [ae] at H ⊢; exact H)
    (try rw [ae] at bO)
    (try rw [ae] at bP)
    (try (have de : 0 ≤ af := by (rw [← ae]; unfold mx; (repeat' split) <;> omega)))
    (try (have df : 0 ≤ af := by omega))
    have dd : (if 0 < ah then ah else 0) = af := ae
    simp only [Option.some.injEq, Prod.mk.injEq] at H
    obtain ⟨rfl, rfl, rfl, rfl, rfl, rfl⟩ := H
    try go_wp2
    have A := Z (Kd.R_drew HO_672002.out)
    have B := Z (blk_drew c.out)
    have D := Z (blk_drew d.out)
    have E := Z (blk_drew m.out)
    have J := Z (below_drew1 HB.out)
    clear HO_672002
    clear c
    clear d
    clear m
    clear HB
    have HO_672002 := A
    have c := B
    have d := D
    have m := E
    have HB := J
    clear A B D E J
    refine start_ (n := 8) (S := fun w' => w'.cell? ⟨Q, 0, none⟩ = some (.int .i64 r) ∧ w'.cell? ⟨Q, 1, none⟩ = some (.int .i64 s) ∧ w'.cell? ⟨Q, 2, none⟩ = some (.slice V l.length W) ∧ w'.cell? ⟨Q, 3, none⟩ = some (.int .i64 u) ∧ w'.cell? ⟨Q, 4, none⟩ = some (.bool x) ∧ w'.cell? ⟨Q, 5, none⟩ = some (.bool y)) (ds := []) (bv 8 0) (by kernel_rfl) rfl rfl ⟨(blk_cell c.out 0).trans rfl, (blk_cell c.out 1).trans rfl, (blk_cell c.out 2).trans rfl, (blk_cell c.out 3).trans rfl, (blk_cell c.out 4).trans rfl, (blk_cell c.out 5).trans rfl⟩ (fun hHeld => ?_); refine with_tabW wipe_all.tab8 wipe_all.bits8 (fun HT_ HW_ => ?_)
    generalize wr.drew = ea at HO_672002 c d m HB hHeld ⊢
    refine take_ (i := 0) (N := some 22) (v := ?_) (a' := ?_) (bv 8 1) rfl rfl (take_ofW HT_.out HW_.out (by kernel_rfl)) (fun _ _ _ h => h) (Or.inl ⟨by rfl, ?_⟩) hHeld ?_ ?_
    rotate_left
    ·rintro w' ⟨s0, s1, s2, s3, s4, s5⟩
     go_simp
     with_reducible rfl
    rotate_left
    ·simp only [Act.put, sA, sB, sC, i64_w, i32_w]
     rfl
    refine take_ (i := 1) (N := some 23) (v := ?_) (a' := ?_) (bv 8 3) rfl rfl (take_ofW HT_.out HW_.out (by kernel_rfl)) (fun _ _ _ h => h) (Or.inl ⟨by rfl, ?_⟩) hHeld ?_ ?_
    rotate_left
    ·rintro w' ⟨s0, s1, s2, s3, s4, s5⟩
     go_simp
     with_reducible rfl
    rotate_left
    ·simp only [Act.put, sA, sB, sC, i64_w, i32_w]
     rfl
    refine one_ (i := 2) (N := some 24) (bv 8 7) rfl rfl (one_of HT_.out (by kernel_rfl)) (by decide) (fun K hK => ?_)
    refine goes_ Tryd.func68 (by kernel_rfl) rfl #[.agg #[.int .i64 r, .int .i64 s, .slice V l.length W, .int .i64 u, .bool x, .bool y]] (by rfl) rfl rfl ag_ ?_
    with_reducible refine (grid_Size.calls r s _ _ l u x y aA _ ?side1 ?side2 bO.out).mono ?_
    (case side1 => repeat (first | exact (Kd.C_below ak.out HB.out) | (with_reducible apply pC)))
    (case side2 => exact ai.out)
    rintro e eb ⟨rfl, hb⟩
    refine ⟨_, rfl, ?_⟩
    have A := Z (rb HO_672002.out hb)
    have B := Z (kb c.out hb)
    have D := Z (kb d.out hb)
    have E := Z (kb m.out hb)
    have J := Z (below_step bl_ hb)
    clear HO_672002
    clear c
    clear d
    clear m
    clear HB
    have HO_672002 := A
    have c := B
    have d := D
    have m := E
    have HB := J
    clear A B D E J
    (try clear hb)
    (try clear aJ)
    (try clear hk)
    (try clear hi)
    refine hK.out _ _ ⟨(blk_cell c.out 0).trans rfl, (blk_cell c.out 1).trans rfl, (blk_cell c.out 2).trans rfl, (blk_cell c.out 3).trans rfl, (blk_cell c.out 4).trans rfl, (blk_cell c.out 5).trans rfl⟩ (fun hHeld => ?_)
    clear hK K
    refine norm_ (a' := ?_) ?_ ?_
    rotate_left
    ·show Act.put _ (some 24) _ = _
     simp only [Act.put, sA, sB, sC, i64_w, i32_w]
     rfl
    refine pure_ (i := 3) (N := some 25) (v := ?_) (a' := ?_) (bv 8 15) rfl rfl (any_of HT_.out (by kernel_rfl)) (fun _ _ _ h => h) (Or.inl ⟨by rfl, ?_⟩) ?_ ?_
    rotate_left
    ·intro w'
     go_simp
     with_reducible rfl
    rotate_left
    ·simp only [Act.put, sA, sB, sC, i64_w, i32_w]
     rfl
    refine one_ (i := 4) (N := some 26) (bv 8 31) rfl rfl (one_of HT_.out (by kernel_rfl)) (by decide) (fun K hK => ?_)
    refine goes_ Tryd.func67 (by kernel_rfl) rfl #[.agg #[.int .i64 r, .int .i64 s, .slice V l.length W, .int .i64 u, .bool x, .bool y], .int .i64 (wrap64 (aA - 1))] (by rfl) rfl rfl ag_ ?_
    with_reducible refine (field_Next.calls r s _ _ l u x y (wrap64 (aA - 1)) ah _ ?side1 ?side2 bP.out).mono ?_
    (case side1 => repeat (first | exact (Kd.C_below ak.out HB.out) | (with_reducible apply pC)))
    (case side2 => exact ai.out)
    rintro e dn ⟨rfl, hb⟩
    refine ⟨_, rfl, ?_⟩
    have A := Z (rb HO_672002.out hb)
    have B := Z (kb c.out hb)
    have D := Z (kb d.out hb)
    have E := Z (kb m.out hb)
    have J := Z (below_step bl_ hb)
    clear HO_672002
    clear c
    clear d
    clear m
    clear HB
    have HO_672002 := A
    have c := B
    have d := D
    have m := E
    have HB := J
    clear A B D E J
    (try clear hb)
    (try clear aJ)
    (try clear hk)
    (try clear hi)
    refine hK.out _ _ ⟨(blk_cell c.out 0).trans rfl, (blk_cell c.out 1).trans rfl, (blk_cell c.out 2).trans rfl, (blk_cell c.out 3).trans rfl, (blk_cell c.out 4).trans rfl, (blk_cell c.out 5).trans rfl⟩ (fun hHeld => ?_)
    clear hK K
    refine norm_ (a' := ?_) ?_ ?_
    rotate_left
    ·show Act.put _ (some 26) _ = _
     simp only [Act.put, sA, sB, sC, i64_w, i32_w]
     rfl
    refine pure_ (i := 5) (N := some 27) (v := ?_) (a' := ?_) (bv 8 63) rfl rfl (any_of HT_.out (by kernel_rfl)) (fun _ _ _ h => h) (Or.inl ⟨by rfl, ?_⟩) ?_ ?_
    rotate_left
    ·intro w'
     go_simp
     with_reducible rfl
    rotate_left
    ·simp only [Act.put, sA, sB, sC, i64_w, i32_w]
     rfl
    refine pure_ (i := 6) (N := some 28) (v := ?_) (a' := ?_) (bv 8 127) rfl rfl (any_of HT_.out (by kernel_rfl)) (fun _ _ _ h => h) (Or.inl ⟨by rfl, ?_⟩) ?_ ?_
    rotate_left
    ·intro w'
     go_simp
     with_reducible rfl
    rotate_left
    ·simp only [Act.put, sA, sB, sC, i64_w, i32_w]
     rfl
    refine one_ (i := 7) (N := none) (bv 8 255) rfl rfl (one_of HT_.out (by kernel_rfl)) (by decide) (fun K hK => ?_)
    have d0 : dn.cell? ⟨z, 3, none⟩ = some (.int .i64 U) := (blk_cell m.out 3).trans rfl
    have dy := blk_frozen m.out 3
    have c0 := q.out
    have c2 := O.out
    have cY := T.out
    have cZ := ab.out
    refine skip_ (w1 := ?_) (by rfl) rfl ?_ ?_
    rotate_left
    ·go_simp
     rfl
    refine hK.out _ _ ⟨((cell_far (p := ⟨z, _, none⟩) q.out _).trans (hHeld.1)), ((cell_far (p := ⟨z, _, none⟩) q.out _).trans (hHeld.2.1)), ((cell_far (p := ⟨z, _, none⟩) q.out _).trans (hHeld.2.2.1)), ((cell_far (p := ⟨z, _, none⟩) q.out _).trans (hHeld.2.2.2.1)), ((cell_far (p := ⟨z, _, none⟩) q.out _).trans (hHeld.2.2.2.2.1)), ((cell_far (p := ⟨z, _, none⟩) q.out _).trans (hHeld.2.2.2.2.2))⟩ (fun hHeld => ?_)
    clear hK K
    refine done_ (done_of HT_.out (by kernel_rfl)) ?_
    have dF := T.out
    have dO := q.out
    have dG := ab.out
    have dP := O.out
    obtain ⟨ch, ci, cj, ck, cl, cm, cM, cN, cO, cP, cQ, cR⟩ := cells6 m.out
    have dH := aa.out
    have dQ := Y.out
    obtain ⟨cn, co, cp, cq, cr, ct, cS, cT, cU, cV, cW, cX⟩ := cells6 d.out
    obtain ⟨au, av, bX⟩ := Kd.R_slice HO_672002.out
    subst bX
    try go_wp2
    refine bodyPost_ret (results_cell_row rfl _ _ P 24 #[.int .i64 F, .int .i64 G, .slice au a.length av, .int .i64 af, .bool L, .bool M] (0, 0) _ rfl (by (with_reducible repeat apply pK); refine blk_put (cs := #[.int .i64 F, .int .i64 G, .slice au a.length av, .int .i64 af, .bool L, .bool false]) ?_ 5 _ rfl; (with_reducible repeat apply pK); refine blk_put (cs := #[.int .i64 F, .int .i64 G, .slice au a.length av, .int .i64 af, .bool false, .bool false]) ?_ 4 _ rfl; (with_reducible repeat apply pK); refine blk_put (cs := #[.int .i64 F, .int .i64 G, .slice au a.length av, .int .i64 0, .bool false, .bool false]) ?_ 3 _ rfl; (with_reducible repeat apply pK); refine blk_put (cs := #[.int .i64 F, .int .i64 G, .slice none 0 0, .int .i64 0, .bool false, .bool false]) ?_ 2 _ rfl; (with_reducible repeat apply pK); refine blk_put (cs := #[.int .i64 F, .int .i64 0, .slice none 0 0, .int .i64 0, .bool false, .bool false]) ?_ 1 _ rfl; (with_reducible repeat apply pK); refine blk_put (cs := #[.int .i64 0, .int .i64 0, .slice none 0 0, .int .i64 0, .bool false, .bool false]) ?_ 0 _ rfl; (with_reducible repeat apply pK); refine blk_far ?_ O.out _; (with_reducible repeat apply pK); exact d.out) Tryd.underlying24 rfl (by kernel_rfl)) rfl ?_
    exact ⟨_, by first | rfl | (simp [errW_none, errW_some] <;> rfl) | (simp only [← ae]; first | rfl | (simp [errW_none, errW_some] <;> rfl)) | (simp [*, errW_none, errW_some] <;> rfl), by (with_reducible repeat apply pR); exact Kd.R_mono (f6R P (Kd.R_far (p := ⟨z, 3, none⟩) (Kd.R_types (Kd.R_types HO_672002.out m.out (by decide)) d.out (by decide)) (fun _ hk => hk.1.2) (.int .i64 af)) (fun _ hk => hk.2)) (fun _ hk => trivial), bl_⟩

end Go.Proofs.YtggecanpjkpkiaaDoor.P
