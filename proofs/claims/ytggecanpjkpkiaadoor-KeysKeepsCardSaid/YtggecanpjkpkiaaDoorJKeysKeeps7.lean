/- Printed walks of the law's functions, joined by joinpx.py: each function as a plain Lean function, and that Go's code comes to its answer. -/
import Derived.Test.YtggecanpjkpkiaaDoorJKeysKeeps1
import Derived.Test.YtggecanpjkpkiaaDoorPx3
import Derived.Test.YtggecanpjkpkiaaDoorJKeysKeeps3
import Derived.Test.YtggecanpjkpkiaaDoorJKeysKeeps5
import Derived.Test.YtggecanpjkpkiaaDoorJKeysKeeps4
namespace Go.Proofs.YtggecanpjkpkiaaDoor.P
open Go.RowKit Go.Proofs.YtggecanpjkpkiaaDoorW.PrintWords Go.Proofs.YtggecanpjkpkiaaDoorW.PrintLast Go.Proofs.YtggecanpjkpkiaaDoorW.PrintMore
attribute [local go_sem] max2_int min2_int max_two min_two max_three min_three max_four min_four
attribute [local go_sem] Instr.field asAgg
set_option linter.unusedVariables false
set_option linter.unusedSimpArgs false
set_option maxHeartbeats 8000000
set_option maxRecDepth 100000
def wipe_Wipes.f (a0 : Int) : Option (Bool) := if a0 ≥ 12 then (some (decide (a0 ≤ 14))) else (some false)
theorem wipe_Wipes.calls (a0 : Int) (r : Bool) (w : World) (h : wipe_Wipes.f a0 = some r) :
  Calls Tryd.prog 29 #[.int .i64 a0] w fun e w' => e = .returned (.bool r) ∧ Drawn0 w w' := by
 have H : (if a0 ≥ 12 then (some (decide (a0 ≤ 14))) else (some false)) = some r := h
 clear h
 by_cases c2 : a0 ≥ 12
 ·rw [if_pos c2] at H
  have a : decide (12 ≤ a0) = true := decide_eq_true c2
  clear c2
  obtain rfl := Option.some.inj H
  go_enter Tryd.func29, Tryd.ntmps29
  go_wp2
  go_ret
  exact ⟨dn_, dr_⟩
 ·rw [if_neg c2] at H
  have a : decide (12 ≤ a0) = false := decide_eq_false c2
  clear c2
  obtain rfl := Option.some.inj H
  go_enter Tryd.func29, Tryd.ntmps29
  go_wp2
  go_ret
  exact ⟨dn_, dr_⟩
section
def resetC (all : Bool) (c : S35) : S35 := if (all || !c.f1.f0) = true then ⟨c.f0, ⟨c.f1.f0, c.f1.f1, c.f1.f2, false⟩, c.f2⟩ else c
def resetN (all : Bool) (l : List S35) (i : Nat) : List S35 := (l.take i).map (resetC all) ++ l.drop i
theorem resetN_len (all : Bool) (l : List S35) (i : Nat) : (resetN all l i).length = l.length := by simp only [resetN, List.length_append, List.length_map, List.length_take, List.length_drop]; omega
theorem resetN_rd (all : Bool) (l : List S35) (x : Int) (a : x < l.length) : rd_T35 (resetN all l x.toNat) x = rd_T35 l x := by
 simp only [rd_T35, resetN, List.getD_eq_getElem?_getD]
 rw [List.getElem?_append_right (by simp only [List.length_map, List.length_take]; omega), List.length_map, List.length_take, List.getElem?_drop]
 congr 2; omega
theorem resetN_step (all : Bool) (l : List S35) (i : Nat) (hi : i < l.length) : resetN all l (i + 1) = (resetN all l i).set i (resetC all l[i]) := by
 unfold resetN
 rw [List.take_succ_eq_append_getElem hi, List.map_append, List.set_append_right _ _ (by simp only [List.length_map, List.length_take]; omega), List.drop_eq_getElem_cons hi, List.length_map, List.length_take, show i - min i l.length = 0 by omega]
 simp only [List.map_cons, List.map_nil, List.append_assoc, sB, List.cons_append, List.nil_append]
theorem resetN_next (all : Bool) (l : List S35) (x : Int) (a : 0 ≤ x) (b : x < l.length) : resetN all l (x + 1).toNat = (resetN all l x.toNat).set x.toNat (resetC all (rd_T35 l x)) := by
 obtain ⟨i, rfl⟩ := Int.eq_ofNat_of_zero_le a
 have hi : i < l.length := by omega
 have e : rd_T35 l (i : Int) = l[i] := by simp [rd_T35, hi]
 rw [e, show ((i : Int) + 1).toNat = i + 1 by omega, show (i : Int).toNat = i by omega, resetN_step all l i hi]
theorem resetN_keep (all : Bool) (l : List S35) (x : Int) (a : 0 ≤ x) (b : x < l.length) (hk : resetC all (rd_T35 l x) = rd_T35 l x) : resetN all l (x + 1).toNat = resetN all l x.toNat := by
 rw [resetN_next all l x a b, hk, ← resetN_rd all l x b]
 obtain ⟨i, rfl⟩ := Int.eq_ofNat_of_zero_le a
 have hi : i < (resetN all l i).length := by rw [resetN_len]; omega
 simp [rd_T35, hi]
theorem resetN_end (all : Bool) (l : List S35) (i : Nat) (h : l.length ≤ i) : resetN all l i = l.map (resetC all) := by
 unfold resetN; rw [List.take_of_length_le h, List.drop_eq_nil_of_le h, List.append_nil]
theorem R_offo {α : Type} {d : Kd α} {e base : Nat} {ok : Nat → Prop} {v : Value} {xs : List α} {w w1 : World} {g : Nat} (h : Kd.R d e w base ok v xs) (hE : d.E = []) (hne : some g ≠ v.ownBlock) (hm : ∀ k, k ≠ g → w1.heap[k]? = w.heap[k]?) : Kd.R d e w1 base ok v xs :=
 Kd.R_mono (Kd.R_step (Kd.R_tight hE h) (fun k hk _ => hm k (fun e_ => hne (by rw [← e_]; exact hk)))) (fun k hk => h.1 k hk.symm)
theorem own_new {α : Type} {d : Kd α} {e base g : Nat} {ok : Nat → Prop} {v : Value} {xs : List α} {w : World} (h : Kd.R d e w base ok v xs) (hg : g = w.heap.size) : some g ≠ v.ownBlock := fun hk => by
 have := own_lt h.2.choose_spec.1 g hk.symm
 omega
def host_Reset.f (b : Int) (c : Int) (a : List (S35)) (d : Int) (e : Bool) (g : Bool) (a1 : Bool) : Option (Int × Int × (List (S35)) × Int × Bool × Bool) := if a.length ≤ 16383 then some (b, c, a.map (resetC a1), d, e, g) else none
theorem host_Reset.calls (s : Int) (u : Int) (W : Option Addr) (X : Nat) (d : List (S35)) (y : Int) (z : Bool) (A : Bool) (a1 : Bool) (r1 : Int) (r2 : Int) (r3 : List (S35)) (r4 : Int) (r5 : Bool) (r6 : Bool) (w : World) (ac : Kd.C k35 w W d.length d) (ab : d.length ≤ X) (h : host_Reset.f s u d y z A a1 = some (r1, r2, r3, r4, r5, r6)) :
  Calls Tryd.prog 66 #[.agg #[.int .i64 s, .int .i64 u, .slice W d.length X, .int .i64 y, .bool z, .bool A], .bool a1] w fun e w' => ∃ am : Value, e = .returned (.agg #[.int .i64 r1, .int .i64 r2, am, .int .i64 r4, .bool r5, .bool r6]) ∧ Kd.R k35 35 w' w.heap.size (fun _ => True) am r3 ∧ Below w.heap.size w w' := by
 unfold host_Reset.f at h
 by_cases hn : d.length ≤ 16383
 ·rw [if_pos hn] at h
  simp only [Option.some.injEq, Prod.mk.injEq] at h
  obtain ⟨rfl, rfl, rfl, rfl, rfl, rfl⟩ := h
  have HR := Z ac
  have HL := Z ab
  have HN := Z hn
  have HC := Z (show grid_Copy.f s u d y z A = some (s, u, d, y, z, A) by unfold grid_Copy.f slices_Clone_shutter_api_Cell_shutter_api_Cell.f; rw [if_pos hn]; rfl)
  have HB := Z (Below.refl w.heap.size w)
  have hu := Tryd.underlying24
  have aK := Tryd.underlying35
  clear ac ab hn
  go_enter Tryd.func66, Tryd.ntmps66
  go_wp2_with (first
   | ((with_reducible refine gate_dst (N := 2) rfl ?_); refine bx_ 2 24 #[.int .i64 s, .int .i64 u, .slice W d.length X, .int .i64 y, .bool z, .bool A] ?_; intro g1 hg w1 hbox hb; have i := bs_ hb; have k := Z hbox; have l := Z (le_new hg (below_size bl_) : w.heap.size ≤ g1); clear HB; have HB := i; have a := k; have aI := l; clear i k l hb hbox hg)
   | ((with_reducible refine gate_dst (N := 4) rfl ?_); refine bx_ 4 24 #[.int .i64 0, .int .i64 0, .slice none 0 0, .int .i64 0, .bool false, .bool false] ?_; intro g2 hg w2 hbox hb; have i := kb' a hb; have k := bs_ hb; have l := Z hbox; have n := Z (le_new hg (below_size bl_) : w.heap.size ≤ g2); have B := nl' a hg; clear a HB; have a := i; have HB := k; have g := l; have aJ := n; have NB := B; clear i k l n B hb hbox hg; have hnb := NB.out; have hnc := NB.out.symm; obtain ⟨z0, z1, z2, z3, z4, z5, y0, y1, y2, y3, y4, y5⟩ := cells6 a.out)
   | ((with_reducible refine gate_callee (f := 61) rfl ?_); refine goesL_ (some 8) rfl rfl Tryd.func61 (by kernel_rfl) rfl #[.agg #[.int .i64 s, .int .i64 u, .slice W d.length X, .int .i64 y, .bool z, .bool A]] rfl ag_ ?_; (with_reducible refine (grid_Copy.calls s u _ _ d y z A s u d y z A _ ?side1 ?side2 HC.out).mono ?_); (case side1 => exact Kd.C_below HR.out HB.out); (case side2 => exact HL.out); rintro e w3 ⟨v1, rfl, al, hb⟩; refine ⟨_, rfl, ?_⟩; have HO := Z (Kd.R_lower al (below_size bl_)); replace a := kb' a hb; replace g := kb' g hb; replace HB := bs_ hb; clear al hb; obtain ⟨x0, x1, x2, x3, x4, x5, q0, q1, q2, q3, q4, q5⟩ := cells6 a.out; obtain ⟨Ao, co, eo⟩ := Kd.R_slice HO.out; subst eo))
  go_loopg [12] d.length (fun m av w' => ∃ x : Int, av = .int .i64 x ∧ Aside0 (0 ≤ x) ∧ Aside0 (x + (m : Int) = d.length) ∧ Aside0 (Kd.R k35 35 w' w.heap.size (fun _ => True) (.slice Ao d.length co) (resetN a1 d x.toNat)) ∧ Aside0 (w'.heap[g1]? = some (.cells #[.int .i64 s, .int .i64 u, .slice Ao d.length co, .int .i64 y, .bool z, .bool A] 24 (0, 0))) ∧ Aside0 (w'.heap[g2]? = some (.cells #[.int .i64 0, .int .i64 0, .slice none 0 0, .int .i64 0, .bool false, .bool false] 24 (0, 0))) ∧ Aside0 (Below w.heap.size w w'))
  case atStart => exact ⟨0, by first | rfl | (simp; done), ⟨by omega⟩, ⟨by omega⟩, ⟨R_off HO.out a.out (by decide) off2_⟩, ⟨put6 a.out⟩, ⟨blk_off g.out hnc off2_⟩, ⟨bl_⟩⟩
  case round =>
   try clear x0 x1 x2 x3 x4 x5 q0 q1 q2 q3 q4 q5
   try clear z0 z1 z2 z3 z4 z5 y0 y1 y2 y3 y4 y5
   clear HO a g HB
   obtain ⟨x, rfl, H, XM, HO, a, g, HB⟩ := hrel
   have Y := H.out
   have hxm := XM.out
   obtain ⟨u0, u1, u2, u3, u4, u5, q0, q1, q2, q3, q4, q5⟩ := cells6 a.out
   by_cases c : x < (d.length : Int)
   ·have c0 : decide (x < (d.length : Int)) = true := decide_eq_true c
    have c1 : decide (0 ≤ x) = true := decide_eq_true Y
    cases gk with
    | zero => exact absurd c (by omega)
    | succ k1 =>
     have EN := Z (show x + 1 + ((k1 : Nat) : Int) = d.length by omega)
     have EW := Z (show wrap64 (x + 1) = x + 1 by have := HN.out; unfold wrap64; omega)
     have EX := Z c
     obtain ⟨ys, hys⟩ : ∃ ys, ys = resetN a1 d x.toNat := ⟨_, rfl⟩
     rw [← hys] at HO
     have YL := Z (show ys.length = d.length by rw [hys, resetN_len])
     have EY := Z hys
     have EC := Z (show rd_T35 ys x = rd_T35 d x by rw [hys]; exact resetN_rd a1 d x c)
     have hq : x < (d.length : Int) := c
     clear c hxm hys
     obtain ⟨go, co', eo', gb, gl, cl, HG⟩ := Kd.R_form HO.out (by have := YL.out; omega)
     (first | cases eo' | (injection eo' with ea_ en_ ec_; (first | subst ea_ | (injection ea_ with ea_; subst ea_)); subst ec_; clear en_))
     have GB := Z gb
     clear gb gl HG
     obtain ⟨ce, hcl, hM, hcc, hfr⟩ := Kd.R_elem HO.out z35 x Y hq
     obtain rfl := k35_openM hM
     obtain ⟨v, hv⟩ : ∃ v, v = ys.getD x.toNat z35 := ⟨_, rfl⟩
     rw [← hv] at hcc hM
     have EV := Z (show v = rd_T35 d x from hv.trans EC.out)
     obtain ⟨I, ⟨b, J, b3, b4⟩, b5⟩ := v
     have hx_0 : wr.cell? ⟨go, (x : Int).toNat * 6, none⟩ = some (.bool I) := hcc 0 _ rfl
     have hx_1 : wr.cell? ⟨go, (x : Int).toNat * 6 + 1, none⟩ = some (.bool b) := hcc 1 _ rfl
     have hx_2 : wr.cell? ⟨go, (x : Int).toNat * 6 + 2, none⟩ = some (.bool J) := hcc 2 _ rfl
     have hx_3 : wr.cell? ⟨go, (x : Int).toNat * 6 + 3, none⟩ = some (.int .i64 b3) := hcc 3 _ rfl
     have hx_4 : wr.cell? ⟨go, (x : Int).toNat * 6 + 4, none⟩ = some (.bool b4) := hcc 4 _ rfl
     have hx_5 : wr.cell? ⟨go, (x : Int).toNat * 6 + 5, none⟩ = some (.int .u8 b5) := hcc 5 _ rfl
     clear hcl hcc hfr hM hv
     replace Y := eq_true Y
     replace hq := eq_true hq
     cases a1 <;> cases b
     ·go_wp2_with (first | ((with_reducible refine gate_dst (N := 6) rfl ?_); refine bx_ 6 35 #[.bool false, .bool false, .bool false, .int .i64 0, .bool false, .int .u8 0] ?_; intro q hg w6 hbox hb; have i := rb' HO hb; have k := kb' a hb; have l := kb' g hb; have n := bs_ hb; have r := Z hbox; have B := Z (le_new hg (below_size bl_) : w.heap.size ≤ q); have E := nl' a hg; have F := nl' g hg; have G := Z (own_new HO.out hg); clear HO a g HB hb hbox hg; have HO := i; have a := k; have g := l; have HB := n; have o := r; have ak := B; have K := E; have L := F; have M := G; clear i k l n r B E F G; obtain ⟨k0, D, k2, k3, k4, k5, O, P, Q, S, T, U⟩ := cells6 o.out) | ((with_reducible refine gate_store (t := 35) (p := 6) rfl ?_); refine sx_ 35 6 ((((((w6.setCell ⟨q, 0, none⟩ (.bool I)).setCell ⟨q, 1, none⟩ (.bool false)).setCell ⟨q, 2, none⟩ (.bool J)).setCell ⟨q, 3, none⟩ (.int .i64 b3)).setCell ⟨q, 4, none⟩ (.bool b4)).setCell ⟨q, 5, none⟩ (.int .u8 b5)) ?_; intro w7 hw; replace HO : Aside0 (Kd.R k35 35 w7 w.heap.size (fun _ => True) (.slice (some ⟨go, 0, none⟩) d.length co) ys) := ⟨by rw [hw]; exact R_offo HO.out rfl M.out off2_⟩; replace a : Aside0 (w7.heap[g1]? = some (.cells #[.int .i64 s, .int .i64 u, .slice (some ⟨go, 0, none⟩) d.length co, .int .i64 y, .bool z, .bool A] 24 (0, 0))) := ⟨by rw [hw]; exact blk_off a.out K.out off2_⟩; replace g : Aside0 (w7.heap[g2]? = some (.cells #[.int .i64 0, .int .i64 0, .slice none 0 0, .int .i64 0, .bool false, .bool false] 24 (0, 0))) := ⟨by rw [hw]; exact blk_off g.out L.out off2_⟩; replace o : Aside0 (w7.heap[q]? = some (.cells #[.bool I, .bool false, .bool J, .int .i64 b3, .bool b4, .int .u8 b5] 35 (0, 0))) := ⟨by rw [hw]; exact put6 o.out⟩; replace HB : Aside0 (Below w.heap.size w w7) := ⟨by rw [hw]; exact bl_⟩; clear hw k0 D k2 k3 k4 k5 O P Q S T U; obtain ⟨k0, D, k2, k3, k4, k5, O, P, Q, S, T, U⟩ := cells6 o.out; obtain ⟨u0, u1, u2, u3, u4, u5, q0, q1, q2, q3, q4, q5⟩ := cells6 a.out; obtain ⟨ce, hcl, hM, hcc, hfr⟩ := Kd.R_elem HO.out z35 x H.out EX.out; rw [show ys.getD x.toNat z35 = _ from EC.out.trans EV.out.symm] at hM; obtain rfl := k35_openM hM; have hy_4 := hcc 4 _ rfl; (try simp only [show (k35).sz = 6 from rfl] at hy_4); have hz_4 := hfr 4; (try simp only [show (k35).sz = 6 from rfl] at hz_4); have HP := Kd.R_seg HO.out x H.out EX.out (seg := [.bool false]) (j := 4) hcl hcc (show 5 ≤ 6 from by decide) (x' := (⟨I, ⟨false, J, b3, false⟩, b5⟩ : S35)) (k35_mkM _ _ _ _) (fun _ hk => hk); clear hcl hcc hfr hM) | ((with_reducible refine gate_store (t := 4) (p := 29) rfl ?_); refine sx_ 4 29 (w7.setCell ⟨go, (x : Int).toNat * 6 + 4, none⟩ (.bool false)) ?_; intro V hw; have hg : w7.grownBy V (some go) := (by rw [hw]; exact HP.2); have hp_ : Kd.R k35 35 V w.heap.size (fun _ => True) (.slice (some ⟨go, 0, none⟩) d.length co) (ys.set x.toNat (⟨I, ⟨false, J, b3, false⟩, b5⟩ : S35)) := (by rw [hw]; exact HP.1); clear HP; have i := Z hp_; have k := Z (blk_grown a.out hg (Kd.R_ne HO.out a.out (by decide))); have l := Z (blk_grown g.out hg (Kd.R_ne HO.out g.out (by decide))); have n : Aside0 (Below w.heap.size w V) := ⟨by rw [hw]; exact below_set HB.out GB.out⟩; clear HO a g o HB hg hw hp_; have HO := i; have a := k; have g := l; have HB := n; clear i k l n))
      go_roundg k1
      case measure => omega
      case rel => exact ⟨x + 1, by first | (rw [EW.out]; done) | rw [EW.out], ⟨by have := H.out; omega⟩, EN, ⟨by rw [resetN_next false d x H.out EX.out, ← EY.out, ← EV.out]; exact HO.out⟩, a, g, HB⟩
     ·go_wp2_with (first | ((with_reducible refine gate_dst (N := 6) rfl ?_); refine bx_ 6 35 #[.bool false, .bool false, .bool false, .int .i64 0, .bool false, .int .u8 0] ?_; intro q hg w6 hbox hb; have i := rb' HO hb; have k := kb' a hb; have l := kb' g hb; have n := bs_ hb; have r := Z hbox; have B := Z (le_new hg (below_size bl_) : w.heap.size ≤ q); have E := nl' a hg; have F := nl' g hg; have G := Z (own_new HO.out hg); clear HO a g HB hb hbox hg; have HO := i; have a := k; have g := l; have HB := n; have o := r; have ak := B; have K := E; have L := F; have M := G; clear i k l n r B E F G; obtain ⟨k0, D, k2, k3, k4, k5, O, P, Q, S, T, U⟩ := cells6 o.out) | ((with_reducible refine gate_store (t := 35) (p := 6) rfl ?_); refine sx_ 35 6 ((((((w6.setCell ⟨q, 0, none⟩ (.bool I)).setCell ⟨q, 1, none⟩ (.bool true)).setCell ⟨q, 2, none⟩ (.bool J)).setCell ⟨q, 3, none⟩ (.int .i64 b3)).setCell ⟨q, 4, none⟩ (.bool b4)).setCell ⟨q, 5, none⟩ (.int .u8 b5)) ?_; intro w7 hw; replace HO : Aside0 (Kd.R k35 35 w7 w.heap.size (fun _ => True) (.slice (some ⟨go, 0, none⟩) d.length co) ys) := ⟨by rw [hw]; exact R_offo HO.out rfl M.out off2_⟩; replace a : Aside0 (w7.heap[g1]? = some (.cells #[.int .i64 s, .int .i64 u, .slice (some ⟨go, 0, none⟩) d.length co, .int .i64 y, .bool z, .bool A] 24 (0, 0))) := ⟨by rw [hw]; exact blk_off a.out K.out off2_⟩; replace g : Aside0 (w7.heap[g2]? = some (.cells #[.int .i64 0, .int .i64 0, .slice none 0 0, .int .i64 0, .bool false, .bool false] 24 (0, 0))) := ⟨by rw [hw]; exact blk_off g.out L.out off2_⟩; replace o : Aside0 (w7.heap[q]? = some (.cells #[.bool I, .bool true, .bool J, .int .i64 b3, .bool b4, .int .u8 b5] 35 (0, 0))) := ⟨by rw [hw]; exact put6 o.out⟩; replace HB : Aside0 (Below w.heap.size w w7) := ⟨by rw [hw]; exact bl_⟩; clear hw k0 D k2 k3 k4 k5 O P Q S T U; obtain ⟨k0, D, k2, k3, k4, k5, O, P, Q, S, T, U⟩ := cells6 o.out; obtain ⟨u0, u1, u2, u3, u4, u5, q0, q1, q2, q3, q4, q5⟩ := cells6 a.out))
      go_roundg k1
      case measure => omega
      case rel => exact ⟨x + 1, by first | (rw [EW.out]; done) | rw [EW.out], ⟨by have := H.out; omega⟩, EN, ⟨by rw [resetN_keep false d x H.out EX.out (by rw [← EV.out]; rfl), ← EY.out]; exact HO.out⟩, a, g, HB⟩
     ·go_wp2_with (first | ((with_reducible refine gate_dst (N := 6) rfl ?_); refine bx_ 6 35 #[.bool false, .bool false, .bool false, .int .i64 0, .bool false, .int .u8 0] ?_; intro q hg w6 hbox hb; have i := rb' HO hb; have k := kb' a hb; have l := kb' g hb; have n := bs_ hb; have r := Z hbox; have B := Z (le_new hg (below_size bl_) : w.heap.size ≤ q); have E := nl' a hg; have F := nl' g hg; have G := Z (own_new HO.out hg); clear HO a g HB hb hbox hg; have HO := i; have a := k; have g := l; have HB := n; have o := r; have ak := B; have K := E; have L := F; have M := G; clear i k l n r B E F G; obtain ⟨k0, D, k2, k3, k4, k5, O, P, Q, S, T, U⟩ := cells6 o.out) | ((with_reducible refine gate_store (t := 35) (p := 6) rfl ?_); refine sx_ 35 6 ((((((w6.setCell ⟨q, 0, none⟩ (.bool I)).setCell ⟨q, 1, none⟩ (.bool false)).setCell ⟨q, 2, none⟩ (.bool J)).setCell ⟨q, 3, none⟩ (.int .i64 b3)).setCell ⟨q, 4, none⟩ (.bool b4)).setCell ⟨q, 5, none⟩ (.int .u8 b5)) ?_; intro w7 hw; replace HO : Aside0 (Kd.R k35 35 w7 w.heap.size (fun _ => True) (.slice (some ⟨go, 0, none⟩) d.length co) ys) := ⟨by rw [hw]; exact R_offo HO.out rfl M.out off2_⟩; replace a : Aside0 (w7.heap[g1]? = some (.cells #[.int .i64 s, .int .i64 u, .slice (some ⟨go, 0, none⟩) d.length co, .int .i64 y, .bool z, .bool A] 24 (0, 0))) := ⟨by rw [hw]; exact blk_off a.out K.out off2_⟩; replace g : Aside0 (w7.heap[g2]? = some (.cells #[.int .i64 0, .int .i64 0, .slice none 0 0, .int .i64 0, .bool false, .bool false] 24 (0, 0))) := ⟨by rw [hw]; exact blk_off g.out L.out off2_⟩; replace o : Aside0 (w7.heap[q]? = some (.cells #[.bool I, .bool false, .bool J, .int .i64 b3, .bool b4, .int .u8 b5] 35 (0, 0))) := ⟨by rw [hw]; exact put6 o.out⟩; replace HB : Aside0 (Below w.heap.size w w7) := ⟨by rw [hw]; exact bl_⟩; clear hw k0 D k2 k3 k4 k5 O P Q S T U; obtain ⟨k0, D, k2, k3, k4, k5, O, P, Q, S, T, U⟩ := cells6 o.out; obtain ⟨u0, u1, u2, u3, u4, u5, q0, q1, q2, q3, q4, q5⟩ := cells6 a.out; obtain ⟨ce, hcl, hM, hcc, hfr⟩ := Kd.R_elem HO.out z35 x H.out EX.out; rw [show ys.getD x.toNat z35 = _ from EC.out.trans EV.out.symm] at hM; obtain rfl := k35_openM hM; have hy_4 := hcc 4 _ rfl; (try simp only [show (k35).sz = 6 from rfl] at hy_4); have hz_4 := hfr 4; (try simp only [show (k35).sz = 6 from rfl] at hz_4); have HP := Kd.R_seg HO.out x H.out EX.out (seg := [.bool false]) (j := 4) hcl hcc (show 5 ≤ 6 from by decide) (x' := (⟨I, ⟨false, J, b3, false⟩, b5⟩ : S35)) (k35_mkM _ _ _ _) (fun _ hk => hk); clear hcl hcc hfr hM) | ((with_reducible refine gate_store (t := 4) (p := 29) rfl ?_); refine sx_ 4 29 (w7.setCell ⟨go, (x : Int).toNat * 6 + 4, none⟩ (.bool false)) ?_; intro V hw; have hg : w7.grownBy V (some go) := (by rw [hw]; exact HP.2); have hp_ : Kd.R k35 35 V w.heap.size (fun _ => True) (.slice (some ⟨go, 0, none⟩) d.length co) (ys.set x.toNat (⟨I, ⟨false, J, b3, false⟩, b5⟩ : S35)) := (by rw [hw]; exact HP.1); clear HP; have i := Z hp_; have k := Z (blk_grown a.out hg (Kd.R_ne HO.out a.out (by decide))); have l := Z (blk_grown g.out hg (Kd.R_ne HO.out g.out (by decide))); have n : Aside0 (Below w.heap.size w V) := ⟨by rw [hw]; exact below_set HB.out GB.out⟩; clear HO a g o HB hg hw hp_; have HO := i; have a := k; have g := l; have HB := n; clear i k l n))
      go_roundg k1
      case measure => omega
      case rel => exact ⟨x + 1, by first | (rw [EW.out]; done) | rw [EW.out], ⟨by have := H.out; omega⟩, EN, ⟨by rw [resetN_next true d x H.out EX.out, ← EY.out, ← EV.out]; exact HO.out⟩, a, g, HB⟩
     ·go_wp2_with (first | ((with_reducible refine gate_dst (N := 6) rfl ?_); refine bx_ 6 35 #[.bool false, .bool false, .bool false, .int .i64 0, .bool false, .int .u8 0] ?_; intro q hg w6 hbox hb; have i := rb' HO hb; have k := kb' a hb; have l := kb' g hb; have n := bs_ hb; have r := Z hbox; have B := Z (le_new hg (below_size bl_) : w.heap.size ≤ q); have E := nl' a hg; have F := nl' g hg; have G := Z (own_new HO.out hg); clear HO a g HB hb hbox hg; have HO := i; have a := k; have g := l; have HB := n; have o := r; have ak := B; have K := E; have L := F; have M := G; clear i k l n r B E F G; obtain ⟨k0, D, k2, k3, k4, k5, O, P, Q, S, T, U⟩ := cells6 o.out) | ((with_reducible refine gate_store (t := 35) (p := 6) rfl ?_); refine sx_ 35 6 ((((((w6.setCell ⟨q, 0, none⟩ (.bool I)).setCell ⟨q, 1, none⟩ (.bool true)).setCell ⟨q, 2, none⟩ (.bool J)).setCell ⟨q, 3, none⟩ (.int .i64 b3)).setCell ⟨q, 4, none⟩ (.bool b4)).setCell ⟨q, 5, none⟩ (.int .u8 b5)) ?_; intro w7 hw; replace HO : Aside0 (Kd.R k35 35 w7 w.heap.size (fun _ => True) (.slice (some ⟨go, 0, none⟩) d.length co) ys) := ⟨by rw [hw]; exact R_offo HO.out rfl M.out off2_⟩; replace a : Aside0 (w7.heap[g1]? = some (.cells #[.int .i64 s, .int .i64 u, .slice (some ⟨go, 0, none⟩) d.length co, .int .i64 y, .bool z, .bool A] 24 (0, 0))) := ⟨by rw [hw]; exact blk_off a.out K.out off2_⟩; replace g : Aside0 (w7.heap[g2]? = some (.cells #[.int .i64 0, .int .i64 0, .slice none 0 0, .int .i64 0, .bool false, .bool false] 24 (0, 0))) := ⟨by rw [hw]; exact blk_off g.out L.out off2_⟩; replace o : Aside0 (w7.heap[q]? = some (.cells #[.bool I, .bool true, .bool J, .int .i64 b3, .bool b4, .int .u8 b5] 35 (0, 0))) := ⟨by rw [hw]; exact put6 o.out⟩; replace HB : Aside0 (Below w.heap.size w w7) := ⟨by rw [hw]; exact bl_⟩; clear hw k0 D k2 k3 k4 k5 O P Q S T U; obtain ⟨k0, D, k2, k3, k4, k5, O, P, Q, S, T, U⟩ := cells6 o.out; obtain ⟨u0, u1, u2, u3, u4, u5, q0, q1, q2, q3, q4, q5⟩ := cells6 a.out; obtain ⟨ce, hcl, hM, hcc, hfr⟩ := Kd.R_elem HO.out z35 x H.out EX.out; rw [show ys.getD x.toNat z35 = _ from EC.out.trans EV.out.symm] at hM; obtain rfl := k35_openM hM; have hy_4 := hcc 4 _ rfl; (try simp only [show (k35).sz = 6 from rfl] at hy_4); have hz_4 := hfr 4; (try simp only [show (k35).sz = 6 from rfl] at hz_4); have HP := Kd.R_seg HO.out x H.out EX.out (seg := [.bool false]) (j := 4) hcl hcc (show 5 ≤ 6 from by decide) (x' := (⟨I, ⟨true, J, b3, false⟩, b5⟩ : S35)) (k35_mkM _ _ _ _) (fun _ hk => hk); clear hcl hcc hfr hM) | ((with_reducible refine gate_store (t := 4) (p := 29) rfl ?_); refine sx_ 4 29 (w7.setCell ⟨go, (x : Int).toNat * 6 + 4, none⟩ (.bool false)) ?_; intro V hw; have hg : w7.grownBy V (some go) := (by rw [hw]; exact HP.2); have hp_ : Kd.R k35 35 V w.heap.size (fun _ => True) (.slice (some ⟨go, 0, none⟩) d.length co) (ys.set x.toNat (⟨I, ⟨true, J, b3, false⟩, b5⟩ : S35)) := (by rw [hw]; exact HP.1); clear HP; have i := Z hp_; have k := Z (blk_grown a.out hg (Kd.R_ne HO.out a.out (by decide))); have l := Z (blk_grown g.out hg (Kd.R_ne HO.out g.out (by decide))); have n : Aside0 (Below w.heap.size w V) := ⟨by rw [hw]; exact below_set HB.out GB.out⟩; clear HO a g o HB hg hw hp_; have HO := i; have a := k; have g := l; have HB := n; clear i k l n))
      go_roundg k1
      case measure => omega
      case rel => exact ⟨x + 1, by first | (rw [EW.out]; done) | rw [EW.out], ⟨by have := H.out; omega⟩, EN, ⟨by rw [resetN_next true d x H.out EX.out, ← EY.out, ← EV.out]; exact HO.out⟩, a, g, HB⟩
   ·have c0 : decide (x < (d.length : Int)) = false := decide_eq_false c
    have EX := Z (show d.length ≤ x.toNat by omega)
    clear c hxm Y
    obtain ⟨s0, s1, s2, s3, s4, s5, p0, p1, p2, p3, p4, p5⟩ := cells6 g.out
    go_wp2
    refine bodyPost_ret (results_cell_row rfl _ _ g2 24 #[.int .i64 s, .int .i64 u, .slice Ao d.length co, .int .i64 y, .bool z, .bool A] (0, 0) _ rfl (put6 g.out) Tryd.underlying24 rfl (by kernel_rfl)) rfl ?_
    exact ⟨_, rfl, by rw [← resetN_end a1 d _ EX.out]; exact R_off HO.out g.out (by decide) off2_, bl_⟩
 ·rw [if_neg hn] at h; cases h
end
def grid_Size.f (b : Int) (c : Int) (a : List (S35)) (d : Int) (e : Bool) (g : Bool) : Option (Int) := some (a.length : Int)
theorem grid_Size.calls (c : Int) (d : Int) (b : Option Addr) (k : Nat) (a : List (S35)) (g : Int) (i : Bool) (j : Bool) (r : Int) (w : World) (n : Kd.C k35 w b a.length a) (m : a.length ≤ k) (h : grid_Size.f c d a g i j = some r) :
  Calls Tryd.prog 68 #[.agg #[.int .i64 c, .int .i64 d, .slice b a.length k, .int .i64 g, .bool i, .bool j]] w fun e w' => e = .returned (.int .i64 r) ∧ Below w.heap.size w w' := by
 have P := Tryd.underlying24
 have O := Z n
 have M := Z m
 clear n m
 have HB := Z (Below.refl w.heap.size w)
 have H : (some (a.length : Int)) = some r := h
 clear h
 obtain rfl := Option.some.inj H
 go_enter Tryd.func68, Tryd.ntmps68
 go_wp2_with (first | ((with_reducible refine gate_dst (N := 1) rfl ?_); refine bx_ 1 24 #[.int .i64 c, .int .i64 d, .slice b a.length k, .int .i64 g, .bool i, .bool j] ?_; intro l hg w2 hbox hb; have o := Z (hbox); have L := Z (ln_ hg : w.heap.size ≤ l); have K := L; replace HB := bs_ hb; clear hb hbox hg; obtain ⟨v, x, y, z, A, B, D, E, F, G, I, J⟩ := cells6 o.out))
 go_ret
 exact ⟨er_, bl_⟩
def wipe_all.l0 : Nat → Int → Int → Int → Int → List (S35) → Int → Bool → Bool → Int → Int → List (S35) → Int → Bool → Bool → Option (Int × Int × (List (S35)) × Int × Bool × Bool)
 | 0, _, _, _, _, _, _, _, _, _, _, _, _, _, _ => none
 | k + 1, r, x10, b, c, d, e, g, h, i, j, a, n, l, m => if x10 < r then ((field_Open.f b c d e g h x10).bind fun o => (if o = true then (if 0 ≤ x10 then (if x10 < (a.length : Int) then (wipe_all.l0 k r (wrap64 (x10 + 1)) b c d e g h i j (a.set (x10 : Int).toNat (⟨(rd_T35 a x10).f0, (⟨(rd_T35 a x10).f1.f0, (rd_T35 a x10).f1.f1, (rd_T35 a x10).f1.f2, (rd_T35 a x10).f1.f3⟩ : S33), 0⟩ : S35)) n l m) else (none)) else (none)) else (wipe_all.l0 k r (wrap64 (x10 + 1)) b c d e g h i j a n l m))) else ((grid_Size.f b c d e g h).bind fun p => ((field_Next.f b c d e g h (wrap64 (p - 1))).bind fun q => (some (i, j, a, mx 0 q, l, m))))
def wipe_all.f (k : Nat) (c : Int) (d : Int) (b : List (S35)) (e : Int) (g : Bool) (h : Bool) : Option (Int × Int × (List (S35)) × Int × Bool × Bool) := (host_Reset.f c d b e g h false).bind fun a => (wipe_all.l0 k (b.length : Int) 0 c d b e g h a.1 a.2.1 a.2.2.1 a.2.2.2.1 a.2.2.2.2.1 a.2.2.2.2.2)
theorem wipe_all.mono_l : ∀ k, (∀ f g i j l m n o p q a b c d, LeO (wipe_all.l0 k f g i j l m n o p q a b c d) (wipe_all.l0 (k + 1) f g i j l m n o p q a b c d))
 | 0 => fun _ _ _ _ _ _ _ _ _ _ _ _ _ _ r h => by simp [wipe_all.l0] at h
 | k + 1 => by
  have e := wipe_all.mono_l k
  ·intro f g i j l m n o p q a b c d
   unfold wipe_all.l0
   repeat' first
   | (with_reducible exact e _ _ _ _ _ _ _ _ _ _ _ _ _ _)
   | (with_reducible exact LeO.refl _)
   | (with_reducible exact LeO.none _)
   | (with_reducible refine LeO.ite ?_ ?_)
   | (with_reducible refine LeO.bind ?_ (fun _ => ?_))
   | exact e _ _ _ _ _ _ _ _ _ _ _ _ _ _
   | exact LeO.none _
   | refine LeO.ite ?_ ?_
   | refine LeO.bind ?_ (fun _ => ?_)
theorem wipe_all.mono : ∀ a0 a1 b c a4 d k, LeO (wipe_all.f k a0 a1 b c a4 d) (wipe_all.f (k + 1) a0 a1 b c a4 d) := by
 intro a0 a1 b c a4 d k
 have a := wipe_all.mono_l k
 unfold wipe_all.f
 repeat' first
   | (with_reducible exact a _ _ _ _ _ _ _ _ _ _ _ _ _ _)
   | (with_reducible exact LeO.refl _)
   | (with_reducible exact LeO.none _)
   | (with_reducible refine LeO.ite ?_ ?_)
   | (with_reducible refine LeO.bind ?_ (fun _ => ?_))
   | exact a _ _ _ _ _ _ _ _ _ _ _ _ _ _
   | exact LeO.none _
   | refine LeO.ite ?_ ?_
   | refine LeO.bind ?_ (fun _ => ?_)
def wipe_all.T8 : Bool × List (List Nat × List Nat) := (true, [([], []), ([], []), ([1], [1]), ([2], [2]), ([0, 3, 2], [0, 3]), ([4], [4]), ([0, 1, 2, 3, 4, 5], []), ([6, 5, 4, 0, 1, 2, 3, 4, 5], [5, 6])])
def wipe_all.B8 : List Nat := [0, 0, 2, 6, 15, 31, 63, 127]
theorem wipe_all.tab8 : rtab .any (opsOf Tryd.f43 8) = wipe_all.T8 := by kernel_rfl
theorem wipe_all.bits8 : waitsOk wipe_all.T8.2 wipe_all.B8 = true := by kernel_rfl
theorem wipe_all.calls (k : Nat) (r : Int) (s : Int) (V : Option Addr) (W : Nat) (l : List (S35)) (u : Int) (x : Bool) (y : Bool) (r1 : Int) (r2 : Int) (r3 : List (S35)) (r4 : Int) (r5 : Bool) (r6 : Bool) (w : World) (aN : Kd.C k35 w V l.length l) (aK : l.length ≤ W) (h : wipe_all.f k r s l u x y = some (r1, r2, r3, r4, r5, r6)) :
  Calls Tryd.prog 43 #[.agg #[.int .i64 r, .int .i64 s, .slice V l.length W, .int .i64 u, .bool x, .bool y]] w fun e w' => ∃ bU : Value, e = .returned (.agg #[.int .i64 r1, .int .i64 r2, bU, .int .i64 r4, .bool r5, .bool r6]) ∧ Kd.R k35 35 w' w.heap.size (fun _ => True) bU r3 ∧ Below w.heap.size w w' := by
 have d1 := Tryd.underlying24
 have ak := Z aN
 have ai := Z aK
 clear aN aK
 have HB := Z (Below.refl w.heap.size w)
 have H : ((host_Reset.f r s l u x y false).bind fun ag => (wipe_all.l0 k (l.length : Int) 0 r s l u x y ag.1 ag.2.1 ag.2.2.1 ag.2.2.2.1 ag.2.2.2.2.1 ag.2.2.2.2.2)) = some (r1, r2, r3, r4, r5, r6) := h
 clear h
 replace H := Option.bind_eq_some_iff.mp H
 obtain ⟨⟨F, G, aw, U, L, M⟩, bN, H⟩ := H
 replace H : (wipe_all.l0 k (l.length : Int) 0 r s l u x y F G aw U L M) = some (r1, r2, r3, r4, r5, r6) := H
 have A2 := Z bN
 clear bN
 have H' := Z H
 clear H
 go_enter Tryd.func43, Tryd.ntmps43
 go_wp2_with (first | ((with_reducible refine gate_dst (N := 1) rfl ?_); refine bx_ 1 24 #[.int .i64 r, .int .i64 s, .slice V l.length W, .int .i64 u, .bool x, .bool y] ?_; intro Q hg w3 hbox hb; have c := Z (hbox); have dt := Z (ln_ hg : w.heap.size ≤ Q); have dp := dt; replace HB := bs_ hb; clear hb hbox hg) | ((with_reducible refine gate_dst (N := 2) rfl ?_); refine bx_ 2 24 #[.int .i64 0, .int .i64 0, .slice none 0 0, .int .i64 0, .bool false, .bool false] ?_; intro P hg w4 hbox hb; have d := Z (hbox); have du := Z (ln_ hg : w.heap.size ≤ P); have dq := du; replace HB := bs_ hb; have Y := nl' c hg; have aa := ng' c hg; replace c := kb' c hb; clear hb hbox hg; have dW := Y.out; have dY := aa.out; obtain ⟨bo, bp, bq, br, bs, bt, bw, bx, bz, bA, bB, bC⟩ := cells6 c.out) | ((with_reducible refine gate_callee (f := 66) rfl ?_); refine goesL_ (some 6) rfl rfl Tryd.func66 (by kernel_rfl) rfl #[.agg #[.int .i64 r, .int .i64 s, .slice V l.length W, .int .i64 u, .bool x, .bool y], .bool false] rfl ag_ ?_; (with_reducible refine (host_Reset.calls r s _ _ l u x y false F G aw U L M _ ?side1 ?side2 A2.out).mono ?_); (case side1 => repeat (first | exact (Kd.C_below ak.out HB.out) | (with_reducible apply pC))); (case side2 => exact ai.out); rintro e w7 ⟨d8, rfl, bQ, hb⟩; refine ⟨_, rfl, ?_⟩; have aj := Z (Kd.R_lower bQ (below_size bl_)); replace c := kb' c hb; replace d := kb' d hb; replace HB := bs_ hb; (try clear hb); (try clear aJ); (try clear hk); (try clear hi); (try clear bQ)) | ((with_reducible refine gate_dst (N := 3) rfl ?_); refine bx_ 3 24 #[.int .i64 0, .int .i64 0, .slice none 0 0, .int .i64 0, .bool false, .bool false] ?_; intro z hg w8 hbox hb; replace aj := rb' aj hb; have m := Z (hbox); have dv := Z (ln_ hg : w.heap.size ≤ z); have dr := dv; replace HB := bs_ hb; have q := nl' c hg; have T := ng' c hg; replace c := kb' c hb; have O := nl' d hg; have ab := ng' d hg; replace d := kb' d hb; clear hb hbox hg; have dX := T.out; have dZ := q.out; have dz := ab.out; have dI := O.out; obtain ⟨aO, aP, aQ, aR, aS, aT, a0, a1, a2, a3, a4, a5⟩ := cells6 m.out; obtain ⟨bf, bj, bW⟩ := Kd.R_slice aj.out; subst bW; obtain ⟨aU, aV, aW, aX, aY, aZ, a6, a7, a8, a9, ba, bb⟩ := cells6 c.out))
 go_loopg [10] k (fun kq dm w' => ∃ (b : Int) (a : List (S35)) (u672002 : Value), dm = .int .i64 b ∧ Aside0 (wipe_all.l0 kq (l.length : Int) b r s l u x y F G a U L M = some (r1, r2, r3, r4, r5, r6)) ∧ Aside0 (kq ≤ k) ∧ Aside0 (Kd.R k35 35 w' w.heap.size (fun _ => True) u672002 a) ∧ Aside0 (w'.heap[Q]? = some (.cells #[.int .i64 r, .int .i64 s, (.slice V l.length W), .int .i64 u, .bool x, .bool y] 24 (0, 0))) ∧ Aside0 (w'.heap[P]? = some (.cells #[.int .i64 0, .int .i64 0, (.slice none 0 0), .int .i64 0, .bool false, .bool false] 24 (0, 0))) ∧ Aside0 (w'.heap[z]? = some (.cells #[.int .i64 F, .int .i64 G, u672002, .int .i64 U, .bool L, .bool M] 24 (0, 0))) ∧ Aside0 (Below w.heap.size w w'))
 case atStart => exact ⟨(0), (aw), (.slice bf aw.length bj), (dn_), H', ⟨Nat.le_refl _⟩, ⟨by (with_reducible repeat apply pR); exact Kd.R_mono (f6R z (Kd.R_types aj.out m.out (by decide)) (fun _ hk => hk.2)) (fun _ hk => trivial)⟩, ⟨blk_off c.out q.out off2_⟩, ⟨blk_off d.out O.out off2_⟩, ⟨put6 m.out⟩, ⟨bl_⟩⟩
 case round =>
  clear H'
  try clear c1
  try clear p2
  try clear c4
  try clear c5
  try clear c6
  try clear c9
  try clear c10
  try clear aO
  try clear aP
  try clear aQ
  try clear aR
  try clear aS
  try clear aT
  try clear aU
  try clear aV
  try clear aW
  try clear aX
  try clear aY
  try clear aZ
  try clear bo
  try clear bp
  try clear bq
  try clear br
  try clear bs
  try clear bt
  try clear a0
  try clear a1
  try clear a2
  try clear a3
  try clear a4
  try clear a5
  try clear a6
  try clear a7
  try clear a8
  try clear a9
  try clear ba
  try clear bb
  try clear bw
  try clear bx
  try clear bz
  try clear bA
  try clear bB
  try clear bC
  obtain ⟨b, a, u672002, rfl, HA, aF, HO_672002, c, d, m, HB⟩ := hrel
  cases gk with
  | zero => exact absurd HA.out (by simp [wipe_all.l0])
  | succ k1 =>
   have H := HA.out
   clear HA
   simp only [wipe_all.l0] at H
   by_cases ax : b < (l.length : Int)
   ·rw [if_pos ax] at H
    have bK : decide (b < (l.length : Int)) = true := decide_eq_true ax
    clear ax
    replace H := Option.bind_eq_some_iff.mp H
    obtain ⟨bH, bc, H⟩ := H
    replace H : (if bH = true then (if 0 ≤ b then (if b < (a.length : Int) then (wipe_all.l0 k1 (l.length : Int) (wrap64 (b + 1)) r s l u x y F G (a.set (b : Int).toNat (⟨(rd_T35 a b).f0, (⟨(rd_T35 a b).f1.f0, (rd_T35 a b).f1.f1, (rd_T35 a b).f1.f2, (rd_T35 a b).f1.f3⟩ : S33), 0⟩ : S35)) U L M) else (none)) else (none)) else (wipe_all.l0 k1 (l.length : Int) (wrap64 (b + 1)) r s l u x y F G a U L M)) = some (r1, r2, r3, r4, r5, r6) := H
    have bM := Z bc
    clear bc
    by_cases aG : bH = true
    ·subst aG
     have H1 : (if 0 ≤ b then (if b < (a.length : Int) then (wipe_all.l0 k1 (l.length : Int) (wrap64 (b + 1)) r s l u x y F G (a.set (b : Int).toNat (⟨(rd_T35 a b).f0, (⟨(rd_T35 a b).f1.f0, (rd_T35 a b).f1.f1, (rd_T35 a b).f1.f2, (rd_T35 a b).f1.f3⟩ : S33), 0⟩ : S35)) U L M) else (none)) else (none)) = some (r1, r2, r3, r4, r5, r6) := by rw [if_pos rfl] at H; exact H
     clear H
     have H := H1
     clear H1
     by_cases aH : 0 ≤ b
     ·rw [if_pos aH] at H
      have dw : decide (0 ≤ b) = true := decide_eq_true aH
      clear aH
      by_cases aI : b < (a.length : Int)
      ·rw [if_pos aI] at H
       have dx : decide (b < (a.length : Int)) = true := decide_eq_true aI
       clear aI
       obtain ⟨aE, al⟩ : ∃ y_ : List (S35), y_ = (a.set (b : Int).toNat (⟨(rd_T35 a b).f0, (⟨(rd_T35 a b).f1.f0, (rd_T35 a b).f1.f1, (rd_T35 a b).f1.f2, (rd_T35 a b).f1.f3⟩ : S33), 0⟩ : S35)) := ⟨_, rfl⟩
       replace H : (wipe_all.l0 k1 (l.length : Int) (wrap64 (b + 1)) r s l u x y F G aE U L M) = some (r1, r2, r3, r4, r5, r6) := by first | (rw [al]; with_reducible exact H) | (have bg := (Option.bind_some _ _).symm.trans H; rw [al]; with_reducible exact bg) | (have bg := (Option.bind_some _ _).symm.trans H; with_reducible exact bg) | with_reducible exact H | (rw [al]; exact H) | exact H
       have bJ := Z al
       clear al
       have H' := Z H
       clear H
       have dA := Y.out
       have dJ := aa.out
       have dB := q.out
       have dK := T.out
       obtain ⟨bZ, b0, b1, b2, b3, b4, cu, cv, cw, cx, cy, cz⟩ := cells6 c.out
       go_wp2_with (first | ((with_reducible refine gate_callee (f := 44) rfl ?_); refine goesL_ (some 15) rfl rfl Tryd.func44 (by kernel_rfl) rfl #[.agg #[.int .i64 r, .int .i64 s, .slice V l.length W, .int .i64 u, .bool x, .bool y], .int .i64 b] rfl ag_ ?_; (with_reducible refine (field_Open.calls r s _ _ l u x y b true _ ?side1 ?side2 bM.out).mono ?_); (case side1 => repeat (first | exact (Kd.C_below ak.out HB.out) | (with_reducible apply pC))); (case side2 => exact ai.out); rintro e X ⟨rfl, hb⟩; refine ⟨_, rfl, ?_⟩; replace HO_672002 := rb' HO_672002 hb; replace c := kb' c hb; replace d := kb' d hb; replace m := kb' m hb; replace HB := bs_ hb; (try clear hb); (try clear aJ); (try clear hk); (try clear hi); have dC := ab.out; have dL := O.out; obtain ⟨b5, b6, b7, b8, b9, ca, cA, cB, cC, cD, cE, cF⟩ := cells6 m.out; have bF : 0 ≤ (b : Int) := od_; have bG : (b : Int) < ((a.length : Int) : Int) := od_; obtain ⟨I, ay, bk, bl, bY, dV, bh⟩ := Kd.R_form HO_672002.out (by omega); (first | cases bk | (injection bk with ea_ en_ ec_; (first | subst ea_ | (injection ea_ with ea_; subst ea_)); subst ec_; clear en_)); have bV := Z bl; have dS := Z bh; clear bl bY bh; obtain ⟨dT, bL, bm, ac, ad⟩ := Kd.R_elem HO_672002.out z35 (b : Int) bF bG; obtain rfl := k35_openM bm; have dg : X.cell? ⟨I, (b : Int).toNat * 6, none⟩ = some (.bool ((rd_T35 a b).f0)) := ac 0 _ rfl; have dh : X.cell? ⟨I, (b : Int).toNat * 6 + 1, none⟩ = some (.bool ((rd_T35 a b).f1.f0)) := ac 1 _ rfl; have di : X.cell? ⟨I, (b : Int).toNat * 6 + 2, none⟩ = some (.bool ((rd_T35 a b).f1.f1)) := ac 2 _ rfl; have dj : X.cell? ⟨I, (b : Int).toNat * 6 + 3, none⟩ = some (.int .i64 ((rd_T35 a b).f1.f2)) := ac 3 _ rfl; have dk : X.cell? ⟨I, (b : Int).toNat * 6 + 4, none⟩ = some (.bool ((rd_T35 a b).f1.f3)) := ac 4 _ rfl; have dl : X.cell? ⟨I, (b : Int).toNat * 6 + 5, none⟩ = some (.int .u8 ((rd_T35 a b).f2)) := ac 5 _ rfl; have c3 : X.frozen? ⟨I, (b : Int).toNat * 6, none⟩ = false := ad 0; have c7 : X.frozen? ⟨I, (b : Int).toNat * 6 + 1, none⟩ = false := ad 1; have c8 : X.frozen? ⟨I, (b : Int).toNat * 6 + 2, none⟩ = false := ad 2; have da : X.frozen? ⟨I, (b : Int).toNat * 6 + 3, none⟩ = false := ad 3; have db : X.frozen? ⟨I, (b : Int).toNat * 6 + 4, none⟩ = false := ad 4; have dc : X.frozen? ⟨I, (b : Int).toNat * 6 + 5, none⟩ = false := ad 5; clear bL ac ad bm; replace bF := eq_true bF; replace bG := eq_true bG; have bi := Z (show Kd.R k35 35 X w.heap.size (fun _ => True) (.slice (some ⟨I, 0, none⟩) a.length ay) a from (by (with_reducible repeat apply pR); exact HO_672002.out)); obtain ⟨dU, aL, bn, az, aM⟩ := Kd.R_elem bi.out z35 (b : Int) (od_) (by have h_ : (b : Int) < ((a.length : Int) : Int) := od_; first | exact h_ | (have e_ := (Kd.R_reads' HO_672002.out).1; omega) | simpa using h_); obtain rfl := k35_openM bn; have aD := Kd.R_seg bi.out (b : Int) (od_) (by have h_ : (b : Int) < ((a.length : Int) : Int) := od_; first | exact h_ | (have e_ := (Kd.R_reads' HO_672002.out).1; omega) | simpa using h_) (seg := [.int .u8 0]) (j := 5) aL az (show 6 ≤ 6 from by decide) (x' := (⟨(rd_T35 a b).f0, (⟨(rd_T35 a b).f1.f0, (rd_T35 a b).f1.f1, (rd_T35 a b).f1.f2, (rd_T35 a b).f1.f3⟩ : S33), 0⟩ : S35)) (k35_mkM _ _ _ (⟨(rd_T35 a b).f0, (⟨(rd_T35 a b).f1.f0, (rd_T35 a b).f1.f1, (rd_T35 a b).f1.f2, (rd_T35 a b).f1.f3⟩ : S33), 0⟩ : S35) ) (fun _ hk => hk); have bD := az 5 _ rfl; (try simp only [show (k35).sz = 6 from rfl, Nat.mul_one, Nat.add_zero] at bD); have bu := aM 5; (try simp only [show (k35).sz = 6 from rfl, Nat.mul_one, Nat.add_zero] at bu); clear aL az aM bn) | ((with_reducible refine gate_store (t := 5) (p := 20) rfl ?_); refine sx_ 5 20 (X.setCell ⟨I, (b : Int).toNat * 6 + 5, none⟩ (.int .u8 0)) ?_; intro bI hw; have hg : X.grownBy bI (some I) := (by rw [hw]; exact aD.2); have hp_ : Kd.R k35 35 bI w.heap.size (fun _ => True) (.slice (some ⟨I, 0, none⟩) a.length ay) aE := (by rw [hw, bJ.out]; exact aD.1); clear aD; replace c := Z (blk_grown (g := Q) (o := .cells #[.int .i64 r, .int .i64 s, .slice V l.length W, .int .i64 u, .bool x, .bool y] 24 (0, 0)) (vK c.out) hg (Kd.R_ne HO_672002.out c.out (by decide))); replace d := Z (blk_grown (g := P) (o := .cells #[.int .i64 0, .int .i64 0, .slice none 0 0, .int .i64 0, .bool false, .bool false] 24 (0, 0)) (vK d.out) hg (Kd.R_ne HO_672002.out d.out (by decide))); replace m := Z (blk_grown (g := z) (o := .cells #[.int .i64 F, .int .i64 G, .slice (some ⟨I, 0, none⟩) a.length ay, .int .i64 U, .bool L, .bool M] 24 (0, 0)) (vK m.out) hg (Kd.R_ne HO_672002.out m.out (by decide))); replace HO_672002 := Z (hp_); replace HB := Z ((by rw [hw]; exact below_set (HB.out) bV.out : Below w.heap.size w bI)); clear hg hw hp_))
       go_roundg k1
       case measure => have := aF.out; omega
       case rel => exact ⟨(wrap64 (b + 1)), (aE), (.slice (some ⟨I, 0, none⟩) a.length ay), (dn_), H', ⟨by have := aF.out; omega⟩, ⟨by (with_reducible repeat apply pR); exact HO_672002.out⟩, ⟨vK c.out⟩, ⟨vK d.out⟩, ⟨vK m.out⟩, ⟨bl_⟩⟩
      ·rw [if_neg aI] at H
       exact absurd H (by simp)
     ·rw [if_neg aH] at H
      exact absurd H (by simp)
    ·replace aG := Bool.eq_false_iff.mpr aG
     subst aG
     have H1 : (wipe_all.l0 k1 (l.length : Int) (wrap64 (b + 1)) r s l u x y F G a U L M) = some (r1, r2, r3, r4, r5, r6) := by rw [if_neg (show ¬ (false = true) by decide)] at H; exact H
     clear H
     have H := H1
     clear H1
     have H' := Z H
     clear H
     have dD := Y.out
     have dM := aa.out
     have dE := q.out
     have dN := T.out
     obtain ⟨cb, cc, cd, ce, cf, cg, cG, cH, cI, cJ, cK, cL⟩ := cells6 c.out
     go_wp2_with (first | ((with_reducible refine gate_callee (f := 44) rfl ?_); refine goesL_ (some 15) rfl rfl Tryd.func44 (by kernel_rfl) rfl #[.agg #[.int .i64 r, .int .i64 s, .slice V l.length W, .int .i64 u, .bool x, .bool y], .int .i64 b] rfl ag_ ?_; (with_reducible refine (field_Open.calls r s _ _ l u x y b false _ ?side1 ?side2 bM.out).mono ?_); (case side1 => repeat (first | exact (Kd.C_below ak.out HB.out) | (with_reducible apply pC))); (case side2 => exact ai.out); rintro e d9 ⟨rfl, hb⟩; refine ⟨_, rfl, ?_⟩; replace HO_672002 := rb' HO_672002 hb; replace c := kb' c hb; replace d := kb' d hb; replace m := kb' m hb; replace HB := bs_ hb; (try clear hb); (try clear aJ); (try clear hk); (try clear hi)))
     go_roundg k1
     case measure => have := aF.out; omega
     case rel => exact ⟨(wrap64 (b + 1)), (a), (u672002), (dn_), H', ⟨by have := aF.out; omega⟩, ⟨by (with_reducible repeat apply pR); exact HO_672002.out⟩, ⟨vK c.out⟩, ⟨vK d.out⟩, ⟨vK m.out⟩, ⟨bl_⟩⟩
   ·rw [if_neg ax] at H
    have bK : decide (b < (l.length : Int)) = false := decide_eq_false ax
    clear ax
    replace H := Option.bind_eq_some_iff.mp H
    obtain ⟨aA, bd, H⟩ := H
    replace H : ((field_Next.f r s l u x y (wrap64 (aA - 1))).bind fun ah => (some (F, G, a, mx 0 ah, L, M))) = some (r1, r2, r3, r4, r5, r6) := H
    have bO := Z bd
    clear bd
    replace H := Option.bind_eq_some_iff.mp H
    obtain ⟨ah, be, H⟩ := H
    replace H : (some (F, G, a, mx 0 ah, L, M)) = some (r1, r2, r3, r4, r5, r6) := H
    have bP := Z be
    clear be
    obtain ⟨af, ae⟩ : ∃ j_ : Int, (mx 0 ah) = j_ := ⟨_, rfl⟩
    replace H : (some (F, G, a, af, L, M)) = some (r1, r2, r3, r4, r5, r6) := by first | (rw [ae] at H; exact H) | (simp only [ae] at H ⊢; exact H)
    (try rw [ae] at bO)
    (try rw [ae] at bP)
    (try (have de : 0 ≤ af := by (rw [← ae]; unfold mx; (repeat' split) <;> omega)))
    (try (have df : 0 ≤ af := by omega))
    have dd : (if 0 < ah then ah else 0) = af := ae
    simp only [Option.some.injEq, Prod.mk.injEq] at H
    obtain ⟨rfl, rfl, rfl, rfl, rfl, rfl⟩ := H
    try go_wp2
    replace HO_672002 := Z (Kd.R_drew HO_672002.out)
    replace c := Z (blk_drew c.out)
    replace d := Z (blk_drew d.out)
    replace m := Z (blk_drew m.out)
    replace HB := Z (below_drew1 HB.out)
    refine start_ (n := 8) (S := fun w' => w'.cell? ⟨Q, 0, none⟩ = some (.int .i64 r) ∧ w'.cell? ⟨Q, 1, none⟩ = some (.int .i64 s) ∧ w'.cell? ⟨Q, 2, none⟩ = some (.slice V l.length W) ∧ w'.cell? ⟨Q, 3, none⟩ = some (.int .i64 u) ∧ w'.cell? ⟨Q, 4, none⟩ = some (.bool x) ∧ w'.cell? ⟨Q, 5, none⟩ = some (.bool y)) (ds := []) (bv 8 0) (by kernel_rfl) rfl rfl ⟨(blk_cell c.out 0).trans rfl, (blk_cell c.out 1).trans rfl, (blk_cell c.out 2).trans rfl, (blk_cell c.out 3).trans rfl, (blk_cell c.out 4).trans rfl, (blk_cell c.out 5).trans rfl⟩ (fun hHeld => ?_); refine with_tabW wipe_all.tab8 wipe_all.bits8 (fun HT_ HW_ => ?_)
    generalize wr.drew = ea at HO_672002 c d m HB hHeld ⊢
    refine tT_ HT_ HW_ hHeld 0 8 1 (some 22) ?_
    refine tT_ HT_ HW_ hHeld 1 8 3 (some 23) ?_
    refine oT_ HT_ 2 8 7 (some 24) (fun K hK => ?_)
    refine goes_ Tryd.func68 (by kernel_rfl) rfl #[.agg #[.int .i64 r, .int .i64 s, .slice V l.length W, .int .i64 u, .bool x, .bool y]] (by rfl) rfl rfl ag_ ?_
    with_reducible refine (grid_Size.calls r s _ _ l u x y aA _ ?side1 ?side2 bO.out).mono ?_
    (case side1 => repeat (first | exact (Kd.C_below ak.out HB.out) | (with_reducible apply pC)))
    (case side2 => exact ai.out)
    rintro e eb ⟨rfl, hb⟩
    refine ⟨_, rfl, ?_⟩
    replace HO_672002 := rb' HO_672002 hb
    replace c := kb' c hb
    replace d := kb' d hb
    replace m := kb' m hb
    replace HB := bs_ hb
    (try clear hb)
    (try clear aJ)
    (try clear hk)
    (try clear hi)
    refine hK.out _ _ ⟨(blk_cell c.out 0).trans rfl, (blk_cell c.out 1).trans rfl, (blk_cell c.out 2).trans rfl, (blk_cell c.out 3).trans rfl, (blk_cell c.out 4).trans rfl, (blk_cell c.out 5).trans rfl⟩ (fun hHeld => ?_)
    clear hK K
    refine nA_ (some 24) ?_
    refine pT_ HT_ 3 8 15 (some 25) ?_
    refine oT_ HT_ 4 8 31 (some 26) (fun K hK => ?_)
    refine goes_ Tryd.func67 (by kernel_rfl) rfl #[.agg #[.int .i64 r, .int .i64 s, .slice V l.length W, .int .i64 u, .bool x, .bool y], .int .i64 (wrap64 (aA - 1))] (by rfl) rfl rfl ag_ ?_
    with_reducible refine (field_Next.calls r s _ _ l u x y (wrap64 (aA - 1)) ah _ ?side1 ?side2 bP.out).mono ?_
    (case side1 => repeat (first | exact (Kd.C_below ak.out HB.out) | (with_reducible apply pC)))
    (case side2 => exact ai.out)
    rintro e dn ⟨rfl, hb⟩
    refine ⟨_, rfl, ?_⟩
    replace HO_672002 := rb' HO_672002 hb
    replace c := kb' c hb
    replace d := kb' d hb
    replace m := kb' m hb
    replace HB := bs_ hb
    (try clear hb)
    (try clear aJ)
    (try clear hk)
    (try clear hi)
    refine hK.out _ _ ⟨(blk_cell c.out 0).trans rfl, (blk_cell c.out 1).trans rfl, (blk_cell c.out 2).trans rfl, (blk_cell c.out 3).trans rfl, (blk_cell c.out 4).trans rfl, (blk_cell c.out 5).trans rfl⟩ (fun hHeld => ?_)
    clear hK K
    refine nA_ (some 26) ?_
    refine pT_ HT_ 5 8 63 (some 27) ?_
    refine pT_ HT_ 6 8 127 (some 28) ?_
    refine oT_ HT_ 7 8 255 none (fun K hK => ?_)
    have d0 : dn.cell? ⟨z, 3, none⟩ = some (.int .i64 U) := (blk_cell m.out 3).trans rfl
    have dy := blk_frozen m.out 3
    have c0 := q.out
    have c2 := O.out
    have cY := T.out
    have cZ := ab.out
    refine skip_ (w1 := ?_) (by rfl) rfl ?_ ?_
    rotate_left
    ·go_simp
     rfl
    refine hK.out _ _ ⟨((cell_far (p := ⟨z, _, none⟩) q.out _).trans (hHeld.1)), ((cell_far (p := ⟨z, _, none⟩) q.out _).trans (hHeld.2.1)), ((cell_far (p := ⟨z, _, none⟩) q.out _).trans (hHeld.2.2.1)), ((cell_far (p := ⟨z, _, none⟩) q.out _).trans (hHeld.2.2.2.1)), ((cell_far (p := ⟨z, _, none⟩) q.out _).trans (hHeld.2.2.2.2.1)), ((cell_far (p := ⟨z, _, none⟩) q.out _).trans (hHeld.2.2.2.2.2))⟩ (fun hHeld => ?_)
    clear hK K
    refine done_ (done_of HT_.out (by kernel_rfl)) ?_
    have dF := T.out
    have dO := q.out
    have dG := ab.out
    have dP := O.out
    obtain ⟨ch, ci, cj, ck, cl, cm, cM, cN, cO, cP, cQ, cR⟩ := cells6 m.out
    have dH := aa.out
    have dQ := Y.out
    obtain ⟨cn, co, cp, cq, cr, ct, cS, cT, cU, cV, cW, cX⟩ := cells6 d.out
    obtain ⟨au, av, bX⟩ := Kd.R_slice HO_672002.out
    subst bX
    try go_wp2
    refine bodyPost_ret (results_cell_row rfl _ _ P 24 #[.int .i64 F, .int .i64 G, .slice au a.length av, .int .i64 af, .bool L, .bool M] (0, 0) _ rfl (by (with_reducible repeat apply pK); refine blk_put (cs := #[.int .i64 F, .int .i64 G, .slice au a.length av, .int .i64 af, .bool L, .bool false]) ?_ 5 _ rfl; (with_reducible repeat apply pK); refine blk_put (cs := #[.int .i64 F, .int .i64 G, .slice au a.length av, .int .i64 af, .bool false, .bool false]) ?_ 4 _ rfl; (with_reducible repeat apply pK); refine blk_put (cs := #[.int .i64 F, .int .i64 G, .slice au a.length av, .int .i64 0, .bool false, .bool false]) ?_ 3 _ rfl; (with_reducible repeat apply pK); refine blk_put (cs := #[.int .i64 F, .int .i64 G, .slice none 0 0, .int .i64 0, .bool false, .bool false]) ?_ 2 _ rfl; (with_reducible repeat apply pK); refine blk_put (cs := #[.int .i64 F, .int .i64 0, .slice none 0 0, .int .i64 0, .bool false, .bool false]) ?_ 1 _ rfl; (with_reducible repeat apply pK); refine blk_put (cs := #[.int .i64 0, .int .i64 0, .slice none 0 0, .int .i64 0, .bool false, .bool false]) ?_ 0 _ rfl; (with_reducible repeat apply pK); refine blk_far ?_ O.out _; (with_reducible repeat apply pK); exact d.out) Tryd.underlying24 rfl (by kernel_rfl)) rfl ?_
    exact ⟨_, by first | rfl | (simp [errW_none, errW_some] <;> rfl) | (simp only [← ae]; first | rfl | (simp [errW_none, errW_some] <;> rfl)) | (simp [*, errW_none, errW_some] <;> rfl), by (with_reducible repeat apply pR); exact Kd.R_mono (f6R P (Kd.R_far (p := ⟨z, 3, none⟩) (Kd.R_types (Kd.R_types HO_672002.out m.out (by decide)) d.out (by decide)) (fun _ hk => hk.1.2) (.int .i64 af)) (fun _ hk => hk.2)) (fun _ hk => trivial), bl_⟩
def wipe_Do.l0 : Nat → Int → List Int → List Int → Int → Int → Int → Int → List (S35) → Int → Bool → Bool → Int → Int → List (S35) → Int → Bool → Bool → Option (Int × Int × (List (S35)) × Int × Bool × Bool × Option Er × (List (S164)))
 | 0, _, _, _, _, _, _, _, _, _, _, _, _, _, _, _, _, _ => none
 | k + 1, s, q, c, r, a, l, m, d, n, o, p, f, g, b, h, i, j => if a < r then (if 0 ≤ a then (if a < (c.length : Int) then (if 0 ≤ (rd c a) then (if (rd c a) < (b.length : Int) then ((some (b.set ((rd c a) : Int).toNat (⟨(rd_T35 b (rd c a)).f0, (⟨(rd_T35 b (rd c a)).f1.f0, (rd_T35 b (rd c a)).f1.f1, (rd_T35 b (rd c a)).f1.f2, (rd_T35 b (rd c a)).f1.f3⟩ : S33), 0⟩ : S35) : List (S35))).bind fun e => (if s = 12 then (if (wrap64 (a + 1)) < (q.length : Int) then (if 0 ≤ (wrap64 (a + 1)) then (if 0 ≤ (rd q (wrap64 (a + 1))) then (if (rd q (wrap64 (a + 1))) < (d.length : Int) then (wipe_Do.l0 k s q c r (wrap64 (a + 1)) l m d n o p f g (e.set ((rd c a) : Int).toNat (⟨(rd_T35 e (rd c a)).f0, (⟨(rd_T35 e (rd c a)).f1.f0, (rd_T35 e (rd c a)).f1.f1, (rd_T35 e (rd c a)).f1.f2, (rd_T35 e (rd c a)).f1.f3⟩ : S33), (rd_T35 d (rd q (wrap64 (a + 1)))).f2⟩ : S35)) h i j) else (none)) else (none)) else (none)) else (wipe_Do.l0 k s q c r (wrap64 (a + 1)) l m d n o p f g e h i j)) else (wipe_Do.l0 k s q c r (wrap64 (a + 1)) l m d n o p f g e h i j))) else (none)) else (none)) else (none)) else (none)) else (some (f, g, b, h, i, j, none, ([] : List (S164))))
def wipe_Do.f (k : Nat) (d : Int) (e : Int) (h : List (S35)) (a : Int) (c : Bool) (g : Bool) (a1 : Int) : Option (Int × Int × (List (S35)) × Int × Bool × Bool × Option Er × (List (S164))) := (wipe_Wipes.f a1).bind fun m => (if m = true then (if c = true then (some (d, e, h, a, c, g, some (Er.num 7), ([] : List (S164)))) else (if a1 = 14 then ((wipe_all.f k d e h a c g).bind fun i => (some (i.1, i.2.1, i.2.2.1, i.2.2.2.1, i.2.2.2.2.1, i.2.2.2.2.2, none, ([] : List (S164))))) else ((field_Open.f d e h a c g a).bind fun n => (if n = true then ((edit_Line.f k d e h a c g a).bind fun l => ((edit_Modify.f d e h a c g a).bind fun j => (wipe_Do.l0 k a1 l l (l.length : Int) 0 d e h a c g j.1 j.2.1 j.2.2.1 j.2.2.2.1 j.2.2.2.2.1 j.2.2.2.2.2))) else ((edit_Deny.f d e h a c g (some (Er.num 8)) ([] : List (S164))).bind fun b => (some (b.1, b.2.1, b.2.2.1, b.2.2.2.1, b.2.2.2.2.1, b.2.2.2.2.2.1, b.2.2.2.2.2.2.1, b.2.2.2.2.2.2.2))))))) else (some (d, e, h, a, c, g, some (Er.num 1), ([] : List (S164)))))
theorem wipe_Do.mono_l : ∀ k, (∀ j l m n o p q s t u a b c d e f g, LeO (wipe_Do.l0 k j l m n o p q s t u a b c d e f g) (wipe_Do.l0 (k + 1) j l m n o p q s t u a b c d e f g))
 | 0 => fun _ _ _ _ _ _ _ _ _ _ _ _ _ _ _ _ _ r h => by simp [wipe_Do.l0] at h
 | k + 1 => by
  have i := wipe_Do.mono_l k
  ·intro j l m n o p q s t u a b c d e f g
   unfold wipe_Do.l0
   repeat' first
   | (with_reducible exact i _ _ _ _ _ _ _ _ _ _ _ _ _ _ _ _ _)
   | (with_reducible exact edit_Line.mono _ _ _ _ _ _ _ _)
   | (with_reducible exact wipe_all.mono _ _ _ _ _ _ _)
   | (with_reducible exact LeO.refl _)
   | (with_reducible exact LeO.none _)
   | (with_reducible refine LeO.ite ?_ ?_)
   | (with_reducible refine LeO.bind ?_ (fun _ => ?_))
   | exact i _ _ _ _ _ _ _ _ _ _ _ _ _ _ _ _ _
   | exact edit_Line.mono _ _ _ _ _ _ _ _
   | exact wipe_all.mono _ _ _ _ _ _ _
   | exact LeO.none _
   | refine LeO.ite ?_ ?_
   | refine LeO.bind ?_ (fun _ => ?_)
theorem wipe_Do.mono : ∀ a0 a1 b c a4 d e k, LeO (wipe_Do.f k a0 a1 b c a4 d e) (wipe_Do.f (k + 1) a0 a1 b c a4 d e) := by
 intro a0 a1 b c a4 d e k
 have a := wipe_Do.mono_l k
 unfold wipe_Do.f
 repeat' first
   | (with_reducible exact a _ _ _ _ _ _ _ _ _ _ _ _ _ _ _ _ _)
   | (with_reducible exact edit_Line.mono _ _ _ _ _ _ _ _)
   | (with_reducible exact wipe_all.mono _ _ _ _ _ _ _)
   | (with_reducible exact LeO.refl _)
   | (with_reducible exact LeO.none _)
   | (with_reducible refine LeO.ite ?_ ?_)
   | (with_reducible refine LeO.bind ?_ (fun _ => ?_))
   | exact a _ _ _ _ _ _ _ _ _ _ _ _ _ _ _ _ _
   | exact edit_Line.mono _ _ _ _ _ _ _ _
   | exact wipe_all.mono _ _ _ _ _ _ _
   | exact LeO.none _
   | refine LeO.ite ?_ ?_
   | refine LeO.bind ?_ (fun _ => ?_)
def wipe_Do.T16 : Bool × List (List Nat × List Nat) := (true, [([], []), ([0], [0]), ([], []), ([], []), ([3], [3]), ([], []), ([], []), ([6], [6]), ([5, 7], [5, 7]), ([8], [8]), ([4, 9], [4, 9]), ([10], [10]), ([11], [11]), ([1, 2, 0, 1, 2, 3, 4, 5, 6, 7, 8, 9, 10, 11, 12], [1, 2]), ([13, 0, 1, 2, 3, 4, 5, 6, 7, 8, 9, 10, 11, 12], [13]), ([14, 12, 0, 1, 2, 3, 4, 5, 6, 7, 8, 9, 10, 11, 12], [12, 14])])
def wipe_Do.B16 : List Nat := [0, 1, 0, 0, 8, 0, 0, 64, 224, 480, 1016, 2040, 4088, 8191, 16383, 32767]
theorem wipe_Do.tab16 : rtab .any (opsOf Tryd.f19 16) = wipe_Do.T16 := by kernel_rfl
theorem wipe_Do.bits16 : waitsOk wipe_Do.T16.2 wipe_Do.B16 = true := by kernel_rfl
theorem wipe_Do.calls (k : Nat) (x : Int) (y : Int) (an : Nat → Prop) (X : Option Addr) (Y : Nat) (s : List (S35)) (l : Int) (U : Bool) (z : Bool) (a1 : Int) (r1 : Int) (r2 : Int) (r3 : List (S35)) (r4 : Int) (r5 : Bool) (r6 : Bool) (r7 : Option Er) (r8 : List (S164)) (w : World) (fc : Kd.V k35 35 w w.heap.size (fun k_ => an k_) (.slice X s.length Y) s) (h : wipe_Do.f k x y s l U z a1 = some (r1, r2, r3, r4, r5, r6, r7, r8)) :
  Calls Tryd.prog 19 #[.agg #[.int .i64 x, .int .i64 y, .slice X s.length Y, .int .i64 l, .bool U, .bool z], .int .i64 a1] w fun e w' => ∃ fk fl : Value, e = .returned (.tuple #[.agg #[.int .i64 r1, .int .i64 r2, fk, .int .i64 r4, .bool r5, .bool r6], errW fl r7]) ∧ Kd.V k35 35 w' w.heap.size (fun k_ => (an k_ ∨ w.heap.size ≤ k_)) fk r3 ∧ Kd.V k164 164 w' w.heap.size (fun k_ => (an k_ ∨ w.heap.size ≤ k_)) fl r8 ∧ Below w.heap.size w w' := by
 have iT := Tryd.underlying24
 have iU := Tryd.underlying28
 have iV := Tryd.underlying52
 have m := Z (show Kd.V k35 35 w w.heap.size (fun k_ => (an k_ ∨ w.heap.size ≤ k_)) (.slice X s.length Y) s from Kd.V_mono fc (fun k_ hk => .inl hk))
 have HB := Z (Below.refl w.heap.size w)
 have H : ((wipe_Wipes.f a1).bind fun bC => (if bC = true then (if U = true then (some (x, y, s, l, U, z, some (Er.num 7), ([] : List (S164)))) else (if a1 = 14 then ((wipe_all.f k x y s l U z).bind fun W => (some (W.1, W.2.1, W.2.2.1, W.2.2.2.1, W.2.2.2.2.1, W.2.2.2.2.2, none, ([] : List (S164))))) else ((field_Open.f x y s l U z l).bind fun aC => (if aC = true then ((edit_Line.f k x y s l U z l).bind fun a => ((edit_Modify.f x y s l U z l).bind fun C => (wipe_Do.l0 k a1 a a (a.length : Int) 0 x y s l U z C.1 C.2.1 C.2.2.1 C.2.2.2.1 C.2.2.2.2.1 C.2.2.2.2.2))) else ((edit_Deny.f x y s l U z (some (Er.num 8)) ([] : List (S164))).bind fun B => (some (B.1, B.2.1, B.2.2.1, B.2.2.2.1, B.2.2.2.2.1, B.2.2.2.2.2.1, B.2.2.2.2.2.2.1, B.2.2.2.2.2.2.2))))))) else (some (x, y, s, l, U, z, some (Er.num 1), ([] : List (S164)))))) = some (r1, r2, r3, r4, r5, r6, r7, r8) := h
 clear h
 replace H := Option.bind_eq_some_iff.mp H
 obtain ⟨bC, fe, H⟩ := H
 replace H : (if bC = true then (if U = true then (some (x, y, s, l, U, z, some (Er.num 7), ([] : List (S164)))) else (if a1 = 14 then ((wipe_all.f k x y s l U z).bind fun W => (some (W.1, W.2.1, W.2.2.1, W.2.2.2.1, W.2.2.2.2.1, W.2.2.2.2.2, none, ([] : List (S164))))) else ((field_Open.f x y s l U z l).bind fun aC => (if aC = true then ((edit_Line.f k x y s l U z l).bind fun a => ((edit_Modify.f x y s l U z l).bind fun C => (wipe_Do.l0 k a1 a a (a.length : Int) 0 x y s l U z C.1 C.2.1 C.2.2.1 C.2.2.2.1 C.2.2.2.2.1 C.2.2.2.2.2))) else ((edit_Deny.f x y s l U z (some (Er.num 8)) ([] : List (S164))).bind fun B => (some (B.1, B.2.1, B.2.2.1, B.2.2.2.1, B.2.2.2.2.1, B.2.2.2.2.2.1, B.2.2.2.2.2.2.1, B.2.2.2.2.2.2.2))))))) else (some (x, y, s, l, U, z, some (Er.num 1), ([] : List (S164))))) = some (r1, r2, r3, r4, r5, r6, r7, r8) := H
 have A3 := Z fe
 clear fe
 by_cases c4 : bC = true
 ·subst c4
  have H1 : (if U = true then (some (x, y, s, l, U, z, some (Er.num 7), ([] : List (S164)))) else (if a1 = 14 then ((wipe_all.f k x y s l U z).bind fun W => (some (W.1, W.2.1, W.2.2.1, W.2.2.2.1, W.2.2.2.2.1, W.2.2.2.2.2, none, ([] : List (S164))))) else ((field_Open.f x y s l U z l).bind fun aC => (if aC = true then ((edit_Line.f k x y s l U z l).bind fun a => ((edit_Modify.f x y s l U z l).bind fun C => (wipe_Do.l0 k a1 a a (a.length : Int) 0 x y s l U z C.1 C.2.1 C.2.2.1 C.2.2.2.1 C.2.2.2.2.1 C.2.2.2.2.2))) else ((edit_Deny.f x y s l U z (some (Er.num 8)) ([] : List (S164))).bind fun B => (some (B.1, B.2.1, B.2.2.1, B.2.2.2.1, B.2.2.2.2.1, B.2.2.2.2.2.1, B.2.2.2.2.2.2.1, B.2.2.2.2.2.2.2))))))) = some (r1, r2, r3, r4, r5, r6, r7, r8) := by rw [if_pos rfl] at H; exact H
  clear H
  have H := H1
  clear H1
  by_cases c5 : U = true
  ·subst c5
   have H1 : (some (x, y, s, l, true, z, some (Er.num 7), ([] : List (S164)))) = some (r1, r2, r3, r4, r5, r6, r7, r8) := by rw [if_pos rfl] at H; exact H
   clear H
   have H := H1
   clear H1
   simp only [Option.some.injEq, Prod.mk.injEq] at H
   obtain ⟨rfl, rfl, rfl, rfl, rfl, rfl, rfl, rfl⟩ := H
   go_enter Tryd.func19, Tryd.ntmps19
   go_wp2_with (first | ((with_reducible refine gate_dst (N := 2) rfl ?_); (try (refine gate_guard (by rfl) ?_; dsimp only)); refine bx_ 2 24 #[.int .i64 x, .int .i64 y, .slice X s.length Y, .int .i64 l, .bool true, .bool z] ?_; intro J hg w6 hbox hb; replace m := Z (ve m.out hg hb); have d := Z (hbox); have a2 := Z (ln_ hg : w.heap.size ≤ J); have aS := a2; replace HB := bs_ hb; clear hb hbox hg) | ((with_reducible refine gate_dst (N := 4) rfl ?_); (try (refine gate_guard (by rfl) ?_; dsimp only)); refine bx_ 4 24 #[.int .i64 0, .int .i64 0, .slice none 0 0, .int .i64 0, .bool false, .bool false] ?_; intro r hg w7 hbox hb; replace m := Z (ve m.out hg hb); have q := Z (hbox); have a3 := Z (ln_ hg : w.heap.size ≤ r); have aT := a3; replace HB := bs_ hb; have ae := nl' d hg; have af := ng' d hg; replace d := kb' d hb; clear hb hbox hg) | ((with_reducible refine gate_callee (f := 29) rfl ?_); refine goesL_ (some 12) rfl rfl Tryd.func29 (by kernel_rfl) rfl #[.int .i64 a1] rfl ag_ ?_; (with_reducible refine (wipe_Wipes.calls a1 true _ A3.out).mono ?_); rintro e w' ⟨rfl, ⟨nd, rfl⟩⟩; refine ⟨_, rfl, ?_⟩; (try (rw [drewN_self w7]; generalize hq_ : World.drewN w7 _ = w7; replace m := Z (qV hq_ m.out); replace d := Z (qM hq_ d.out); replace q := Z (qM hq_ q.out); replace HB := Z (qB hq_ HB.out); clear hq_)); have iR := ae.out; have iS := af.out; obtain ⟨ei, ej, ek, el, em, en, ex, ey, ez, eA, eB, eC⟩ := cells6 d.out; obtain ⟨ct, cu, cv, cw, cx, cy, df, dg, dh, di, dj, dk⟩ := cells6 q.out))
   refine bodyPost_ret (results_ct rfl _ _ r 24 #[.int .i64 x, .int .i64 y, .slice X s.length Y, .int .i64 l, .bool true, .bool z] (0, 0) _ rfl (put6 q.out) Tryd.underlying24 rfl (by kernel_rfl)) rfl ?_
   exact ⟨_, _, er_, by (with_reducible repeat apply pV); exact Kd.V_mono (f6V r (Kd.V_mono m.out (fun k_ hk => (⟨hk, hk.2⟩ : _ ∧ k_ ≠ r))) (fun _ hk => hk.2)) (fun _ hk => hk.1.1.1), Kd.R_V (Kd.R_nil _ _ _ 0 _), bl_⟩
  ·replace c5 := Bool.eq_false_iff.mpr c5
   subst c5
   have H1 : (if a1 = 14 then ((wipe_all.f k x y s l false z).bind fun W => (some (W.1, W.2.1, W.2.2.1, W.2.2.2.1, W.2.2.2.2.1, W.2.2.2.2.2, none, ([] : List (S164))))) else ((field_Open.f x y s l false z l).bind fun aC => (if aC = true then ((edit_Line.f k x y s l false z l).bind fun a => ((edit_Modify.f x y s l false z l).bind fun C => (wipe_Do.l0 k a1 a a (a.length : Int) 0 x y s l false z C.1 C.2.1 C.2.2.1 C.2.2.2.1 C.2.2.2.2.1 C.2.2.2.2.2))) else ((edit_Deny.f x y s l false z (some (Er.num 8)) ([] : List (S164))).bind fun B => (some (B.1, B.2.1, B.2.2.1, B.2.2.2.1, B.2.2.2.2.1, B.2.2.2.2.2.1, B.2.2.2.2.2.2.1, B.2.2.2.2.2.2.2)))))) = some (r1, r2, r3, r4, r5, r6, r7, r8) := by rw [if_neg (show ¬ (false = true) by decide)] at H; exact H
   clear H
   have H := H1
   clear H1
   by_cases a0 : a1 = 14
   ·rw [if_pos a0] at H
    obtain ⟨ca, cb⟩ := eT_ a0
    clear a0
    replace H := Option.bind_eq_some_iff.mp H
    obtain ⟨⟨bD, bE, bF, bG, bH, bI⟩, dX, H⟩ := H
    replace H : (some (bD, bE, bF, bG, bH, bI, none, ([] : List (S164)))) = some (r1, r2, r3, r4, r5, r6, r7, r8) := H
    have hX := Z dX
    clear dX
    simp only [Option.some.injEq, Prod.mk.injEq] at H
    obtain ⟨rfl, rfl, rfl, rfl, rfl, rfl, rfl, rfl⟩ := H
    go_enter Tryd.func19, Tryd.ntmps19
    go_wp2_with (first | ((with_reducible refine gate_dst (N := 2) rfl ?_); (try (refine gate_guard (by rfl) ?_; dsimp only)); refine bx_ 2 24 #[.int .i64 x, .int .i64 y, .slice X s.length Y, .int .i64 l, .bool false, .bool z] ?_; intro J hg jh hbox hb; replace m := Z (ve m.out hg hb); have d := Z (hbox); have a2 := Z (ln_ hg : w.heap.size ≤ J); have aS := a2; replace HB := bs_ hb; clear hb hbox hg) | ((with_reducible refine gate_dst (N := 4) rfl ?_); (try (refine gate_guard (by rfl) ?_; dsimp only)); refine bx_ 4 24 #[.int .i64 0, .int .i64 0, .slice none 0 0, .int .i64 0, .bool false, .bool false] ?_; intro r hg bg hbox hb; replace m := Z (ve m.out hg hb); have q := Z (hbox); have a3 := Z (ln_ hg : w.heap.size ≤ r); have aT := a3; replace HB := bs_ hb; have ae := nl' d hg; have af := ng' d hg; replace d := kb' d hb; clear hb hbox hg) | ((with_reducible refine gate_callee (f := 29) rfl ?_); refine goesL_ (some 12) rfl rfl Tryd.func29 (by kernel_rfl) rfl #[.int .i64 a1] rfl ag_ ?_; (with_reducible refine (wipe_Wipes.calls a1 true _ A3.out).mono ?_); rintro e w' ⟨rfl, ⟨nd, rfl⟩⟩; refine ⟨_, rfl, ?_⟩; (try (rw [drewN_self bg]; generalize hq_ : World.drewN bg _ = bg; replace m := Z (qV hq_ m.out); replace d := Z (qM hq_ d.out); replace q := Z (qM hq_ q.out); replace HB := Z (qB hq_ HB.out); clear hq_)); have ie := ae.out; have iw := af.out; obtain ⟨cz, cA, cB, cC, cD, cE, dl, dm, dn, dp, dq, dr⟩ := cells6 d.out) | ((with_reducible refine gate_callee (f := 43) rfl ?_); refine goesL_ (some 25) rfl rfl Tryd.func43 (by kernel_rfl) rfl #[.agg #[.int .i64 x, .int .i64 y, .slice X s.length Y, .int .i64 l, .bool false, .bool z]] rfl ag_ ?_; (with_reducible refine (wipe_all.calls k x y _ _ s l false z bD bE bF bG bH bI _ ?side1 ?side2 hX.out).mono ?_); (case side1 => repeat (first | exact (Kd.V_reads' m.out).2.2 | (with_reducible apply pC))); (case side2 => exact (Kd.V_reads' m.out).2.1); rintro e ji ⟨iW, rfl, ay, hb⟩; refine ⟨_, rfl, ?_⟩; replace m := Z (Kd.V_elder' (vV m.out) (Kd.R_base ay) hb); have b8 := Z (Kd.R_lower (Kd.R_newM (M := fun k_ => (w.heap.size ≤ k_)) ay (below_size bl_) (fun k_ h_ => h_)) (below_size bl_)); replace d := kb' d hb; replace q := kb' q hb; replace HB := bs_ hb; clear hb ay; obtain ⟨cF, cG, cH, cI, cJ, cK, dt, du, dv, dw, dx, dy⟩ := cells6 q.out; obtain ⟨d3, ea, fq⟩ := Kd.R_slice b8.out; subst fq))
    refine bodyPost_ret (results_ct rfl _ _ r 24 #[.int .i64 bD, .int .i64 bE, .slice d3 bF.length ea, .int .i64 bG, .bool bH, .bool bI] (0, 0) _ rfl (put6 q.out) Tryd.underlying24 rfl (by kernel_rfl)) rfl ?_
    exact ⟨_, _, er_, Kd.V_mono (Kd.R_V (by (with_reducible repeat apply pR); exact Kd.R_mono (f6R r (Kd.R_types b8.out q.out (by decide)) (fun _ hk => hk.2)) (fun _ hk => hk.1.1))) (fun k_ hk => by first | exact ⟨(.inr (hk.1)), hk.2⟩ | exact (.inr (hk))), Kd.R_V (Kd.R_nil _ _ _ 0 _), bl_⟩
   ·rw [if_neg a0] at H
    obtain ⟨ca, cb⟩ := eF_ a0
    replace H := Option.bind_eq_some_iff.mp H
    obtain ⟨aC, dY, H⟩ := H
    replace H : (if aC = true then ((edit_Line.f k x y s l false z l).bind fun a => ((edit_Modify.f x y s l false z l).bind fun C => (wipe_Do.l0 k a1 a a (a.length : Int) 0 x y s l false z C.1 C.2.1 C.2.2.1 C.2.2.2.1 C.2.2.2.2.1 C.2.2.2.2.2))) else ((edit_Deny.f x y s l false z (some (Er.num 8)) ([] : List (S164))).bind fun B => (some (B.1, B.2.1, B.2.2.1, B.2.2.2.1, B.2.2.2.2.1, B.2.2.2.2.2.1, B.2.2.2.2.2.2.1, B.2.2.2.2.2.2.2)))) = some (r1, r2, r3, r4, r5, r6, r7, r8) := H
    have fd := Z dY
    clear dY
    by_cases bJ : aC = true
    ·subst bJ
     have H1 : ((edit_Line.f k x y s l false z l).bind fun a => ((edit_Modify.f x y s l false z l).bind fun C => (wipe_Do.l0 k a1 a a (a.length : Int) 0 x y s l false z C.1 C.2.1 C.2.2.1 C.2.2.2.1 C.2.2.2.2.1 C.2.2.2.2.2))) = some (r1, r2, r3, r4, r5, r6, r7, r8) := by rw [if_pos rfl] at H; exact H
     clear H
     have H := H1
     clear H1
     replace H := Option.bind_eq_some_iff.mp H
     obtain ⟨a, dZ, H⟩ := H
     replace H : ((edit_Modify.f x y s l false z l).bind fun C => (wipe_Do.l0 k a1 a a (a.length : Int) 0 x y s l false z C.1 C.2.1 C.2.2.1 C.2.2.2.1 C.2.2.2.2.1 C.2.2.2.2.2)) = some (r1, r2, r3, r4, r5, r6, r7, r8) := H
     have hY := Z dZ
     clear dZ
     replace H := Option.bind_eq_some_iff.mp H
     obtain ⟨⟨ai, aj, aR, ak, al, am⟩, d0, H⟩ := H
     replace H : (wipe_Do.l0 k a1 a a (a.length : Int) 0 x y s l false z ai aj aR ak al am) = some (r1, r2, r3, r4, r5, r6, r7, r8) := H
     have hZ := Z d0
     clear d0
     have H' := Z H
     clear H
     go_enter Tryd.func19, Tryd.ntmps19
     go_wp2_with (first | ((with_reducible refine gate_dst (N := 2) rfl ?_); (try (refine gate_guard (by rfl) ?_; dsimp only)); refine bx_ 2 24 #[.int .i64 x, .int .i64 y, .slice X s.length Y, .int .i64 l, .bool false, .bool z] ?_; intro J hg jj hbox hb; replace m := Z (ve m.out hg hb); have d := Z (hbox); have a2 := Z (ln_ hg : w.heap.size ≤ J); have aS := a2; replace HB := bs_ hb; clear hb hbox hg) | ((with_reducible refine gate_dst (N := 4) rfl ?_); (try (refine gate_guard (by rfl) ?_; dsimp only)); refine bx_ 4 24 #[.int .i64 0, .int .i64 0, .slice none 0 0, .int .i64 0, .bool false, .bool false] ?_; intro r hg bh hbox hb; replace m := Z (ve m.out hg hb); have q := Z (hbox); have a3 := Z (ln_ hg : w.heap.size ≤ r); have aT := a3; replace HB := bs_ hb; have ae := nl' d hg; have af := ng' d hg; replace d := kb' d hb; clear hb hbox hg) | ((with_reducible refine gate_callee (f := 29) rfl ?_); refine goesL_ (some 12) rfl rfl Tryd.func29 (by kernel_rfl) rfl #[.int .i64 a1] rfl ag_ ?_; (with_reducible refine (wipe_Wipes.calls a1 true _ A3.out).mono ?_); rintro e w' ⟨rfl, ⟨nd, rfl⟩⟩; refine ⟨_, rfl, ?_⟩; (try (rw [drewN_self bh]; generalize hq_ : World.drewN bh _ = bh; replace m := Z (qV hq_ m.out); replace d := Z (qM hq_ d.out); replace q := Z (qM hq_ q.out); replace HB := Z (qB hq_ HB.out); clear hq_)); have ig := ae.out; have ix := af.out; obtain ⟨cL, cM, cN, cO, cP, cQ, dz, dA, dB, dC, dD, dE⟩ := cells6 d.out) | ((with_reducible refine gate_callee (f := 44) rfl ?_); refine goesL_ (some 30) rfl rfl Tryd.func44 (by kernel_rfl) rfl #[.agg #[.int .i64 x, .int .i64 y, .slice X s.length Y, .int .i64 l, .bool false, .bool z], .int .i64 l] rfl ag_ ?_; (with_reducible refine (field_Open.calls x y _ _ s l false z l true _ ?side1 ?side2 fd.out).mono ?_); (case side1 => repeat (first | exact (Kd.V_reads' m.out).2.2 | (with_reducible apply pC))); (case side2 => exact (Kd.V_reads' m.out).2.1); rintro e jk ⟨rfl, hb⟩; refine ⟨_, rfl, ?_⟩; replace m := vb' m hb; replace d := kb' d hb; replace q := kb' q hb; replace HB := bs_ hb; clear hb; obtain ⟨cR, cS, cT, cU, cV, cW, dF, dG, dH, dI, dJ, dK⟩ := cells6 d.out) | ((with_reducible refine gate_callee (f := 26) rfl ?_); refine goesL_ (some 40) rfl rfl Tryd.func26 (by kernel_rfl) rfl #[.agg #[.int .i64 x, .int .i64 y, .slice X s.length Y, .int .i64 l, .bool false, .bool z], .int .i64 l] rfl ag_ ?_; (with_reducible refine (edit_Line.calls k x y _ _ s l false z l a _ ?side1 ?side2 hY.out).mono ?_); (case side1 => repeat (first | exact (Kd.V_reads' m.out).2.2 | (with_reducible apply pC))); (case side2 => exact (Kd.V_reads' m.out).2.1); rintro e jl ⟨iY, rfl, ay, hb⟩; refine ⟨_, rfl, ?_⟩; replace m := Z (Kd.V_elder' (vV m.out) (Kd.Q_base ay) hb); have aw := Z (Kd.Q_lower (Kd.Q_newM (M := fun k_ => (w.heap.size ≤ k_)) ay (below_size bl_) (fun k_ h_ => h_)) (below_size bl_)); replace d := kb' d hb; replace q := kb' q hb; replace HB := bs_ hb; clear hb ay; obtain ⟨cX, cY, cZ, c0, c6, c7, dL, dM, dN, dO, dP, dQ⟩ := cells6 d.out) | ((with_reducible refine gate_callee (f := 36) rfl ?_); refine goesL_ (some 44) rfl rfl Tryd.func36 (by kernel_rfl) rfl #[.agg #[.int .i64 x, .int .i64 y, .slice X s.length Y, .int .i64 l, .bool false, .bool z], .int .i64 l] rfl ag_ ?_; (with_reducible refine (edit_Modify.calls x y _ _ s l false z l ai aj aR ak al am _ ?side1 ?side2 hZ.out).mono ?_); (case side1 => repeat (first | exact (Kd.V_reads' m.out).2.2 | (with_reducible apply pC))); (case side2 => exact (Kd.V_reads' m.out).2.1); rintro e jm ⟨iZ, rfl, ay, hb⟩; refine ⟨_, rfl, ?_⟩; replace m := Z (Kd.V_elder' (vV m.out) (Kd.R_base ay) hb); replace aw := Z (Kd.Q_below (by (with_reducible repeat (first | apply Kd.Q_alloc | apply Kd.Q_drewN | apply Kd.Q_drew)); exact aw.out) hb); have aU := Z (Kd.R_lower (Kd.R_newM (M := fun k_ => (w.heap.size ≤ k_)) ay (below_size bl_) (fun k_ h_ => h_)) (below_size bl_)); replace d := kb' d hb; replace q := kb' q hb; replace HB := bs_ hb; clear hb ay) | ((with_reducible refine gate_dst (N := 7) rfl ?_); (try (refine gate_guard (by rfl) ?_; dsimp only)); refine bx_ 7 24 #[.int .i64 0, .int .i64 0, .slice none 0 0, .int .i64 0, .bool false, .bool false] ?_; intro I hg jn hbox hb; replace m := Z (ve m.out hg hb); replace aw := Z (Kd.Q_below (by (with_reducible repeat (first | apply Kd.Q_alloc | apply Kd.Q_drewN | apply Kd.Q_drew)); exact aw.out) hb); replace aU := rb' aU hb; have O := Z (hbox); have h6 := Z (ln_ hg : w.heap.size ≤ I); have e3 := h6; replace HB := bs_ hb; have ap := nl' d hg; have au := ng' d hg; replace d := kb' d hb; have aq := nl' q hg; have av := ng' q hg; replace q := kb' q hb; clear hb hbox hg; have ih := au.out; have iy := ap.out; have ii := av.out; have iz := aq.out; obtain ⟨c9, da, db, dc, dd, de, dR, dS, dT, dU, dV, dW⟩ := cells6 O.out; obtain ⟨a4, a7, fr⟩ := Kd.R_slice aU.out; subst fr; obtain ⟨bw, aB, fs, _⟩ := Kd.Q_slice aw.out; subst fs))
     go_loopg [47] k (fun kq h5 w' => ∃ (b : Int) (A : List (S35)) (c : List (S35)) (u677002 : Value) (u712002 : Value), h5 = .int .i64 b ∧ Aside0 (wipe_Do.l0 kq a1 a a (a.length : Int) b x y A l false z ai aj c ak al am = some (r1, r2, r3, r4, r5, r6, r7, r8)) ∧ Aside0 (kq ≤ k) ∧ Aside0 (Kd.Q (Kd.int .i64) 3 w' w.heap.size (fun k_ => (w.heap.size ≤ k_)) (.slice bw a.length aB) a) ∧ Aside0 (Kd.Q (Kd.int .i64) 3 w' w.heap.size (fun k_ => (w.heap.size ≤ k_)) (.slice bw a.length aB) a) ∧ Aside0 (Kd.V k35 35 w' w.heap.size (fun k_ => (an k_ ∨ w.heap.size ≤ k_) ∧ some k_ ≠ ((.slice bw a.length aB) : Value).ownBlock ∧ some k_ ≠ ((.slice bw a.length aB) : Value).ownBlock ∧ some k_ ≠ (u712002 : Value).ownBlock ∧ k_ ≠ J ∧ k_ ≠ r ∧ k_ ≠ I) u677002 A) ∧ Aside0 (Kd.R k35 35 w' w.heap.size (fun k_ => (w.heap.size ≤ k_)) u712002 c) ∧ Aside0 (w'.heap[J]? = some (.cells #[.int .i64 x, .int .i64 y, u677002, .int .i64 l, .bool false, .bool z] 24 (0, 0))) ∧ Aside0 (w'.heap[r]? = some (.cells #[.int .i64 0, .int .i64 0, (.slice none 0 0), .int .i64 0, .bool false, .bool false] 24 (0, 0))) ∧ Aside0 (w'.heap[I]? = some (.cells #[.int .i64 ai, .int .i64 aj, u712002, .int .i64 ak, .bool al, .bool am] 24 (0, 0))) ∧ Aside0 (Below w.heap.size w w'))
     case atStart => exact ⟨(0), (s), (aR), (.slice X s.length Y), (.slice a4 aR.length a7), (dn_), H', ⟨Nat.le_refl _⟩, ⟨by (with_reducible repeat (first | apply Kd.Q_alloc | apply Kd.Q_drewN | apply Kd.Q_drew)); exact Kd.Q_mono (Kd.Q_far (p := ⟨I, 5, none⟩) (Kd.Q_far (p := ⟨I, 4, none⟩) (Kd.Q_far (p := ⟨I, 3, none⟩) (Kd.Q_far (p := ⟨I, 2, none⟩) (Kd.Q_far (p := ⟨I, 1, none⟩) (Kd.Q_far (p := ⟨I, 0, none⟩) (Kd.Q_types aw.out O.out (by decide)) (fun _ hk => hk.2) (.int .i64 ai)) (fun _ hk => hk.2) (.int .i64 aj)) (fun _ hk => hk.2) (.slice a4 aR.length a7)) (fun _ hk => hk.2) (.int .i64 ak)) (fun _ hk => hk.2) (.bool al)) (fun _ hk => hk.2) (.bool am)) (fun _ hk => hk.1.1)⟩, ⟨by (with_reducible repeat (first | apply Kd.Q_alloc | apply Kd.Q_drewN | apply Kd.Q_drew)); exact Kd.Q_mono (Kd.Q_far (p := ⟨I, 5, none⟩) (Kd.Q_far (p := ⟨I, 4, none⟩) (Kd.Q_far (p := ⟨I, 3, none⟩) (Kd.Q_far (p := ⟨I, 2, none⟩) (Kd.Q_far (p := ⟨I, 1, none⟩) (Kd.Q_far (p := ⟨I, 0, none⟩) (Kd.Q_types aw.out O.out (by decide)) (fun _ hk => hk.2) (.int .i64 ai)) (fun _ hk => hk.2) (.int .i64 aj)) (fun _ hk => hk.2) (.slice a4 aR.length a7)) (fun _ hk => hk.2) (.int .i64 ak)) (fun _ hk => hk.2) (.bool al)) (fun _ hk => hk.2) (.bool am)) (fun _ hk => hk.1.1)⟩, ⟨by (with_reducible repeat apply pV); exact Kd.V_mono (f6V I (Kd.V_mono m.out (fun k_ hk => (⟨hk, hk.2⟩ : _ ∧ k_ ≠ I))) (fun _ hk => hk.2)) (fun _ hk => ⟨hk.1.1.1.1.1.1, ⟨hk.1.1.1.2, ⟨hk.1.1.1.2, ⟨hk.1.1.2, ⟨hk.1.1.1.1.1.2, ⟨hk.1.1.1.1.2, hk.1.2⟩⟩⟩⟩⟩⟩)⟩, ⟨by (with_reducible repeat apply pR); exact Kd.R_mono (f6R I (Kd.R_types aU.out O.out (by decide)) (fun _ hk => hk.2)) (fun _ hk => hk.1.1)⟩, ⟨blk_off d.out ap.out off2_⟩, ⟨blk_off q.out aq.out off2_⟩, ⟨put6 O.out⟩, ⟨bl_⟩⟩
     case round =>
      clear H'
      clear a0 ca cb cL cM cN cO cP cQ cR cS cT cU cV cW cX cY cZ c0 c6 c7 c9 da db dc dd de dz dA dB dC dD dE dF dG dH dI dJ dK dL dM dN dO dP dQ dR dS dT dU dV dW
      obtain ⟨b, A, c, u677002, u712002, rfl, HA, bk, HO_6, HO_45, HO_677002, HO_712002, d, q, O, HB⟩ := hrel
      cases gk with
      | zero => exact absurd HA.out (by simp [wipe_Do.l0])
      | succ k1 =>
       have H := HA.out
       clear HA
       simp only [wipe_Do.l0] at H
       by_cases bl : b < (a.length : Int)
       ·rw [if_pos bl] at H
        have e7 : decide (b < (a.length : Int)) = true := decide_eq_true bl
        clear bl
        by_cases cc : 0 ≤ b
        ·rw [if_pos cc] at H
         have h7 : decide (0 ≤ b) = true := decide_eq_true cc
         clear cc
         by_cases cd : b < (a.length : Int)
         ·rw [if_pos cd] at H
          have h8 : decide (b < (a.length : Int)) = true := decide_eq_true cd
          clear cd
          by_cases ce : 0 ≤ (rd a b)
          ·rw [if_pos ce] at H
           have h9 : decide (0 ≤ (rd a b)) = true := decide_eq_true ce
           clear ce
           by_cases cf : (rd a b) < (c.length : Int)
           ·rw [if_pos cf] at H
            have ia : decide ((rd a b) < (c.length : Int)) = true := decide_eq_true cf
            clear cf
            obtain ⟨T, aX⟩ : ∃ y_ : List (S35), y_ = (c.set ((rd a b) : Int).toNat (⟨(rd_T35 c (rd a b)).f0, (⟨(rd_T35 c (rd a b)).f1.f0, (rd_T35 c (rd a b)).f1.f1, (rd_T35 c (rd a b)).f1.f2, (rd_T35 c (rd a b)).f1.f3⟩ : S33), 0⟩ : S35)) := ⟨_, rfl⟩
            replace H : (if a1 = 12 then (if (wrap64 (b + 1)) < (a.length : Int) then (if 0 ≤ (wrap64 (b + 1)) then (if 0 ≤ (rd a (wrap64 (b + 1))) then (if (rd a (wrap64 (b + 1))) < (A.length : Int) then (wipe_Do.l0 k1 a1 a a (a.length : Int) (wrap64 (b + 1)) x y A l false z ai aj (T.set ((rd a b) : Int).toNat (⟨(rd_T35 T (rd a b)).f0, (⟨(rd_T35 T (rd a b)).f1.f0, (rd_T35 T (rd a b)).f1.f1, (rd_T35 T (rd a b)).f1.f2, (rd_T35 T (rd a b)).f1.f3⟩ : S33), (rd_T35 A (rd a (wrap64 (b + 1)))).f2⟩ : S35)) ak al am) else (none)) else (none)) else (none)) else (wipe_Do.l0 k1 a1 a a (a.length : Int) (wrap64 (b + 1)) x y A l false z ai aj T ak al am)) else (wipe_Do.l0 k1 a1 a a (a.length : Int) (wrap64 (b + 1)) x y A l false z ai aj T ak al am)) = some (r1, r2, r3, r4, r5, r6, r7, r8) := by first | (rw [aX]; with_reducible exact H) | (have a5 := (Option.bind_some _ _).symm.trans H; rw [aX]; with_reducible exact a5) | (have a5 := (Option.bind_some _ _).symm.trans H; with_reducible exact a5) | with_reducible exact H | (rw [aX]; exact H) | exact H
            have bx := Z aX
            clear aX
            by_cases a6 : a1 = 12
            ·rw [if_pos a6] at H
             obtain ⟨e8, e9⟩ := eT_ a6
             clear a6
             by_cases bm : (wrap64 (b + 1)) < (a.length : Int)
             ·rw [if_pos bm] at H
              have cg : decide ((wrap64 (b + 1)) < (a.length : Int)) = true := decide_eq_true bm
              clear bm
              obtain ⟨L, aW⟩ : ∃ j_ : Int, (wrap64 (b + 1)) = j_ := ⟨_, rfl⟩
              replace H : (if 0 ≤ (L) then (if 0 ≤ (rd a (L)) then (if (rd a (L)) < (A.length : Int) then (wipe_Do.l0 k1 a1 a a (a.length : Int) L x y A l false z ai aj (T.set ((rd a b) : Int).toNat (⟨(rd_T35 T (rd a b)).f0, (⟨(rd_T35 T (rd a b)).f1.f0, (rd_T35 T (rd a b)).f1.f1, (rd_T35 T (rd a b)).f1.f2, (rd_T35 T (rd a b)).f1.f3⟩ : S33), (rd_T35 A (rd a (L))).f2⟩ : S35)) ak al am) else (none)) else (none)) else (none)) = some (r1, r2, r3, r4, r5, r6, r7, r8) := by first | (rw [aW] at H; exact H) | (simp only [aW] at H ⊢; exact H)
              (try rw [aW] at cg)
              have h4 : (IntKind.i64.wrap (b + 1)) = L := (i64_w _).trans aW
              by_cases ch : 0 ≤ (L)
              ·rw [if_pos ch] at H
               have ib : decide (0 ≤ (L)) = true := decide_eq_true ch
               clear ch
               by_cases ci : 0 ≤ (rd a (L))
               ·rw [if_pos ci] at H
                have ic : decide (0 ≤ (rd a (L))) = true := decide_eq_true ci
                clear ci
                by_cases cj : (rd a (L)) < (A.length : Int)
                ·rw [if_pos cj] at H
                 have id : decide ((rd a (L)) < (A.length : Int)) = true := decide_eq_true cj
                 clear cj
                 obtain ⟨e2, aY⟩ : ∃ y_ : List (S35), y_ = (T.set ((rd a b) : Int).toNat (⟨(rd_T35 T (rd a b)).f0, (⟨(rd_T35 T (rd a b)).f1.f0, (rd_T35 T (rd a b)).f1.f1, (rd_T35 T (rd a b)).f1.f2, (rd_T35 T (rd a b)).f1.f3⟩ : S33), (rd_T35 A (rd a (L))).f2⟩ : S35)) := ⟨_, rfl⟩
                 replace H : (wipe_Do.l0 k1 a1 a a (a.length : Int) L x y A l false z ai aj e2 ak al am) = some (r1, r2, r3, r4, r5, r6, r7, r8) := by first | (rw [aY]; with_reducible exact H) | (have a5 := (Option.bind_some _ _).symm.trans H; rw [aY]; with_reducible exact a5) | (have a5 := (Option.bind_some _ _).symm.trans H; with_reducible exact a5) | with_reducible exact H | (rw [aY]; exact H) | exact H
                 have e5 := Z aY
                 clear aY
                 have H' := Z H
                 clear H
                 have az : 0 ≤ (b : Int) := od_
                 have aA : b < (a.length : Int) := od_
                 obtain ⟨ar, a8, bn⟩ := Kd.at_int (Kd.Q_reads' HO_45.out).2.2 b az aA
                 cases a8
                 replace az := eq_true az
                 replace aA := eq_true aA
                 have ij := au.out
                 have iA := ap.out
                 have ik := av.out
                 have iB := aq.out
                 obtain ⟨fG, fH, fI, fJ, fK, fL, gP, gQ, gR, gS, gT, gU⟩ := cells6 O.out
                 have p44 : 0 ≤ ((rd a b) : Int) := od_
                 have aQ : ((rd a b) : Int) < ((c.length : Int) : Int) := od_
                 obtain ⟨u, ac, aN, aO, a9, d9, aM⟩ := Kd.R_form HO_712002.out (by omega)
                 (first | cases aN | (injection aN with ea_ en_ ec_; (first | subst ea_ | (injection ea_ with ea_; subst ea_)); subst ec_; clear en_))
                 have aZ := Z aO
                 have ax := Z aM
                 clear aO a9 aM
                 obtain ⟨d8, aV, aP, aa, ab⟩ := Kd.R_elem HO_712002.out z35 ((rd a b) : Int) p44 aQ
                 obtain rfl := k35_openM aP
                 have bR : wr.cell? ⟨u, ((rd a b) : Int).toNat * 6, none⟩ = some (.bool ((rd_T35 c (rd a b)).f0)) := aa 0 _ rfl
                 have bS : wr.cell? ⟨u, ((rd a b) : Int).toNat * 6 + 1, none⟩ = some (.bool ((rd_T35 c (rd a b)).f1.f0)) := aa 1 _ rfl
                 have bT : wr.cell? ⟨u, ((rd a b) : Int).toNat * 6 + 2, none⟩ = some (.bool ((rd_T35 c (rd a b)).f1.f1)) := aa 2 _ rfl
                 have bU : wr.cell? ⟨u, ((rd a b) : Int).toNat * 6 + 3, none⟩ = some (.int .i64 ((rd_T35 c (rd a b)).f1.f2)) := aa 3 _ rfl
                 have bV : wr.cell? ⟨u, ((rd a b) : Int).toNat * 6 + 4, none⟩ = some (.bool ((rd_T35 c (rd a b)).f1.f3)) := aa 4 _ rfl
                 have bW : wr.cell? ⟨u, ((rd a b) : Int).toNat * 6 + 5, none⟩ = some (.int .u8 ((rd_T35 c (rd a b)).f2)) := aa 5 _ rfl
                 have bL : wr.frozen? ⟨u, ((rd a b) : Int).toNat * 6, none⟩ = false := ab 0
                 have bM : wr.frozen? ⟨u, ((rd a b) : Int).toNat * 6 + 1, none⟩ = false := ab 1
                 have bN : wr.frozen? ⟨u, ((rd a b) : Int).toNat * 6 + 2, none⟩ = false := ab 2
                 have bO : wr.frozen? ⟨u, ((rd a b) : Int).toNat * 6 + 3, none⟩ = false := ab 3
                 have bP : wr.frozen? ⟨u, ((rd a b) : Int).toNat * 6 + 4, none⟩ = false := ab 4
                 have bQ : wr.frozen? ⟨u, ((rd a b) : Int).toNat * 6 + 5, none⟩ = false := ab 5
                 clear aV aa ab aP
                 replace p44 := eq_true p44
                 replace aQ := eq_true aQ
                 have d5 := Z (show Kd.R k35 35 wr w.heap.size (fun k_ => (w.heap.size ≤ k_)) (.slice (some ⟨u, 0, none⟩) c.length ac) c from (by (with_reducible repeat apply pR); exact HO_712002.out))
                 obtain ⟨iN, cl, ee, bz, cp⟩ := Kd.R_elem d5.out z35 ((rd a b) : Int) (od_) (by have h_ : ((rd a b) : Int) < ((c.length : Int) : Int) := od_; first | exact h_ | (have e_ := (Kd.R_reads' HO_712002.out).1; omega) | simpa using h_)
                 obtain rfl := k35_openM ee
                 have bZ := Kd.R_seg d5.out ((rd a b) : Int) (od_) (by have h_ : ((rd a b) : Int) < ((c.length : Int) : Int) := od_; first | exact h_ | (have e_ := (Kd.R_reads' HO_712002.out).1; omega) | simpa using h_) (seg := [.int .u8 0]) (j := 5) cl bz (show 6 ≤ 6 from by decide) (x' := (⟨(rd_T35 c (rd a b)).f0, (⟨(rd_T35 c (rd a b)).f1.f0, (rd_T35 c (rd a b)).f1.f1, (rd_T35 c (rd a b)).f1.f2, (rd_T35 c (rd a b)).f1.f3⟩ : S33), 0⟩ : S35)) (k35_mkM _ _ _ (⟨(rd_T35 c (rd a b)).f0, (⟨(rd_T35 c (rd a b)).f1.f0, (rd_T35 c (rd a b)).f1.f1, (rd_T35 c (rd a b)).f1.f2, (rd_T35 c (rd a b)).f1.f3⟩ : S33), 0⟩ : S35) ) (fun _ hk => hk)
                 have eJ := bz 5 _ rfl
                 (try simp only [show (k35).sz = 6 from rfl, Nat.mul_one, Nat.add_zero] at eJ)
                 have eu := cp 5
                 (try simp only [show (k35).sz = 6 from rfl, Nat.mul_one, Nat.add_zero] at eu)
                 clear cl bz cp ee
                 try go_wp2_with (first | ((with_reducible refine gate_store (t := 5) (p := 56) rfl ?_); refine sx_ 5 56 (wr.setCell ⟨u, ((rd a b) : Int).toNat * 6 + 5, none⟩ (.int .u8 0)) ?_; intro bX hw; have hg : wr.grownBy bX (some u) := (by rw [hw]; exact bZ.2); have hp_ : Kd.R k35 35 bX w.heap.size (fun k_ => (w.heap.size ≤ k_)) (.slice (some ⟨u, 0, none⟩) c.length ac) T := (by rw [hw, bx.out]; exact bZ.1); clear bZ; replace HO_6 := Z (Kd.Q_over' (v := (.slice (some ⟨u, 0, none⟩) c.length ac)) (by (with_reducible repeat (first | apply Kd.Q_alloc | apply Kd.Q_drewN | apply Kd.Q_drew)); exact HO_6.out) (Kd.R_typed HO_712002.out) (by decide) hg); replace HO_45 := Z (Kd.Q_over' (v := (.slice (some ⟨u, 0, none⟩) c.length ac)) (by (with_reducible repeat (first | apply Kd.Q_alloc | apply Kd.Q_drewN | apply Kd.Q_drew)); exact HO_45.out) (Kd.R_typed HO_712002.out) (by decide) hg); replace HO_677002 := Z (Kd.V_afterv (v := (.slice (some ⟨u, 0, none⟩) c.length ac)) (v1 := (.slice (some ⟨u, 0, none⟩) c.length ac)) (ok := (fun k_ => (an k_ ∨ w.heap.size ≤ k_) ∧ some k_ ≠ (.slice (some ar) a.length aB : Value).ownBlock ∧ some k_ ≠ (.slice (some ar) a.length aB : Value).ownBlock ∧ k_ ≠ J ∧ k_ ≠ r ∧ k_ ≠ I)) (by (with_reducible repeat apply pV); exact Kd.V_mono HO_677002.out (fun _ hk => ⟨⟨hk.1, ⟨hk.2.1, ⟨hk.2.2.1, ⟨hk.2.2.2.2.1, ⟨hk.2.2.2.2.2.1, hk.2.2.2.2.2.2⟩⟩⟩⟩⟩, hk.2.2.2.1⟩)) hg (.inl rfl)); replace d := Z (blk_grown (g := J) (o := .cells #[.int .i64 x, .int .i64 y, u677002, .int .i64 l, .bool false, .bool z] 24 (0, 0)) (vK d.out) hg (Kd.R_ne HO_712002.out d.out (by decide))); replace q := Z (blk_grown (g := r) (o := .cells #[.int .i64 0, .int .i64 0, .slice none 0 0, .int .i64 0, .bool false, .bool false] 24 (0, 0)) (vK q.out) hg (Kd.R_ne HO_712002.out q.out (by decide))); replace O := Z (blk_grown (g := I) (o := .cells #[.int .i64 ai, .int .i64 aj, .slice (some ⟨u, 0, none⟩) c.length ac, .int .i64 ak, .bool al, .bool am] 24 (0, 0)) (vK O.out) hg (Kd.R_ne HO_712002.out O.out (by decide))); replace HO_712002 := Z (hp_); replace HB := Z ((by rw [hw]; exact below_set (HB.out) aZ.out : Below w.heap.size w bX)); (try (replace ax := Z (show bX.heap[u]? = some (.cells _ _ (0, 0)) by rw [hw]; exact blk_set ax.out _ _))); clear hg hw hp_))
                 replace HO_6 := Z (Kd.Q_drew HO_6.out)
                 replace HO_45 := Z (Kd.Q_drew HO_45.out)
                 replace HO_677002 := Z (Kd.V_drew HO_677002.out)
                 replace HO_712002 := Z (Kd.R_drew HO_712002.out)
                 replace d := Z (blk_drew d.out)
                 replace q := Z (blk_drew q.out)
                 replace O := Z (blk_drew O.out)
                 replace HB := Z (below_drew1 HB.out)
                 have b4 : 0 ≤ ((L) : Int) := od_
                 have b6 : (L) < (a.length : Int) := od_
                 obtain ⟨e6, fo, bo⟩ := Kd.at_int (Kd.Q_reads' HO_6.out).2.2 (L) b4 b6
                 obtain rfl : ar = e6 := (by injection fo)
                 replace b4 := eq_true b4
                 replace b6 := eq_true b6
                 obtain ⟨iL, eb, ec⟩ := Kd.V_slice HO_677002.out
                 (first | subst ec | (injection ec with ff h1 fg; have h2 := ff.symm; have h3 := fg.symm; clear ff h1 fg; subst h2; subst h3))
                 have b5 : 0 ≤ ((rd a (L)) : Int) := od_
                 have b7 : (rd a (L)) < (A.length : Int) := od_
                 obtain ⟨ao, fp, bp, bq, br, bs, bt, bu⟩ := at_T35 (Kd.V_reads' HO_677002.out).2.2 (rd a (L)) b5 b7
                 cases fp
                 replace b5 := eq_true b5
                 replace b7 := eq_true b7
                 have p51 : 0 ≤ ((rd a b) : Int) := od_
                 have eP : ((rd a b) : Int) < ((c.length : Int) : Int) := od_
                 obtain ⟨iM, fa, ed, aD, aE⟩ := Kd.R_elem HO_712002.out z35 ((rd a b) : Int) p51 eP
                 obtain rfl := k35_openM ed
                 have eD : World.cell? _ ⟨u, ((rd a b) : Int).toNat * 6, none⟩ = some (.bool ((rd_T35 T (rd a b)).f0)) := aD 0 _ rfl
                 have eE : World.cell? _ ⟨u, ((rd a b) : Int).toNat * 6 + 1, none⟩ = some (.bool ((rd_T35 T (rd a b)).f1.f0)) := aD 1 _ rfl
                 have eF : World.cell? _ ⟨u, ((rd a b) : Int).toNat * 6 + 2, none⟩ = some (.bool ((rd_T35 T (rd a b)).f1.f1)) := aD 2 _ rfl
                 have eG : World.cell? _ ⟨u, ((rd a b) : Int).toNat * 6 + 3, none⟩ = some (.int .i64 ((rd_T35 T (rd a b)).f1.f2)) := aD 3 _ rfl
                 have eH : World.cell? _ ⟨u, ((rd a b) : Int).toNat * 6 + 4, none⟩ = some (.bool ((rd_T35 T (rd a b)).f1.f3)) := aD 4 _ rfl
                 have eI : World.cell? _ ⟨u, ((rd a b) : Int).toNat * 6 + 5, none⟩ = some (.int .u8 ((rd_T35 T (rd a b)).f2)) := aD 5 _ rfl
                 have eo : World.frozen? _ ⟨u, ((rd a b) : Int).toNat * 6, none⟩ = false := aE 0
                 have ep : World.frozen? _ ⟨u, ((rd a b) : Int).toNat * 6 + 1, none⟩ = false := aE 1
                 have eq : World.frozen? _ ⟨u, ((rd a b) : Int).toNat * 6 + 2, none⟩ = false := aE 2
                 have er : World.frozen? _ ⟨u, ((rd a b) : Int).toNat * 6 + 3, none⟩ = false := aE 3
                 have es : World.frozen? _ ⟨u, ((rd a b) : Int).toNat * 6 + 4, none⟩ = false := aE 4
                 have et : World.frozen? _ ⟨u, ((rd a b) : Int).toNat * 6 + 5, none⟩ = false := aE 5
                 clear fa aD aE ed
                 replace p51 := eq_true p51
                 replace eP := eq_true eP
                 obtain ⟨iO, cm, ef, ck, fb⟩ := Kd.R_elem HO_712002.out z35 ((rd a b) : Int) (od_) (by have h_ : ((rd a b) : Int) < ((c.length : Int) : Int) := od_; first | exact h_ | (have e_ := (Kd.R_reads' HO_712002.out).1; omega) | simpa using h_)
                 obtain rfl := k35_openM ef
                 have b0 := (Kd.R_seg HO_712002.out ((rd a b) : Int) (od_) (by have h_ : ((rd a b) : Int) < ((c.length : Int) : Int) := od_; first | exact h_ | (have e_ := (Kd.R_reads' HO_712002.out).1; omega) | simpa using h_) (seg := [.int .u8 ((rd_T35 A (rd a (L))).f2)]) (j := 5) cm ck (show 6 ≤ 6 from by decide) (x' := (⟨(rd_T35 T (rd a b)).f0, (⟨(rd_T35 T (rd a b)).f1.f0, (rd_T35 T (rd a b)).f1.f1, (rd_T35 T (rd a b)).f1.f2, (rd_T35 T (rd a b)).f1.f3⟩ : S33), (rd_T35 A (rd a (L))).f2⟩ : S35)) (k35_mkM _ _ _ (⟨(rd_T35 T (rd a b)).f0, (⟨(rd_T35 T (rd a b)).f1.f0, (rd_T35 T (rd a b)).f1.f1, (rd_T35 T (rd a b)).f1.f2, (rd_T35 T (rd a b)).f1.f3⟩ : S33), (rd_T35 A (rd a (L))).f2⟩ : S35) ) (fun _ hk => hk)).1
                 rw [← e5.out] at b0
                 have d4 := Z b0
                 clear cm ck fb ef b0
                 refine start_ (n := 16) (S := fun w' => w'.cell? ⟨I, 0, none⟩ = some (.int .i64 ai) ∧ w'.cell? ⟨I, 1, none⟩ = some (.int .i64 aj) ∧ w'.cell? ⟨I, 2, none⟩ = some (.slice (some ⟨u, 0, none⟩) c.length ac) ∧ w'.cell? ⟨I, 3, none⟩ = some (.int .i64 ak) ∧ w'.cell? ⟨I, 4, none⟩ = some (.bool al) ∧ w'.cell? ⟨I, 5, none⟩ = some (.bool am) ∧ w'.cell? ⟨J, 0, none⟩ = some (.int .i64 x) ∧ w'.cell? ⟨J, 1, none⟩ = some (.int .i64 y) ∧ w'.cell? ⟨J, 2, none⟩ = some (.slice (some ao) A.length eb) ∧ w'.cell? ⟨J, 3, none⟩ = some (.int .i64 l) ∧ w'.cell? ⟨J, 4, none⟩ = some (.bool false) ∧ w'.cell? ⟨J, 5, none⟩ = some (.bool z) ∧ w'.cell? (ar.add ((L)).toNat) = some (.int .i64 (rd a (L))) ∧ w'.cell? (ao.add (((rd a (L))).toNat * 6)) = some (.bool ((rd_T35 A (rd a (L))).f0)) ∧ w'.cell? ⟨(ao.add (((rd a (L))).toNat * 6)).block, (ao.add (((rd a (L))).toNat * 6)).off + 1, none⟩ = some (.bool ((rd_T35 A (rd a (L))).f1.f0)) ∧ w'.cell? ⟨(ao.add (((rd a (L))).toNat * 6)).block, (ao.add (((rd a (L))).toNat * 6)).off + 2, none⟩ = some (.bool ((rd_T35 A (rd a (L))).f1.f1)) ∧ w'.cell? ⟨(ao.add (((rd a (L))).toNat * 6)).block, (ao.add (((rd a (L))).toNat * 6)).off + 3, none⟩ = some (.int .i64 ((rd_T35 A (rd a (L))).f1.f2)) ∧ w'.cell? ⟨(ao.add (((rd a (L))).toNat * 6)).block, (ao.add (((rd a (L))).toNat * 6)).off + 4, none⟩ = some (.bool ((rd_T35 A (rd a (L))).f1.f3)) ∧ w'.cell? ⟨(ao.add (((rd a (L))).toNat * 6)).block, (ao.add (((rd a (L))).toNat * 6)).off + 5, none⟩ = some (.int .u8 ((rd_T35 A (rd a (L))).f2))) (ds := [15]) (bv 16 0) (by kernel_rfl) rfl rfl ⟨(blk_cell O.out 0).trans rfl, (blk_cell O.out 1).trans rfl, (blk_cell O.out 2).trans rfl, (blk_cell O.out 3).trans rfl, (blk_cell O.out 4).trans rfl, (blk_cell O.out 5).trans rfl, (blk_cell d.out 0).trans rfl, (blk_cell d.out 1).trans rfl, (blk_cell d.out 2).trans rfl, (blk_cell d.out 3).trans rfl, (blk_cell d.out 4).trans rfl, (blk_cell d.out 5).trans rfl, bo, bp, bq, br, bs, bt, bu⟩ (fun hHeld => ?_); refine with_tabW wipe_Do.tab16 wipe_Do.bits16 (fun HT_ HW_ => ?_)
                 (replace ax := Z (blk_drew ax.out)); generalize bX.drew = jo at ax HO_6 HO_45 HO_677002 HO_712002 d q O HB d4 eo ep eq er es et eD eE eF eG eH eI bo bp bq br bs bt bu hHeld ⊢
                 refine pT_ HT_ 0 16 1 (some 66) ?_
                 refine pT_ HT_ 2 16 5 (some 68) ?_
                 refine pT_ HT_ 3 16 13 (some 69) ?_
                 refine pT_ HT_ 5 16 45 (some 71) ?_
                 refine pT_ HT_ 6 16 109 (some 72) ?_
                 refine pT_ HT_ 7 16 237 (some 73) ?_
                 refine pT_ HT_ 8 16 493 (some 74) ?_
                 refine tT_ HT_ HW_ hHeld 1 16 495 (some 67) ?_
                 refine tT_ HT_ HW_ hHeld 4 16 511 (some 70) ?_
                 refine tT_ HT_ HW_ hHeld 9 16 1023 (some 75) ?_
                 refine pT_ HT_ 10 16 2047 (some 76) ?_
                 refine pT_ HT_ 11 16 4095 (some 77) ?_
                 refine tT_ HT_ HW_ hHeld 12 16 8191 (some 78) ?_
                 refine pT_ HT_ 13 16 16383 (some 79) ?_
                 refine pT_ HT_ 14 16 32767 (some 80) ?_
                 refine last_ (i := 15) (N := none) (bv 16 65535) rfl rfl (one_of HT_.out (by kernel_rfl)) (by decide) (fun K hK => ?_)
                 refine skip_ (w1 := ?_) (by rfl) rfl ?_ ?_
                 rotate_left
                 ·go_simp
                  rfl
                 refine hK.out _ _ ?_
                 clear hK K
                 refine done_ (done_of HT_.out (by kernel_rfl)) ?_
                 try go_wp2
                 go_roundg k1
                 case measure => have := bk.out; omega
                 case rel => exact ⟨(L), (A), (e2), (.slice (some ao) A.length eb), (.slice (some ⟨u, 0, none⟩) c.length ac), (by first | rfl | (simp; done) | (simp only [← aW] <;> (first | rfl | simp)) | (simp [*]; done)), H', ⟨by have := bk.out; omega⟩, ⟨by (with_reducible repeat (first | apply Kd.Q_alloc | apply Kd.Q_drewN | apply Kd.Q_drew)); exact Kd.Q_mono (Kd.Q_far (p := ⟨u, ((rd a b) : Int).toNat * 6 + 5, none⟩) (Kd.Q_types HO_6.out ax.out (by decide)) (fun _ hk => hk.2) (.int .u8 ((rd_T35 A (rd a (L))).f2))) (fun _ hk => hk.1)⟩, ⟨by (with_reducible repeat (first | apply Kd.Q_alloc | apply Kd.Q_drewN | apply Kd.Q_drew)); exact Kd.Q_mono (Kd.Q_far (p := ⟨u, ((rd a b) : Int).toNat * 6 + 5, none⟩) (Kd.Q_types HO_45.out ax.out (by decide)) (fun _ hk => hk.2) (.int .u8 ((rd_T35 A (rd a (L))).f2))) (fun _ hk => hk.1)⟩, ⟨by (with_reducible repeat apply pV); exact Kd.V_mono (Kd.V_far (p := ⟨u, ((rd a b) : Int).toNat * 6 + 5, none⟩) (Kd.V_mono HO_677002.out (fun k_ hk => (⟨hk, fun e_ => hk.2 (by rw [e_]; rfl)⟩ : _ ∧ k_ ≠ u))) (fun _ hk => hk.2) (.int .u8 ((rd_T35 A (rd a (L))).f2))) (fun _ hk => ⟨hk.1.1.1, ⟨hk.1.1.2.1, ⟨hk.1.1.2.2.1, ⟨hk.1.2, ⟨hk.1.1.2.2.2.1, ⟨hk.1.1.2.2.2.2.1, hk.1.1.2.2.2.2.2⟩⟩⟩⟩⟩⟩)⟩, ⟨by (with_reducible repeat apply pR); exact d4.out⟩, ⟨by (with_reducible repeat apply pK); refine blk_far ?_ (by have h_ := Kd.R_ne HO_712002.out d.out (by decide); intro e_; exact h_ (by rw [e_]; rfl)) _; (with_reducible repeat apply pK); exact d.out⟩, ⟨by (with_reducible repeat apply pK); refine blk_far ?_ (by have h_ := Kd.R_ne HO_712002.out q.out (by decide); intro e_; exact h_ (by rw [e_]; rfl)) _; (with_reducible repeat apply pK); exact q.out⟩, ⟨by (with_reducible repeat apply pK); refine blk_far ?_ (by have h_ := Kd.R_ne HO_712002.out O.out (by decide); intro e_; exact h_ (by rw [e_]; rfl)) _; (with_reducible repeat apply pK); exact O.out⟩, ⟨by repeat (first | (with_reducible first | exact HB.out | apply below_alloc | apply pw_below_drewN | apply below_drew1 | refine below_set ?_ aZ.out | refine below_set ?_ aS.out | refine below_set ?_ aT.out | refine below_set ?_ e3.out) | exact HB.out)⟩⟩
                ·rw [if_neg cj] at H
                 exact absurd H (by simp)
               ·rw [if_neg ci] at H
                exact absurd H (by simp)
              ·rw [if_neg ch] at H
               exact absurd H (by simp)
             ·rw [if_neg bm] at H
              have cg : decide ((wrap64 (b + 1)) < (a.length : Int)) = false := decide_eq_false bm
              clear bm
              have H' := Z H
              clear H
              have az : 0 ≤ (b : Int) := od_
              have aA : b < (a.length : Int) := od_
              obtain ⟨ar, a8, bn⟩ := Kd.at_int (Kd.Q_reads' HO_45.out).2.2 b az aA
              cases a8
              replace az := eq_true az
              replace aA := eq_true aA
              have il := au.out
              have iC := ap.out
              have im := av.out
              have iD := aq.out
              obtain ⟨fM, fN, fO, fP, fQ, fR, gV, gW, gX, gY, gZ, g0⟩ := cells6 O.out
              have p44 : 0 ≤ ((rd a b) : Int) := od_
              have aQ : ((rd a b) : Int) < ((c.length : Int) : Int) := od_
              obtain ⟨u, ac, aN, aO, a9, d9, aM⟩ := Kd.R_form HO_712002.out (by omega)
              (first | cases aN | (injection aN with ea_ en_ ec_; (first | subst ea_ | (injection ea_ with ea_; subst ea_)); subst ec_; clear en_))
              have aZ := Z aO
              have ax := Z aM
              clear aO a9 aM
              obtain ⟨d8, aV, aP, aa, ab⟩ := Kd.R_elem HO_712002.out z35 ((rd a b) : Int) p44 aQ
              obtain rfl := k35_openM aP
              have bR : wr.cell? ⟨u, ((rd a b) : Int).toNat * 6, none⟩ = some (.bool ((rd_T35 c (rd a b)).f0)) := aa 0 _ rfl
              have bS : wr.cell? ⟨u, ((rd a b) : Int).toNat * 6 + 1, none⟩ = some (.bool ((rd_T35 c (rd a b)).f1.f0)) := aa 1 _ rfl
              have bT : wr.cell? ⟨u, ((rd a b) : Int).toNat * 6 + 2, none⟩ = some (.bool ((rd_T35 c (rd a b)).f1.f1)) := aa 2 _ rfl
              have bU : wr.cell? ⟨u, ((rd a b) : Int).toNat * 6 + 3, none⟩ = some (.int .i64 ((rd_T35 c (rd a b)).f1.f2)) := aa 3 _ rfl
              have bV : wr.cell? ⟨u, ((rd a b) : Int).toNat * 6 + 4, none⟩ = some (.bool ((rd_T35 c (rd a b)).f1.f3)) := aa 4 _ rfl
              have bW : wr.cell? ⟨u, ((rd a b) : Int).toNat * 6 + 5, none⟩ = some (.int .u8 ((rd_T35 c (rd a b)).f2)) := aa 5 _ rfl
              have bL : wr.frozen? ⟨u, ((rd a b) : Int).toNat * 6, none⟩ = false := ab 0
              have bM : wr.frozen? ⟨u, ((rd a b) : Int).toNat * 6 + 1, none⟩ = false := ab 1
              have bN : wr.frozen? ⟨u, ((rd a b) : Int).toNat * 6 + 2, none⟩ = false := ab 2
              have bO : wr.frozen? ⟨u, ((rd a b) : Int).toNat * 6 + 3, none⟩ = false := ab 3
              have bP : wr.frozen? ⟨u, ((rd a b) : Int).toNat * 6 + 4, none⟩ = false := ab 4
              have bQ : wr.frozen? ⟨u, ((rd a b) : Int).toNat * 6 + 5, none⟩ = false := ab 5
              clear aV aa ab aP
              replace p44 := eq_true p44
              replace aQ := eq_true aQ
              have d6 := Z (show Kd.R k35 35 wr w.heap.size (fun k_ => (w.heap.size ≤ k_)) (.slice (some ⟨u, 0, none⟩) c.length ac) c from (by (with_reducible repeat apply pR); exact HO_712002.out))
              obtain ⟨iP, cn, eg, bA, cq⟩ := Kd.R_elem d6.out z35 ((rd a b) : Int) (od_) (by have h_ : ((rd a b) : Int) < ((c.length : Int) : Int) := od_; first | exact h_ | (have e_ := (Kd.R_reads' HO_712002.out).1; omega) | simpa using h_)
              obtain rfl := k35_openM eg
              have b1 := Kd.R_seg d6.out ((rd a b) : Int) (od_) (by have h_ : ((rd a b) : Int) < ((c.length : Int) : Int) := od_; first | exact h_ | (have e_ := (Kd.R_reads' HO_712002.out).1; omega) | simpa using h_) (seg := [.int .u8 0]) (j := 5) cn bA (show 6 ≤ 6 from by decide) (x' := (⟨(rd_T35 c (rd a b)).f0, (⟨(rd_T35 c (rd a b)).f1.f0, (rd_T35 c (rd a b)).f1.f1, (rd_T35 c (rd a b)).f1.f2, (rd_T35 c (rd a b)).f1.f3⟩ : S33), 0⟩ : S35)) (k35_mkM _ _ _ (⟨(rd_T35 c (rd a b)).f0, (⟨(rd_T35 c (rd a b)).f1.f0, (rd_T35 c (rd a b)).f1.f1, (rd_T35 c (rd a b)).f1.f2, (rd_T35 c (rd a b)).f1.f3⟩ : S33), 0⟩ : S35) ) (fun _ hk => hk)
              have eK := bA 5 _ rfl
              (try simp only [show (k35).sz = 6 from rfl, Nat.mul_one, Nat.add_zero] at eK)
              have ev := cq 5
              (try simp only [show (k35).sz = 6 from rfl, Nat.mul_one, Nat.add_zero] at ev)
              clear cn bA cq eg
              go_wp2_with (first | ((with_reducible refine gate_store (t := 5) (p := 56) rfl ?_); refine sx_ 5 56 (wr.setCell ⟨u, ((rd a b) : Int).toNat * 6 + 5, none⟩ (.int .u8 0)) ?_; intro w64 hw; have hg : wr.grownBy w64 (some u) := (by rw [hw]; exact b1.2); have hp_ : Kd.R k35 35 w64 w.heap.size (fun k_ => (w.heap.size ≤ k_)) (.slice (some ⟨u, 0, none⟩) c.length ac) T := (by rw [hw, bx.out]; exact b1.1); clear b1; replace HO_6 := Z (Kd.Q_over' (v := (.slice (some ⟨u, 0, none⟩) c.length ac)) (by (with_reducible repeat (first | apply Kd.Q_alloc | apply Kd.Q_drewN | apply Kd.Q_drew)); exact HO_6.out) (Kd.R_typed HO_712002.out) (by decide) hg); replace HO_45 := Z (Kd.Q_over' (v := (.slice (some ⟨u, 0, none⟩) c.length ac)) (by (with_reducible repeat (first | apply Kd.Q_alloc | apply Kd.Q_drewN | apply Kd.Q_drew)); exact HO_45.out) (Kd.R_typed HO_712002.out) (by decide) hg); replace HO_677002 := Z (Kd.V_afterv (v := (.slice (some ⟨u, 0, none⟩) c.length ac)) (v1 := (.slice (some ⟨u, 0, none⟩) c.length ac)) (ok := (fun k_ => (an k_ ∨ w.heap.size ≤ k_) ∧ some k_ ≠ (.slice (some ar) a.length aB : Value).ownBlock ∧ some k_ ≠ (.slice (some ar) a.length aB : Value).ownBlock ∧ k_ ≠ J ∧ k_ ≠ r ∧ k_ ≠ I)) (by (with_reducible repeat apply pV); exact Kd.V_mono HO_677002.out (fun _ hk => ⟨⟨hk.1, ⟨hk.2.1, ⟨hk.2.2.1, ⟨hk.2.2.2.2.1, ⟨hk.2.2.2.2.2.1, hk.2.2.2.2.2.2⟩⟩⟩⟩⟩, hk.2.2.2.1⟩)) hg (.inl rfl)); replace d := Z (blk_grown (g := J) (o := .cells #[.int .i64 x, .int .i64 y, u677002, .int .i64 l, .bool false, .bool z] 24 (0, 0)) (vK d.out) hg (Kd.R_ne HO_712002.out d.out (by decide))); replace q := Z (blk_grown (g := r) (o := .cells #[.int .i64 0, .int .i64 0, .slice none 0 0, .int .i64 0, .bool false, .bool false] 24 (0, 0)) (vK q.out) hg (Kd.R_ne HO_712002.out q.out (by decide))); replace O := Z (blk_grown (g := I) (o := .cells #[.int .i64 ai, .int .i64 aj, .slice (some ⟨u, 0, none⟩) c.length ac, .int .i64 ak, .bool al, .bool am] 24 (0, 0)) (vK O.out) hg (Kd.R_ne HO_712002.out O.out (by decide))); replace HO_712002 := Z (hp_); replace HB := Z ((by rw [hw]; exact below_set (HB.out) aZ.out : Below w.heap.size w w64)); clear hg hw hp_))
              go_roundg k1
              case measure => have := bk.out; omega
              case rel => exact ⟨(wrap64 (b + 1)), (A), (T), (u677002), (.slice (some ⟨u, 0, none⟩) c.length ac), (dn_), H', ⟨by have := bk.out; omega⟩, ⟨by (with_reducible repeat (first | apply Kd.Q_alloc | apply Kd.Q_drewN | apply Kd.Q_drew)); exact HO_6.out⟩, ⟨by (with_reducible repeat (first | apply Kd.Q_alloc | apply Kd.Q_drewN | apply Kd.Q_drew)); exact HO_45.out⟩, ⟨by (with_reducible repeat apply pV); exact Kd.V_mono HO_677002.out (fun _ hk => ⟨hk.1.1, ⟨hk.1.2.1, ⟨hk.1.2.2.1, ⟨hk.2, ⟨hk.1.2.2.2.1, ⟨hk.1.2.2.2.2.1, hk.1.2.2.2.2.2⟩⟩⟩⟩⟩⟩)⟩, ⟨by (with_reducible repeat apply pR); exact HO_712002.out⟩, ⟨vK d.out⟩, ⟨vK q.out⟩, ⟨vK O.out⟩, ⟨bl_⟩⟩
            ·rw [if_neg a6] at H
             obtain ⟨e8, e9⟩ := eF_ a6
             have H' := Z H
             clear H
             have az : 0 ≤ (b : Int) := od_
             have aA : b < (a.length : Int) := od_
             obtain ⟨ar, a8, bn⟩ := Kd.at_int (Kd.Q_reads' HO_45.out).2.2 b az aA
             cases a8
             replace az := eq_true az
             replace aA := eq_true aA
             have io := au.out
             have iE := ap.out
             have ip := av.out
             have iF := aq.out
             obtain ⟨fS, fT, fU, fV, fW, fX, g1, g2, g3, g4, g5, g6⟩ := cells6 O.out
             have p44 : 0 ≤ ((rd a b) : Int) := od_
             have aQ : ((rd a b) : Int) < ((c.length : Int) : Int) := od_
             obtain ⟨u, ac, aN, aO, a9, d9, aM⟩ := Kd.R_form HO_712002.out (by omega)
             (first | cases aN | (injection aN with ea_ en_ ec_; (first | subst ea_ | (injection ea_ with ea_; subst ea_)); subst ec_; clear en_))
             have aZ := Z aO
             have ax := Z aM
             clear aO a9 aM
             obtain ⟨d8, aV, aP, aa, ab⟩ := Kd.R_elem HO_712002.out z35 ((rd a b) : Int) p44 aQ
             obtain rfl := k35_openM aP
             have bR : wr.cell? ⟨u, ((rd a b) : Int).toNat * 6, none⟩ = some (.bool ((rd_T35 c (rd a b)).f0)) := aa 0 _ rfl
             have bS : wr.cell? ⟨u, ((rd a b) : Int).toNat * 6 + 1, none⟩ = some (.bool ((rd_T35 c (rd a b)).f1.f0)) := aa 1 _ rfl
             have bT : wr.cell? ⟨u, ((rd a b) : Int).toNat * 6 + 2, none⟩ = some (.bool ((rd_T35 c (rd a b)).f1.f1)) := aa 2 _ rfl
             have bU : wr.cell? ⟨u, ((rd a b) : Int).toNat * 6 + 3, none⟩ = some (.int .i64 ((rd_T35 c (rd a b)).f1.f2)) := aa 3 _ rfl
             have bV : wr.cell? ⟨u, ((rd a b) : Int).toNat * 6 + 4, none⟩ = some (.bool ((rd_T35 c (rd a b)).f1.f3)) := aa 4 _ rfl
             have bW : wr.cell? ⟨u, ((rd a b) : Int).toNat * 6 + 5, none⟩ = some (.int .u8 ((rd_T35 c (rd a b)).f2)) := aa 5 _ rfl
             have bL : wr.frozen? ⟨u, ((rd a b) : Int).toNat * 6, none⟩ = false := ab 0
             have bM : wr.frozen? ⟨u, ((rd a b) : Int).toNat * 6 + 1, none⟩ = false := ab 1
             have bN : wr.frozen? ⟨u, ((rd a b) : Int).toNat * 6 + 2, none⟩ = false := ab 2
             have bO : wr.frozen? ⟨u, ((rd a b) : Int).toNat * 6 + 3, none⟩ = false := ab 3
             have bP : wr.frozen? ⟨u, ((rd a b) : Int).toNat * 6 + 4, none⟩ = false := ab 4
             have bQ : wr.frozen? ⟨u, ((rd a b) : Int).toNat * 6 + 5, none⟩ = false := ab 5
             clear aV aa ab aP
             replace p44 := eq_true p44
             replace aQ := eq_true aQ
             have d7 := Z (show Kd.R k35 35 wr w.heap.size (fun k_ => (w.heap.size ≤ k_)) (.slice (some ⟨u, 0, none⟩) c.length ac) c from (by (with_reducible repeat apply pR); exact HO_712002.out))
             obtain ⟨iQ, co, eh, bB, cr⟩ := Kd.R_elem d7.out z35 ((rd a b) : Int) (od_) (by have h_ : ((rd a b) : Int) < ((c.length : Int) : Int) := od_; first | exact h_ | (have e_ := (Kd.R_reads' HO_712002.out).1; omega) | simpa using h_)
             obtain rfl := k35_openM eh
             have b2 := Kd.R_seg d7.out ((rd a b) : Int) (od_) (by have h_ : ((rd a b) : Int) < ((c.length : Int) : Int) := od_; first | exact h_ | (have e_ := (Kd.R_reads' HO_712002.out).1; omega) | simpa using h_) (seg := [.int .u8 0]) (j := 5) co bB (show 6 ≤ 6 from by decide) (x' := (⟨(rd_T35 c (rd a b)).f0, (⟨(rd_T35 c (rd a b)).f1.f0, (rd_T35 c (rd a b)).f1.f1, (rd_T35 c (rd a b)).f1.f2, (rd_T35 c (rd a b)).f1.f3⟩ : S33), 0⟩ : S35)) (k35_mkM _ _ _ (⟨(rd_T35 c (rd a b)).f0, (⟨(rd_T35 c (rd a b)).f1.f0, (rd_T35 c (rd a b)).f1.f1, (rd_T35 c (rd a b)).f1.f2, (rd_T35 c (rd a b)).f1.f3⟩ : S33), 0⟩ : S35) ) (fun _ hk => hk)
             have eL := bB 5 _ rfl
             (try simp only [show (k35).sz = 6 from rfl, Nat.mul_one, Nat.add_zero] at eL)
             have ew := cr 5
             (try simp only [show (k35).sz = 6 from rfl, Nat.mul_one, Nat.add_zero] at ew)
             clear co bB cr eh
             go_wp2_with (first | ((with_reducible refine gate_store (t := 5) (p := 56) rfl ?_); refine sx_ 5 56 (wr.setCell ⟨u, ((rd a b) : Int).toNat * 6 + 5, none⟩ (.int .u8 0)) ?_; intro e1 hw; have hg : wr.grownBy e1 (some u) := (by rw [hw]; exact b2.2); have hp_ : Kd.R k35 35 e1 w.heap.size (fun k_ => (w.heap.size ≤ k_)) (.slice (some ⟨u, 0, none⟩) c.length ac) T := (by rw [hw, bx.out]; exact b2.1); clear b2; replace HO_6 := Z (Kd.Q_over' (v := (.slice (some ⟨u, 0, none⟩) c.length ac)) (by (with_reducible repeat (first | apply Kd.Q_alloc | apply Kd.Q_drewN | apply Kd.Q_drew)); exact HO_6.out) (Kd.R_typed HO_712002.out) (by decide) hg); replace HO_45 := Z (Kd.Q_over' (v := (.slice (some ⟨u, 0, none⟩) c.length ac)) (by (with_reducible repeat (first | apply Kd.Q_alloc | apply Kd.Q_drewN | apply Kd.Q_drew)); exact HO_45.out) (Kd.R_typed HO_712002.out) (by decide) hg); replace HO_677002 := Z (Kd.V_afterv (v := (.slice (some ⟨u, 0, none⟩) c.length ac)) (v1 := (.slice (some ⟨u, 0, none⟩) c.length ac)) (ok := (fun k_ => (an k_ ∨ w.heap.size ≤ k_) ∧ some k_ ≠ (.slice (some ar) a.length aB : Value).ownBlock ∧ some k_ ≠ (.slice (some ar) a.length aB : Value).ownBlock ∧ k_ ≠ J ∧ k_ ≠ r ∧ k_ ≠ I)) (by (with_reducible repeat apply pV); exact Kd.V_mono HO_677002.out (fun _ hk => ⟨⟨hk.1, ⟨hk.2.1, ⟨hk.2.2.1, ⟨hk.2.2.2.2.1, ⟨hk.2.2.2.2.2.1, hk.2.2.2.2.2.2⟩⟩⟩⟩⟩, hk.2.2.2.1⟩)) hg (.inl rfl)); replace d := Z (blk_grown (g := J) (o := .cells #[.int .i64 x, .int .i64 y, u677002, .int .i64 l, .bool false, .bool z] 24 (0, 0)) (vK d.out) hg (Kd.R_ne HO_712002.out d.out (by decide))); replace q := Z (blk_grown (g := r) (o := .cells #[.int .i64 0, .int .i64 0, .slice none 0 0, .int .i64 0, .bool false, .bool false] 24 (0, 0)) (vK q.out) hg (Kd.R_ne HO_712002.out q.out (by decide))); replace O := Z (blk_grown (g := I) (o := .cells #[.int .i64 ai, .int .i64 aj, .slice (some ⟨u, 0, none⟩) c.length ac, .int .i64 ak, .bool al, .bool am] 24 (0, 0)) (vK O.out) hg (Kd.R_ne HO_712002.out O.out (by decide))); replace HO_712002 := Z (hp_); replace HB := Z ((by rw [hw]; exact below_set (HB.out) aZ.out : Below w.heap.size w e1)); clear hg hw hp_))
             go_roundg k1
             case measure => have := bk.out; omega
             case rel => exact ⟨(wrap64 (b + 1)), (A), (T), (u677002), (.slice (some ⟨u, 0, none⟩) c.length ac), (dn_), H', ⟨by have := bk.out; omega⟩, ⟨by (with_reducible repeat (first | apply Kd.Q_alloc | apply Kd.Q_drewN | apply Kd.Q_drew)); exact HO_6.out⟩, ⟨by (with_reducible repeat (first | apply Kd.Q_alloc | apply Kd.Q_drewN | apply Kd.Q_drew)); exact HO_45.out⟩, ⟨by (with_reducible repeat apply pV); exact Kd.V_mono HO_677002.out (fun _ hk => ⟨hk.1.1, ⟨hk.1.2.1, ⟨hk.1.2.2.1, ⟨hk.2, ⟨hk.1.2.2.2.1, ⟨hk.1.2.2.2.2.1, hk.1.2.2.2.2.2⟩⟩⟩⟩⟩⟩)⟩, ⟨by (with_reducible repeat apply pR); exact HO_712002.out⟩, ⟨vK d.out⟩, ⟨vK q.out⟩, ⟨vK O.out⟩, ⟨bl_⟩⟩
           ·rw [if_neg cf] at H
            exact absurd H (by simp)
          ·rw [if_neg ce] at H
           exact absurd H (by simp)
         ·rw [if_neg cd] at H
          exact absurd H (by simp)
        ·rw [if_neg cc] at H
         exact absurd H (by simp)
       ·rw [if_neg bl] at H
        have e7 : decide (b < (a.length : Int)) = false := decide_eq_false bl
        clear bl
        simp only [Option.some.injEq, Prod.mk.injEq] at H
        obtain ⟨rfl, rfl, rfl, rfl, rfl, rfl, rfl, rfl⟩ := H
        have iq := au.out
        have iG := ap.out
        have ir := av.out
        have iH := aq.out
        obtain ⟨fY, fZ, ga, gb, gc, gd, g7, g8, g9, ha, hc, he⟩ := cells6 O.out
        have it := af.out
        have iI := ae.out
        obtain ⟨ge, gf, gg, gh, gi, gj, hf, hh, hj, hl, hm, hp⟩ := cells6 q.out
        obtain ⟨fm, fn, ft⟩ := Kd.R_slice HO_712002.out
        subst ft
        go_wp2
        refine bodyPost_ret (results_ct rfl _ _ r 24 #[.int .i64 ai, .int .i64 aj, .slice fm c.length fn, .int .i64 ak, .bool al, .bool am] (0, 0) _ rfl (put6 q.out) Tryd.underlying24 rfl (by kernel_rfl)) rfl ?_
        exact ⟨_, _, er_, Kd.V_mono (Kd.R_V (by (with_reducible repeat apply pR); exact R_off HO_712002.out q.out (by decide) off2_)) (fun k_ hk => by first | exact ⟨(.inr (hk.1)), hk.2⟩ | exact (.inr (hk))), Kd.R_V (Kd.R_nil _ _ _ 0 _), bl_⟩
    ·replace bJ := Bool.eq_false_iff.mpr bJ
     subst bJ
     have H1 : ((edit_Deny.f x y s l false z (some (Er.num 8)) ([] : List (S164))).bind fun B => (some (B.1, B.2.1, B.2.2.1, B.2.2.2.1, B.2.2.2.2.1, B.2.2.2.2.2.1, B.2.2.2.2.2.2.1, B.2.2.2.2.2.2.2))) = some (r1, r2, r3, r4, r5, r6, r7, r8) := by rw [if_neg (show ¬ (false = true) by decide)] at H; exact H
     clear H
     have H := H1
     clear H1
     replace H := Option.bind_eq_some_iff.mp H
     obtain ⟨⟨ba, bb, bc, bd, be, bf, eZ, e0⟩, d2, H⟩ := H
     replace H : (some (ba, bb, bc, bd, be, bf, eZ, e0)) = some (r1, r2, r3, r4, r5, r6, r7, r8) := H
     have h0 := Z d2
     clear d2
     simp only [Option.some.injEq, Prod.mk.injEq] at H
     obtain ⟨rfl, rfl, rfl, rfl, rfl, rfl, rfl, rfl⟩ := H
     go_enter Tryd.func19, Tryd.ntmps19
     go_wp2_with (first | ((with_reducible refine gate_dst (N := 2) rfl ?_); (try (refine gate_guard (by rfl) ?_; dsimp only)); refine bx_ 2 24 #[.int .i64 x, .int .i64 y, .slice X s.length Y, .int .i64 l, .bool false, .bool z] ?_; intro J hg jp hbox hb; replace m := Z (ve m.out hg hb); have d := Z (hbox); have a2 := Z (ln_ hg : w.heap.size ≤ J); have aS := a2; replace HB := bs_ hb; clear hb hbox hg) | ((with_reducible refine gate_dst (N := 4) rfl ?_); (try (refine gate_guard (by rfl) ?_; dsimp only)); refine bx_ 4 24 #[.int .i64 0, .int .i64 0, .slice none 0 0, .int .i64 0, .bool false, .bool false] ?_; intro r hg bi hbox hb; replace m := Z (ve m.out hg hb); have q := Z (hbox); have a3 := Z (ln_ hg : w.heap.size ≤ r); have aT := a3; replace HB := bs_ hb; have ae := nl' d hg; have af := ng' d hg; replace d := kb' d hb; clear hb hbox hg) | ((with_reducible refine gate_callee (f := 29) rfl ?_); refine goesL_ (some 12) rfl rfl Tryd.func29 (by kernel_rfl) rfl #[.int .i64 a1] rfl ag_ ?_; (with_reducible refine (wipe_Wipes.calls a1 true _ A3.out).mono ?_); rintro e w' ⟨rfl, ⟨nd, rfl⟩⟩; refine ⟨_, rfl, ?_⟩; (try (rw [drewN_self bi]; generalize hq_ : World.drewN bi _ = bi; replace m := Z (qV hq_ m.out); replace d := Z (qM hq_ d.out); replace q := Z (qM hq_ q.out); replace HB := Z (qB hq_ HB.out); clear hq_)); have iu := ae.out; have iJ := af.out; obtain ⟨gl, gm, gn, go, gp, gq, hq, hs, ht, hu, hv, hx⟩ := cells6 d.out) | ((with_reducible refine gate_callee (f := 44) rfl ?_); refine goesL_ (some 30) rfl rfl Tryd.func44 (by kernel_rfl) rfl #[.agg #[.int .i64 x, .int .i64 y, .slice X s.length Y, .int .i64 l, .bool false, .bool z], .int .i64 l] rfl ag_ ?_; (with_reducible refine (field_Open.calls x y _ _ s l false z l false _ ?side1 ?side2 fd.out).mono ?_); (case side1 => repeat (first | exact (Kd.V_reads' m.out).2.2 | (with_reducible apply pC))); (case side2 => exact (Kd.V_reads' m.out).2.1); rintro e jq ⟨rfl, hb⟩; refine ⟨_, rfl, ?_⟩; replace m := vb' m hb; replace d := kb' d hb; replace q := kb' q hb; replace HB := bs_ hb; clear hb; obtain ⟨gr, gs, gt, gu, gv, gw, hy, hz, hA, hB, hC, hD⟩ := cells6 d.out) | ((with_reducible refine gate_callee (f := 34) rfl ?_); refine goesL_ (some 34) rfl rfl Tryd.func34 (by kernel_rfl) rfl #[.agg #[.int .i64 x, .int .i64 y, .slice X s.length Y, .int .i64 l, .bool false, .bool z], errW (.slice none 0 0) (some (Er.num 8))] rfl ag_ ?_; (refine (edit_Deny.calls x y _ _ s l false z (some (Er.num 8)) _ _ ([] : List (S164)) ba bb bc bd be bf eZ e0 _ ?side1 ?side2 ?side3 ?side4 h0.out).mono ?_); (case side1 => repeat (first | exact (Kd.V_reads' m.out).2.2 | (with_reducible apply pC))); (case side2 => exact (Kd.V_reads' m.out).2.1); (case side3 => exact Kd.C_nil _ _); (case side4 => exact Nat.le_refl _); rintro e jr ⟨fF, iX, rfl, ay, fh, hb⟩; refine ⟨_, rfl, ?_⟩; replace m := Z (Kd.V_elder' (vV m.out) (Kd.R_base ay) hb); have b9 := Z (Kd.R_lower (Kd.R_newM (M := fun k_ => (w.heap.size ≤ k_)) (Kd.R_mono (ok' := fun k_ => True) ay (fun _ hk_ => trivial)) (below_size bl_) (fun k_ h_ => h_)) (below_size bl_)); have e4 := Z (Kd.V_lower (Kd.V_mono (ok' := fun k_ => (an k_ ∨ w.heap.size ≤ k_) ∧ some k_ ≠ (fF : Value).ownBlock ∧ k_ ≠ J ∧ k_ ≠ r) fh (fun k_ hk_ => ⟨(.inr (Nat.le_trans (below_size bl_) hk_.1)), hk_.2, (Kd.freshB (g := J) (o := .cells #[.int .i64 x, .int .i64 y, .slice X s.length Y, .int .i64 l, .bool false, .bool z] 24 (0, 0)) (vK d.out) k_ hk_.1), (Kd.freshB (g := r) (o := .cells #[.int .i64 0, .int .i64 0, .slice none 0 0, .int .i64 0, .bool false, .bool false] 24 (0, 0)) (vK q.out) k_ hk_.1)⟩)) (below_size bl_)); replace d := kb' d hb; replace q := kb' q hb; replace HB := bs_ hb; clear hb ay fh; (try simp only [errW_none, errW_some]); obtain ⟨gx, gy, gz, gA, gB, gC, hE, hF, hG, hH, hI, hJ⟩ := cells6 q.out; obtain ⟨bY, b3, fu⟩ := Kd.R_slice b9.out; subst fu))
     refine bodyPost_ret (results_ct rfl _ _ r 24 #[.int .i64 ba, .int .i64 bb, .slice bY bc.length b3, .int .i64 bd, .bool be, .bool bf] (0, 0) _ rfl (put6 q.out) Tryd.underlying24 rfl (by kernel_rfl)) rfl ?_
     exact ⟨_, _, er_, Kd.V_mono (Kd.R_V (by (with_reducible repeat apply pR); exact Kd.R_mono (f6R r (Kd.R_types b9.out q.out (by decide)) (fun _ hk => hk.2)) (fun _ hk => hk.1.1))) (fun k_ hk => by first | exact ⟨(.inr (hk.1)), hk.2⟩ | exact (.inr (hk))), by (with_reducible repeat apply pV); exact Kd.V_mono (f6V r (Kd.V_mono e4.out (fun k_ hk => (⟨hk, hk.2.2.2⟩ : _ ∧ k_ ≠ r))) (fun _ hk => hk.2)) (fun _ hk => hk.1.1), bl_⟩
 ·replace c4 := Bool.eq_false_iff.mpr c4
  subst c4
  have H1 : (some (x, y, s, l, U, z, some (Er.num 1), ([] : List (S164)))) = some (r1, r2, r3, r4, r5, r6, r7, r8) := by rw [if_neg (show ¬ (false = true) by decide)] at H; exact H
  clear H
  have H := H1
  clear H1
  simp only [Option.some.injEq, Prod.mk.injEq] at H
  obtain ⟨rfl, rfl, rfl, rfl, rfl, rfl, rfl, rfl⟩ := H
  go_enter Tryd.func19, Tryd.ntmps19
  go_wp2_with (first | ((with_reducible refine gate_dst (N := 2) rfl ?_); (try (refine gate_guard (by rfl) ?_; dsimp only)); refine bx_ 2 24 #[.int .i64 x, .int .i64 y, .slice X s.length Y, .int .i64 l, .bool U, .bool z] ?_; intro J hg js hbox hb; replace m := Z (ve m.out hg hb); have d := Z (hbox); have a2 := Z (ln_ hg : w.heap.size ≤ J); have aS := a2; replace HB := bs_ hb; clear hb hbox hg) | ((with_reducible refine gate_dst (N := 4) rfl ?_); (try (refine gate_guard (by rfl) ?_; dsimp only)); refine bx_ 4 24 #[.int .i64 0, .int .i64 0, .slice none 0 0, .int .i64 0, .bool false, .bool false] ?_; intro r hg bj hbox hb; replace m := Z (ve m.out hg hb); have q := Z (hbox); have a3 := Z (ln_ hg : w.heap.size ≤ r); have aT := a3; replace HB := bs_ hb; have ae := nl' d hg; have af := ng' d hg; replace d := kb' d hb; clear hb hbox hg) | ((with_reducible refine gate_callee (f := 29) rfl ?_); refine goesL_ (some 12) rfl rfl Tryd.func29 (by kernel_rfl) rfl #[.int .i64 a1] rfl ag_ ?_; (with_reducible refine (wipe_Wipes.calls a1 false _ A3.out).mono ?_); rintro e w' ⟨rfl, ⟨nd, rfl⟩⟩; refine ⟨_, rfl, ?_⟩; (try (rw [drewN_self bj]; generalize hq_ : World.drewN bj _ = bj; replace m := Z (qV hq_ m.out); replace d := Z (qM hq_ d.out); replace q := Z (qM hq_ q.out); replace HB := Z (qB hq_ HB.out); clear hq_)); have iv := ae.out; have iK := af.out; obtain ⟨gD, gE, gF, gG, gH, gI, hL, hM, hN, hO, hP, hQ⟩ := cells6 d.out; obtain ⟨gJ, gK, gL, gM, gN, gO, hR, hS, hT, hU, hV, hW⟩ := cells6 q.out))
  refine bodyPost_ret (results_ct rfl _ _ r 24 #[.int .i64 x, .int .i64 y, .slice X s.length Y, .int .i64 l, .bool U, .bool z] (0, 0) _ rfl (put6 q.out) Tryd.underlying24 rfl (by kernel_rfl)) rfl ?_
  exact ⟨_, _, er_, by (with_reducible repeat apply pV); exact Kd.V_mono (f6V r (Kd.V_mono m.out (fun k_ hk => (⟨hk, hk.2⟩ : _ ∧ k_ ≠ r))) (fun _ hk => hk.2)) (fun _ hk => hk.1.1.1), Kd.R_V (Kd.R_nil _ _ _ 0 _), bl_⟩
theorem wipe_Do.callsN (k : Nat) (x : Int) (y : Int) (aq : Nat → Prop) (ac : Option Addr) (ad : Nat) (u : List (S35)) (l : Int) (W : Bool) (z : Bool) (a1 : Int) (r1 : Int) (r2 : Int) (r3 : List (S35)) (r4 : Int) (r5 : Bool) (r6 : Bool) (r8 : List (S164)) (w : World) (eM : Kd.V k35 35 w w.heap.size (fun k_ => aq k_) (.slice ac u.length ad) u) (h : wipe_Do.f k x y u l W z a1 = some (r1, r2, r3, r4, r5, r6, (none : Option Er), r8)) :
  Calls Tryd.prog 19 #[.agg #[.int .i64 x, .int .i64 y, .slice ac u.length ad, .int .i64 l, .bool W, .bool z], .int .i64 a1] w fun e w' => ∃ eA eV : Value, e = .returned (.tuple #[.agg #[.int .i64 r1, .int .i64 r2, eA, .int .i64 r4, .bool r5, .bool r6], errW eV (none : Option Er)]) ∧ Kd.R k35 35 w' w.heap.size (fun k_ => (w.heap.size ≤ k_)) eA r3 ∧ Kd.V k164 164 w' w.heap.size (fun k_ => (aq k_ ∨ w.heap.size ≤ k_) ∧ some k_ ≠ (eA : Value).ownBlock) eV r8 ∧ Below w.heap.size w w' := by
 have hX := Tryd.underlying24
 have hY := Tryd.underlying28
 have hZ := Tryd.underlying52
 have r := Z (show Kd.V k35 35 w w.heap.size (fun k_ => (aq k_ ∨ w.heap.size ≤ k_)) (.slice ac u.length ad) u from Kd.V_mono eM (fun k_ hk => .inl hk))
 have HB := Z (Below.refl w.heap.size w)
 have H : ((wipe_Wipes.f a1).bind fun bu => (if bu = true then (if W = true then (some (x, y, u, l, W, z, some (Er.num 7), ([] : List (S164)))) else (if a1 = 14 then ((wipe_all.f k x y u l W z).bind fun T => (some (T.1, T.2.1, T.2.2.1, T.2.2.2.1, T.2.2.2.2.1, T.2.2.2.2.2, none, ([] : List (S164))))) else ((field_Open.f x y u l W z l).bind fun aC => (if aC = true then ((edit_Line.f k x y u l W z l).bind fun a => ((edit_Modify.f x y u l W z l).bind fun C => (wipe_Do.l0 k a1 a a (a.length : Int) 0 x y u l W z C.1 C.2.1 C.2.2.1 C.2.2.2.1 C.2.2.2.2.1 C.2.2.2.2.2))) else ((edit_Deny.f x y u l W z (some (Er.num 8)) ([] : List (S164))).bind fun A => (some (A.1, A.2.1, A.2.2.1, A.2.2.2.1, A.2.2.2.2.1, A.2.2.2.2.2.1, A.2.2.2.2.2.2.1, A.2.2.2.2.2.2.2))))))) else (some (x, y, u, l, W, z, some (Er.num 1), ([] : List (S164)))))) = some (r1, r2, r3, r4, r5, r6, (none : Option Er), r8) := h
 clear h
 replace H := Option.bind_eq_some_iff.mp H
 obtain ⟨bu, eO, H⟩ := H
 replace H : (if bu = true then (if W = true then (some (x, y, u, l, W, z, some (Er.num 7), ([] : List (S164)))) else (if a1 = 14 then ((wipe_all.f k x y u l W z).bind fun T => (some (T.1, T.2.1, T.2.2.1, T.2.2.2.1, T.2.2.2.2.1, T.2.2.2.2.2, none, ([] : List (S164))))) else ((field_Open.f x y u l W z l).bind fun aC => (if aC = true then ((edit_Line.f k x y u l W z l).bind fun a => ((edit_Modify.f x y u l W z l).bind fun C => (wipe_Do.l0 k a1 a a (a.length : Int) 0 x y u l W z C.1 C.2.1 C.2.2.1 C.2.2.2.1 C.2.2.2.2.1 C.2.2.2.2.2))) else ((edit_Deny.f x y u l W z (some (Er.num 8)) ([] : List (S164))).bind fun A => (some (A.1, A.2.1, A.2.2.1, A.2.2.2.1, A.2.2.2.2.1, A.2.2.2.2.2.1, A.2.2.2.2.2.2.1, A.2.2.2.2.2.2.2))))))) else (some (x, y, u, l, W, z, some (Er.num 1), ([] : List (S164))))) = some (r1, r2, r3, r4, r5, r6, (none : Option Er), r8) := H
 have A3 := Z eO
 clear eO
 by_cases c4 : bu = true
 ·subst c4
  have H1 : (if W = true then (some (x, y, u, l, W, z, some (Er.num 7), ([] : List (S164)))) else (if a1 = 14 then ((wipe_all.f k x y u l W z).bind fun T => (some (T.1, T.2.1, T.2.2.1, T.2.2.2.1, T.2.2.2.2.1, T.2.2.2.2.2, none, ([] : List (S164))))) else ((field_Open.f x y u l W z l).bind fun aC => (if aC = true then ((edit_Line.f k x y u l W z l).bind fun a => ((edit_Modify.f x y u l W z l).bind fun C => (wipe_Do.l0 k a1 a a (a.length : Int) 0 x y u l W z C.1 C.2.1 C.2.2.1 C.2.2.2.1 C.2.2.2.2.1 C.2.2.2.2.2))) else ((edit_Deny.f x y u l W z (some (Er.num 8)) ([] : List (S164))).bind fun A => (some (A.1, A.2.1, A.2.2.1, A.2.2.2.1, A.2.2.2.2.1, A.2.2.2.2.2.1, A.2.2.2.2.2.2.1, A.2.2.2.2.2.2.2))))))) = some (r1, r2, r3, r4, r5, r6, (none : Option Er), r8) := by rw [if_pos rfl] at H; exact H
  clear H
  have H := H1
  clear H1
  by_cases c5 : W = true
  ·subst c5
   have H1 : (some (x, y, u, l, true, z, some (Er.num 7), ([] : List (S164)))) = some (r1, r2, r3, r4, r5, r6, (none : Option Er), r8) := by rw [if_pos rfl] at H; exact H
   clear H
   have H := H1
   clear H1
   exact absurd H (by simp)
  ·replace c5 := Bool.eq_false_iff.mpr c5
   subst c5
   have H1 : (if a1 = 14 then ((wipe_all.f k x y u l false z).bind fun T => (some (T.1, T.2.1, T.2.2.1, T.2.2.2.1, T.2.2.2.2.1, T.2.2.2.2.2, none, ([] : List (S164))))) else ((field_Open.f x y u l false z l).bind fun aC => (if aC = true then ((edit_Line.f k x y u l false z l).bind fun a => ((edit_Modify.f x y u l false z l).bind fun C => (wipe_Do.l0 k a1 a a (a.length : Int) 0 x y u l false z C.1 C.2.1 C.2.2.1 C.2.2.2.1 C.2.2.2.2.1 C.2.2.2.2.2))) else ((edit_Deny.f x y u l false z (some (Er.num 8)) ([] : List (S164))).bind fun A => (some (A.1, A.2.1, A.2.2.1, A.2.2.2.1, A.2.2.2.2.1, A.2.2.2.2.2.1, A.2.2.2.2.2.2.1, A.2.2.2.2.2.2.2)))))) = some (r1, r2, r3, r4, r5, r6, (none : Option Er), r8) := by rw [if_neg (show ¬ (false = true) by decide)] at H; exact H
   clear H
   have H := H1
   clear H1
   by_cases c6 : a1 = 14
   ·rw [if_pos c6] at H
    obtain ⟨dQ, dR⟩ := eT_ c6
    clear c6
    replace H := Option.bind_eq_some_iff.mp H
    obtain ⟨⟨bw, bx, bz, bA, bB, bC⟩, eP, H⟩ := H
    replace H : (some (bw, bx, bz, bA, bB, bC, none, ([] : List (S164)))) = some (r1, r2, r3, r4, r5, r6, (none : Option Er), r8) := H
    have A7 := Z eP
    clear eP
    simp only [Option.some.injEq, Prod.mk.injEq] at H
    (first | obtain ⟨rfl, rfl, rfl, rfl, rfl, rfl, _, rfl⟩ := H | obtain ⟨rfl, rfl, rfl, rfl, rfl, rfl, rfl⟩ := H)
    go_enter Tryd.func19, Tryd.ntmps19
    go_wp2_with (first | ((with_reducible refine gate_dst (N := 2) rfl ?_); (try (refine gate_guard (by rfl) ?_; dsimp only)); refine bx_ 2 24 #[.int .i64 x, .int .i64 y, .slice ac u.length ad, .int .i64 l, .bool false, .bool z] ?_; intro P hg w8 hbox hb; replace r := Z (ve r.out hg hb); have d := Z (hbox); have b3 := Z (ln_ hg : w.heap.size ≤ P); have bo := b3; replace HB := bs_ hb; clear hb hbox hg) | ((with_reducible refine gate_dst (N := 4) rfl ?_); (try (refine gate_guard (by rfl) ?_; dsimp only)); refine bx_ 4 24 #[.int .i64 0, .int .i64 0, .slice none 0 0, .int .i64 0, .bool false, .bool false] ?_; intro B hg w9 hbox hb; replace r := Z (ve r.out hg hb); have q := Z (hbox); have b4 := Z (ln_ hg : w.heap.size ≤ B); have bp := b4; replace HB := bs_ hb; have am := nl' d hg; have ao := ng' d hg; replace d := kb' d hb; clear hb hbox hg) | ((with_reducible refine gate_callee (f := 29) rfl ?_); refine goesL_ (some 12) rfl rfl Tryd.func29 (by kernel_rfl) rfl #[.int .i64 a1] rfl ag_ ?_; (with_reducible refine (wipe_Wipes.calls a1 true _ A3.out).mono ?_); rintro e w' ⟨rfl, ⟨nd, rfl⟩⟩; refine ⟨_, rfl, ?_⟩; (try (rw [drewN_self w9]; generalize hq_ : World.drewN w9 _ = w9; replace r := Z (qV hq_ r.out); replace d := Z (qM hq_ d.out); replace q := Z (qM hq_ q.out); replace HB := Z (qB hq_ HB.out); clear hq_)); have hh := am.out; have hB := ao.out; obtain ⟨cn, co, cp, cq, cr, ct, cY, cZ, c0, c7, c8, c9⟩ := cells6 d.out) | ((with_reducible refine gate_callee (f := 43) rfl ?_); refine goesL_ (some 25) rfl rfl Tryd.func43 (by kernel_rfl) rfl #[.agg #[.int .i64 x, .int .i64 y, .slice ac u.length ad, .int .i64 l, .bool false, .bool z]] rfl ag_ ?_; (with_reducible refine (wipe_all.calls k x y _ _ u l false z bw bx bz bA bB bC _ ?side1 ?side2 A7.out).mono ?_); (case side1 => repeat (first | exact (Kd.V_reads' r.out).2.2 | (with_reducible apply pC))); (case side2 => exact (Kd.V_reads' r.out).2.1); rintro e ia ⟨h0, rfl, ay, hb⟩; refine ⟨_, rfl, ?_⟩; replace r := Z (Kd.V_elder' (vV r.out) (Kd.R_base ay) hb); have b5 := Z (Kd.R_lower (Kd.R_newM (M := fun k_ => (w.heap.size ≤ k_)) ay (below_size bl_) (fun k_ h_ => h_)) (below_size bl_)); replace d := kb' d hb; replace q := kb' q hb; replace HB := bs_ hb; clear hb ay; obtain ⟨cu, cv, cw, cx, cy, cz, da, db, dc, dd, de, df⟩ := cells6 q.out; obtain ⟨dK, dU, eZ⟩ := Kd.R_slice b5.out; subst eZ))
    refine bodyPost_ret (results_ct rfl _ _ B 24 #[.int .i64 bw, .int .i64 bx, .slice dK bz.length dU, .int .i64 bA, .bool bB, .bool bC] (0, 0) _ rfl (put6 q.out) Tryd.underlying24 rfl (by kernel_rfl)) rfl ?_
    exact ⟨_, _, er_, by (with_reducible repeat apply pR); exact Kd.R_mono (f6R B (Kd.R_types b5.out q.out (by decide)) (fun _ hk => hk.2)) (fun _ hk => hk.1.1), Kd.R_V (Kd.R_nil _ _ _ 0 _), bl_⟩
   ·rw [if_neg c6] at H
    obtain ⟨dQ, dR⟩ := eF_ c6
    replace H := Option.bind_eq_some_iff.mp H
    obtain ⟨aC, dG, H⟩ := H
    replace H : (if aC = true then ((edit_Line.f k x y u l false z l).bind fun a => ((edit_Modify.f x y u l false z l).bind fun C => (wipe_Do.l0 k a1 a a (a.length : Int) 0 x y u l false z C.1 C.2.1 C.2.2.1 C.2.2.2.1 C.2.2.2.2.1 C.2.2.2.2.2))) else ((edit_Deny.f x y u l false z (some (Er.num 8)) ([] : List (S164))).bind fun A => (some (A.1, A.2.1, A.2.2.1, A.2.2.2.1, A.2.2.2.2.1, A.2.2.2.2.2.1, A.2.2.2.2.2.2.1, A.2.2.2.2.2.2.2)))) = some (r1, r2, r3, r4, r5, r6, (none : Option Er), r8) := H
    have eN := Z dG
    clear dG
    by_cases bD : aC = true
    ·subst bD
     have H1 : ((edit_Line.f k x y u l false z l).bind fun a => ((edit_Modify.f x y u l false z l).bind fun C => (wipe_Do.l0 k a1 a a (a.length : Int) 0 x y u l false z C.1 C.2.1 C.2.2.1 C.2.2.2.1 C.2.2.2.2.1 C.2.2.2.2.2))) = some (r1, r2, r3, r4, r5, r6, (none : Option Er), r8) := by rw [if_pos rfl] at H; exact H
     clear H
     have H := H1
     clear H1
     replace H := Option.bind_eq_some_iff.mp H
     obtain ⟨a, dH, H⟩ := H
     replace H : ((edit_Modify.f x y u l false z l).bind fun C => (wipe_Do.l0 k a1 a a (a.length : Int) 0 x y u l false z C.1 C.2.1 C.2.2.1 C.2.2.2.1 C.2.2.2.2.1 C.2.2.2.2.2)) = some (r1, r2, r3, r4, r5, r6, (none : Option Er), r8) := H
     have gY := Z dH
     clear dH
     replace H := Option.bind_eq_some_iff.mp H
     obtain ⟨⟨ae, af, aQ, ag, ah, ai⟩, dI, H⟩ := H
     replace H : (wipe_Do.l0 k a1 a a (a.length : Int) 0 x y u l false z ae af aQ ag ah ai) = some (r1, r2, r3, r4, r5, r6, (none : Option Er), r8) := H
     have gZ := Z dI
     clear dI
     have H' := Z H
     clear H
     go_enter Tryd.func19, Tryd.ntmps19
     go_wp2_with (first | ((with_reducible refine gate_dst (N := 2) rfl ?_); (try (refine gate_guard (by rfl) ?_; dsimp only)); refine bx_ 2 24 #[.int .i64 x, .int .i64 y, .slice ac u.length ad, .int .i64 l, .bool false, .bool z] ?_; intro P hg ib hbox hb; replace r := Z (ve r.out hg hb); have d := Z (hbox); have b3 := Z (ln_ hg : w.heap.size ≤ P); have bo := b3; replace HB := bs_ hb; clear hb hbox hg) | ((with_reducible refine gate_dst (N := 4) rfl ?_); (try (refine gate_guard (by rfl) ?_; dsimp only)); refine bx_ 4 24 #[.int .i64 0, .int .i64 0, .slice none 0 0, .int .i64 0, .bool false, .bool false] ?_; intro B hg ba hbox hb; replace r := Z (ve r.out hg hb); have q := Z (hbox); have b4 := Z (ln_ hg : w.heap.size ≤ B); have bp := b4; replace HB := bs_ hb; have am := nl' d hg; have ao := ng' d hg; replace d := kb' d hb; clear hb hbox hg) | ((with_reducible refine gate_callee (f := 29) rfl ?_); refine goesL_ (some 12) rfl rfl Tryd.func29 (by kernel_rfl) rfl #[.int .i64 a1] rfl ag_ ?_; (with_reducible refine (wipe_Wipes.calls a1 true _ A3.out).mono ?_); rintro e w' ⟨rfl, ⟨nd, rfl⟩⟩; refine ⟨_, rfl, ?_⟩; (try (rw [drewN_self ba]; generalize hq_ : World.drewN ba _ = ba; replace r := Z (qV hq_ r.out); replace d := Z (qM hq_ d.out); replace q := Z (qM hq_ q.out); replace HB := Z (qB hq_ HB.out); clear hq_)); have hj := am.out; have hC := ao.out; obtain ⟨cA, cB, cC, cD, cE, cF, dg, dh, di, dj, dk, dl⟩ := cells6 d.out) | ((with_reducible refine gate_callee (f := 44) rfl ?_); refine goesL_ (some 30) rfl rfl Tryd.func44 (by kernel_rfl) rfl #[.agg #[.int .i64 x, .int .i64 y, .slice ac u.length ad, .int .i64 l, .bool false, .bool z], .int .i64 l] rfl ag_ ?_; (with_reducible refine (field_Open.calls x y _ _ u l false z l true _ ?side1 ?side2 eN.out).mono ?_); (case side1 => repeat (first | exact (Kd.V_reads' r.out).2.2 | (with_reducible apply pC))); (case side2 => exact (Kd.V_reads' r.out).2.1); rintro e ic ⟨rfl, hb⟩; refine ⟨_, rfl, ?_⟩; replace r := vb' r hb; replace d := kb' d hb; replace q := kb' q hb; replace HB := bs_ hb; clear hb; obtain ⟨cG, cH, cI, cJ, cK, cL, dm, dn, dp, dq, dr, dt⟩ := cells6 d.out) | ((with_reducible refine gate_callee (f := 26) rfl ?_); refine goesL_ (some 40) rfl rfl Tryd.func26 (by kernel_rfl) rfl #[.agg #[.int .i64 x, .int .i64 y, .slice ac u.length ad, .int .i64 l, .bool false, .bool z], .int .i64 l] rfl ag_ ?_; (with_reducible refine (edit_Line.calls k x y _ _ u l false z l a _ ?side1 ?side2 gY.out).mono ?_); (case side1 => repeat (first | exact (Kd.V_reads' r.out).2.2 | (with_reducible apply pC))); (case side2 => exact (Kd.V_reads' r.out).2.1); rintro e id ⟨h2, rfl, ay, hb⟩; refine ⟨_, rfl, ?_⟩; replace r := Z (Kd.V_elder' (vV r.out) (Kd.Q_base ay) hb); have aw := Z (Kd.Q_lower (Kd.Q_newM (M := fun k_ => (w.heap.size ≤ k_)) ay (below_size bl_) (fun k_ h_ => h_)) (below_size bl_)); replace d := kb' d hb; replace q := kb' q hb; replace HB := bs_ hb; clear hb ay; obtain ⟨cM, cN, cO, cP, cQ, cR, du, dv, dw, dx, dy, dz⟩ := cells6 d.out) | ((with_reducible refine gate_callee (f := 36) rfl ?_); refine goesL_ (some 44) rfl rfl Tryd.func36 (by kernel_rfl) rfl #[.agg #[.int .i64 x, .int .i64 y, .slice ac u.length ad, .int .i64 l, .bool false, .bool z], .int .i64 l] rfl ag_ ?_; (with_reducible refine (edit_Modify.calls x y _ _ u l false z l ae af aQ ag ah ai _ ?side1 ?side2 gZ.out).mono ?_); (case side1 => repeat (first | exact (Kd.V_reads' r.out).2.2 | (with_reducible apply pC))); (case side2 => exact (Kd.V_reads' r.out).2.1); rintro e ie ⟨h3, rfl, ay, hb⟩; refine ⟨_, rfl, ?_⟩; replace r := Z (Kd.V_elder' (vV r.out) (Kd.R_base ay) hb); replace aw := Z (Kd.Q_below (by (with_reducible repeat (first | apply Kd.Q_alloc | apply Kd.Q_drewN | apply Kd.Q_drew)); exact aw.out) hb); have aR := Z (Kd.R_lower (Kd.R_newM (M := fun k_ => (w.heap.size ≤ k_)) ay (below_size bl_) (fun k_ h_ => h_)) (below_size bl_)); replace d := kb' d hb; replace q := kb' q hb; replace HB := bs_ hb; clear hb ay) | ((with_reducible refine gate_dst (N := 7) rfl ?_); (try (refine gate_guard (by rfl) ?_; dsimp only)); refine bx_ 7 24 #[.int .i64 0, .int .i64 0, .slice none 0 0, .int .i64 0, .bool false, .bool false] ?_; intro D hg ig hbox hb; replace r := Z (ve r.out hg hb); replace aw := Z (Kd.Q_below (by (with_reducible repeat (first | apply Kd.Q_alloc | apply Kd.Q_drewN | apply Kd.Q_drew)); exact aw.out) hb); replace aR := rb' aR hb; have F := Z (hbox); have g6 := Z (ln_ hg : w.heap.size ≤ D); have eD := g6; replace HB := bs_ hb; have an := nl' d hg; have au := ng' d hg; replace d := kb' d hb; have ap := nl' q hg; have av := ng' q hg; replace q := kb' q hb; clear hb hbox hg; have hl := au.out; have hD := an.out; have hm := av.out; have hE := ap.out; obtain ⟨cS, cT, cU, cV, cW, cX, dA, dB, dC, dD, dE, dF⟩ := cells6 F.out; obtain ⟨aX, a0, e0⟩ := Kd.R_slice aR.out; subst e0; obtain ⟨bn, aB, e1, _⟩ := Kd.Q_slice aw.out; subst e1))
     go_loopg [47] k (fun kq g5 w' => ∃ (b : Int) (s : List (S35)) (c : List (S35)) (u718002 : Value) (u753002 : Value), g5 = .int .i64 b ∧ Aside0 (wipe_Do.l0 kq a1 a a (a.length : Int) b x y s l false z ae af c ag ah ai = some (r1, r2, r3, r4, r5, r6, (none : Option Er), r8)) ∧ Aside0 (kq ≤ k) ∧ Aside0 (Kd.Q (Kd.int .i64) 3 w' w.heap.size (fun k_ => (w.heap.size ≤ k_)) (.slice bn a.length aB) a) ∧ Aside0 (Kd.Q (Kd.int .i64) 3 w' w.heap.size (fun k_ => (w.heap.size ≤ k_)) (.slice bn a.length aB) a) ∧ Aside0 (Kd.V k35 35 w' w.heap.size (fun k_ => (aq k_ ∨ w.heap.size ≤ k_) ∧ some k_ ≠ ((.slice bn a.length aB) : Value).ownBlock ∧ some k_ ≠ ((.slice bn a.length aB) : Value).ownBlock ∧ some k_ ≠ (u753002 : Value).ownBlock ∧ k_ ≠ P ∧ k_ ≠ B ∧ k_ ≠ D) u718002 s) ∧ Aside0 (Kd.R k35 35 w' w.heap.size (fun k_ => (w.heap.size ≤ k_)) u753002 c) ∧ Aside0 (w'.heap[P]? = some (.cells #[.int .i64 x, .int .i64 y, u718002, .int .i64 l, .bool false, .bool z] 24 (0, 0))) ∧ Aside0 (w'.heap[B]? = some (.cells #[.int .i64 0, .int .i64 0, (.slice none 0 0), .int .i64 0, .bool false, .bool false] 24 (0, 0))) ∧ Aside0 (w'.heap[D]? = some (.cells #[.int .i64 ae, .int .i64 af, u753002, .int .i64 ag, .bool ah, .bool ai] 24 (0, 0))) ∧ Aside0 (Below w.heap.size w w'))
     case atStart => exact ⟨(0), (u), (aQ), (.slice ac u.length ad), (.slice aX aQ.length a0), (dn_), H', ⟨Nat.le_refl _⟩, ⟨by (with_reducible repeat (first | apply Kd.Q_alloc | apply Kd.Q_drewN | apply Kd.Q_drew)); exact Kd.Q_mono (Kd.Q_far (p := ⟨D, 5, none⟩) (Kd.Q_far (p := ⟨D, 4, none⟩) (Kd.Q_far (p := ⟨D, 3, none⟩) (Kd.Q_far (p := ⟨D, 2, none⟩) (Kd.Q_far (p := ⟨D, 1, none⟩) (Kd.Q_far (p := ⟨D, 0, none⟩) (Kd.Q_types aw.out F.out (by decide)) (fun _ hk => hk.2) (.int .i64 ae)) (fun _ hk => hk.2) (.int .i64 af)) (fun _ hk => hk.2) (.slice aX aQ.length a0)) (fun _ hk => hk.2) (.int .i64 ag)) (fun _ hk => hk.2) (.bool ah)) (fun _ hk => hk.2) (.bool ai)) (fun _ hk => hk.1.1)⟩, ⟨by (with_reducible repeat (first | apply Kd.Q_alloc | apply Kd.Q_drewN | apply Kd.Q_drew)); exact Kd.Q_mono (Kd.Q_far (p := ⟨D, 5, none⟩) (Kd.Q_far (p := ⟨D, 4, none⟩) (Kd.Q_far (p := ⟨D, 3, none⟩) (Kd.Q_far (p := ⟨D, 2, none⟩) (Kd.Q_far (p := ⟨D, 1, none⟩) (Kd.Q_far (p := ⟨D, 0, none⟩) (Kd.Q_types aw.out F.out (by decide)) (fun _ hk => hk.2) (.int .i64 ae)) (fun _ hk => hk.2) (.int .i64 af)) (fun _ hk => hk.2) (.slice aX aQ.length a0)) (fun _ hk => hk.2) (.int .i64 ag)) (fun _ hk => hk.2) (.bool ah)) (fun _ hk => hk.2) (.bool ai)) (fun _ hk => hk.1.1)⟩, ⟨by (with_reducible repeat apply pV); exact Kd.V_mono (f6V D (Kd.V_mono r.out (fun k_ hk => (⟨hk, hk.2⟩ : _ ∧ k_ ≠ D))) (fun _ hk => hk.2)) (fun _ hk => ⟨hk.1.1.1.1.1.1, ⟨hk.1.1.1.2, ⟨hk.1.1.1.2, ⟨hk.1.1.2, ⟨hk.1.1.1.1.1.2, ⟨hk.1.1.1.1.2, hk.1.2⟩⟩⟩⟩⟩⟩)⟩, ⟨by (with_reducible repeat apply pR); exact Kd.R_mono (f6R D (Kd.R_types aR.out F.out (by decide)) (fun _ hk => hk.2)) (fun _ hk => hk.1.1)⟩, ⟨blk_off d.out an.out off2_⟩, ⟨blk_off q.out ap.out off2_⟩, ⟨put6 F.out⟩, ⟨bl_⟩⟩
     case round =>
      clear H'
      clear c6 dQ dR cA cB cC cD cE cF cG cH cI cJ cK cL cM cN cO cP cQ cR cS cT cU cV cW cX dg dh di dj dk dl dm dn dp dq dr dt du dv dw dx dy dz dA dB dC dD dE dF
      obtain ⟨b, s, c, u718002, u753002, rfl, HA, bc, HO_6, HO_45, HO_718002, HO_753002, d, q, F, HB⟩ := hrel
      cases gk with
      | zero => exact absurd HA.out (by simp [wipe_Do.l0])
      | succ k1 =>
       have H := HA.out
       clear HA
       simp only [wipe_Do.l0] at H
       by_cases bd : b < (a.length : Int)
       ·rw [if_pos bd] at H
        have eH : decide (b < (a.length : Int)) = true := decide_eq_true bd
        clear bd
        by_cases b7 : 0 ≤ b
        ·rw [if_pos b7] at H
         have g7 : decide (0 ≤ b) = true := decide_eq_true b7
         clear b7
         by_cases b8 : b < (a.length : Int)
         ·rw [if_pos b8] at H
          have g8 : decide (b < (a.length : Int)) = true := decide_eq_true b8
          clear b8
          by_cases b9 : 0 ≤ (rd a b)
          ·rw [if_pos b9] at H
           have g9 : decide (0 ≤ (rd a b)) = true := decide_eq_true b9
           clear b9
           by_cases ca : (rd a b) < (c.length : Int)
           ·rw [if_pos ca] at H
            have ha : decide ((rd a b) < (c.length : Int)) = true := decide_eq_true ca
            clear ca
            obtain ⟨O, aU⟩ : ∃ y_ : List (S35), y_ = (c.set ((rd a b) : Int).toNat (⟨(rd_T35 c (rd a b)).f0, (⟨(rd_T35 c (rd a b)).f1.f0, (rd_T35 c (rd a b)).f1.f1, (rd_T35 c (rd a b)).f1.f2, (rd_T35 c (rd a b)).f1.f3⟩ : S33), 0⟩ : S35)) := ⟨_, rfl⟩
            replace H : (if a1 = 12 then (if (wrap64 (b + 1)) < (a.length : Int) then (if 0 ≤ (wrap64 (b + 1)) then (if 0 ≤ (rd a (wrap64 (b + 1))) then (if (rd a (wrap64 (b + 1))) < (s.length : Int) then (wipe_Do.l0 k1 a1 a a (a.length : Int) (wrap64 (b + 1)) x y s l false z ae af (O.set ((rd a b) : Int).toNat (⟨(rd_T35 O (rd a b)).f0, (⟨(rd_T35 O (rd a b)).f1.f0, (rd_T35 O (rd a b)).f1.f1, (rd_T35 O (rd a b)).f1.f2, (rd_T35 O (rd a b)).f1.f3⟩ : S33), (rd_T35 s (rd a (wrap64 (b + 1)))).f2⟩ : S35)) ag ah ai) else (none)) else (none)) else (none)) else (wipe_Do.l0 k1 a1 a a (a.length : Int) (wrap64 (b + 1)) x y s l false z ae af O ag ah ai)) else (wipe_Do.l0 k1 a1 a a (a.length : Int) (wrap64 (b + 1)) x y s l false z ae af O ag ah ai)) = some (r1, r2, r3, r4, r5, r6, (none : Option Er), r8) := by first | (rw [aU]; with_reducible exact H) | (have aY := (Option.bind_some _ _).symm.trans H; rw [aU]; with_reducible exact aY) | (have aY := (Option.bind_some _ _).symm.trans H; with_reducible exact aY) | with_reducible exact H | (rw [aU]; exact H) | exact H
            have bq := Z aU
            clear aU
            by_cases aZ : a1 = 12
            ·rw [if_pos aZ] at H
             obtain ⟨eI, eJ⟩ := eT_ aZ
             clear aZ
             by_cases be : (wrap64 (b + 1)) < (a.length : Int)
             ·rw [if_pos be] at H
              have cb : decide ((wrap64 (b + 1)) < (a.length : Int)) = true := decide_eq_true be
              clear be
              obtain ⟨E, aT⟩ : ∃ j_ : Int, (wrap64 (b + 1)) = j_ := ⟨_, rfl⟩
              replace H : (if 0 ≤ (E) then (if 0 ≤ (rd a (E)) then (if (rd a (E)) < (s.length : Int) then (wipe_Do.l0 k1 a1 a a (a.length : Int) E x y s l false z ae af (O.set ((rd a b) : Int).toNat (⟨(rd_T35 O (rd a b)).f0, (⟨(rd_T35 O (rd a b)).f1.f0, (rd_T35 O (rd a b)).f1.f1, (rd_T35 O (rd a b)).f1.f2, (rd_T35 O (rd a b)).f1.f3⟩ : S33), (rd_T35 s (rd a (E))).f2⟩ : S35)) ag ah ai) else (none)) else (none)) else (none)) = some (r1, r2, r3, r4, r5, r6, (none : Option Er), r8) := by first | (rw [aT] at H; exact H) | (simp only [aT] at H ⊢; exact H)
              (try rw [aT] at cb)
              have g4 : (IntKind.i64.wrap (b + 1)) = E := (i64_w _).trans aT
              by_cases cc : 0 ≤ (E)
              ·rw [if_pos cc] at H
               have hc : decide (0 ≤ (E)) = true := decide_eq_true cc
               clear cc
               by_cases cd : 0 ≤ (rd a (E))
               ·rw [if_pos cd] at H
                have he : decide (0 ≤ (rd a (E))) = true := decide_eq_true cd
                clear cd
                by_cases ce : (rd a (E)) < (s.length : Int)
                ·rw [if_pos ce] at H
                 have hf : decide ((rd a (E)) < (s.length : Int)) = true := decide_eq_true ce
                 clear ce
                 obtain ⟨eC, aV⟩ : ∃ y_ : List (S35), y_ = (O.set ((rd a b) : Int).toNat (⟨(rd_T35 O (rd a b)).f0, (⟨(rd_T35 O (rd a b)).f1.f0, (rd_T35 O (rd a b)).f1.f1, (rd_T35 O (rd a b)).f1.f2, (rd_T35 O (rd a b)).f1.f3⟩ : S33), (rd_T35 s (rd a (E))).f2⟩ : S35)) := ⟨_, rfl⟩
                 replace H : (wipe_Do.l0 k1 a1 a a (a.length : Int) E x y s l false z ae af eC ag ah ai) = some (r1, r2, r3, r4, r5, r6, (none : Option Er), r8) := by first | (rw [aV]; with_reducible exact H) | (have aY := (Option.bind_some _ _).symm.trans H; rw [aV]; with_reducible exact aY) | (have aY := (Option.bind_some _ _).symm.trans H; with_reducible exact aY) | with_reducible exact H | (rw [aV]; exact H) | exact H
                 have eF := Z aV
                 clear aV
                 have H' := Z H
                 clear H
                 have az : 0 ≤ (b : Int) := od_
                 have aA : b < (a.length : Int) := od_
                 obtain ⟨ar, a2, bf⟩ := Kd.at_int (Kd.Q_reads' HO_45.out).2.2 b az aA
                 cases a2
                 replace az := eq_true az
                 replace aA := eq_true aA
                 have hp := au.out
                 have hF := an.out
                 have hq := av.out
                 have hG := ap.out
                 obtain ⟨ff, fg, fh, fi, fj, fk, gb, gc, gd, ge, gf, gg⟩ := cells6 F.out
                 have p39 : 0 ≤ ((rd a b) : Int) := od_
                 have aP : ((rd a b) : Int) < ((c.length : Int) : Int) := od_
                 obtain ⟨m, aa, aM, aN, a3, dT, aL⟩ := Kd.R_form HO_753002.out (by omega)
                 (first | cases aM | (injection aM with ea_ en_ ec_; (first | subst ea_ | (injection ea_ with ea_; subst ea_)); subst ec_; clear en_))
                 have aW := Z aN
                 have ax := Z aL
                 clear aN a3 aL
                 obtain ⟨dS, aS, aO, X, Y⟩ := Kd.R_elem HO_753002.out z35 ((rd a b) : Int) p39 aP
                 obtain rfl := k35_openM aO
                 have bL : wr.cell? ⟨m, ((rd a b) : Int).toNat * 6, none⟩ = some (.bool ((rd_T35 c (rd a b)).f0)) := X 0 _ rfl
                 have bM : wr.cell? ⟨m, ((rd a b) : Int).toNat * 6 + 1, none⟩ = some (.bool ((rd_T35 c (rd a b)).f1.f0)) := X 1 _ rfl
                 have bN : wr.cell? ⟨m, ((rd a b) : Int).toNat * 6 + 2, none⟩ = some (.bool ((rd_T35 c (rd a b)).f1.f1)) := X 2 _ rfl
                 have bO : wr.cell? ⟨m, ((rd a b) : Int).toNat * 6 + 3, none⟩ = some (.int .i64 ((rd_T35 c (rd a b)).f1.f2)) := X 3 _ rfl
                 have bP : wr.cell? ⟨m, ((rd a b) : Int).toNat * 6 + 4, none⟩ = some (.bool ((rd_T35 c (rd a b)).f1.f3)) := X 4 _ rfl
                 have bQ : wr.cell? ⟨m, ((rd a b) : Int).toNat * 6 + 5, none⟩ = some (.int .u8 ((rd_T35 c (rd a b)).f2)) := X 5 _ rfl
                 have bF : wr.frozen? ⟨m, ((rd a b) : Int).toNat * 6, none⟩ = false := Y 0
                 have bG : wr.frozen? ⟨m, ((rd a b) : Int).toNat * 6 + 1, none⟩ = false := Y 1
                 have bH : wr.frozen? ⟨m, ((rd a b) : Int).toNat * 6 + 2, none⟩ = false := Y 2
                 have bI : wr.frozen? ⟨m, ((rd a b) : Int).toNat * 6 + 3, none⟩ = false := Y 3
                 have bJ : wr.frozen? ⟨m, ((rd a b) : Int).toNat * 6 + 4, none⟩ = false := Y 4
                 have bK : wr.frozen? ⟨m, ((rd a b) : Int).toNat * 6 + 5, none⟩ = false := Y 5
                 clear aS X Y aO
                 replace p39 := eq_true p39
                 replace aP := eq_true aP
                 have dN := Z (show Kd.R k35 35 wr w.heap.size (fun k_ => (w.heap.size ≤ k_)) (.slice (some ⟨m, 0, none⟩) c.length aa) c from (by (with_reducible repeat apply pR); exact HO_753002.out))
                 obtain ⟨hT, cg, dZ, br, ck⟩ := Kd.R_elem dN.out z35 ((rd a b) : Int) (od_) (by have h_ : ((rd a b) : Int) < ((c.length : Int) : Int) := od_; first | exact h_ | (have e_ := (Kd.R_reads' HO_753002.out).1; omega) | simpa using h_)
                 obtain rfl := k35_openM dZ
                 have bT := Kd.R_seg dN.out ((rd a b) : Int) (od_) (by have h_ : ((rd a b) : Int) < ((c.length : Int) : Int) := od_; first | exact h_ | (have e_ := (Kd.R_reads' HO_753002.out).1; omega) | simpa using h_) (seg := [.int .u8 0]) (j := 5) cg br (show 6 ≤ 6 from by decide) (x' := (⟨(rd_T35 c (rd a b)).f0, (⟨(rd_T35 c (rd a b)).f1.f0, (rd_T35 c (rd a b)).f1.f1, (rd_T35 c (rd a b)).f1.f2, (rd_T35 c (rd a b)).f1.f3⟩ : S33), 0⟩ : S35)) (k35_mkM _ _ _ (⟨(rd_T35 c (rd a b)).f0, (⟨(rd_T35 c (rd a b)).f1.f0, (rd_T35 c (rd a b)).f1.f1, (rd_T35 c (rd a b)).f1.f2, (rd_T35 c (rd a b)).f1.f3⟩ : S33), 0⟩ : S35) ) (fun _ hk => hk)
                 have ei := br 5 _ rfl
                 (try simp only [show (k35).sz = 6 from rfl, Nat.mul_one, Nat.add_zero] at ei)
                 have d9 := ck 5
                 (try simp only [show (k35).sz = 6 from rfl, Nat.mul_one, Nat.add_zero] at d9)
                 clear cg br ck dZ
                 try go_wp2_with (first | ((with_reducible refine gate_store (t := 5) (p := 56) rfl ?_); refine sx_ 5 56 (wr.setCell ⟨m, ((rd a b) : Int).toNat * 6 + 5, none⟩ (.int .u8 0)) ?_; intro bR hw; have hg : wr.grownBy bR (some m) := (by rw [hw]; exact bT.2); have hp_ : Kd.R k35 35 bR w.heap.size (fun k_ => (w.heap.size ≤ k_)) (.slice (some ⟨m, 0, none⟩) c.length aa) O := (by rw [hw, bq.out]; exact bT.1); clear bT; replace HO_6 := Z (Kd.Q_over' (v := (.slice (some ⟨m, 0, none⟩) c.length aa)) (by (with_reducible repeat (first | apply Kd.Q_alloc | apply Kd.Q_drewN | apply Kd.Q_drew)); exact HO_6.out) (Kd.R_typed HO_753002.out) (by decide) hg); replace HO_45 := Z (Kd.Q_over' (v := (.slice (some ⟨m, 0, none⟩) c.length aa)) (by (with_reducible repeat (first | apply Kd.Q_alloc | apply Kd.Q_drewN | apply Kd.Q_drew)); exact HO_45.out) (Kd.R_typed HO_753002.out) (by decide) hg); replace HO_718002 := Z (Kd.V_afterv (v := (.slice (some ⟨m, 0, none⟩) c.length aa)) (v1 := (.slice (some ⟨m, 0, none⟩) c.length aa)) (ok := (fun k_ => (aq k_ ∨ w.heap.size ≤ k_) ∧ some k_ ≠ (.slice (some ar) a.length aB : Value).ownBlock ∧ some k_ ≠ (.slice (some ar) a.length aB : Value).ownBlock ∧ k_ ≠ P ∧ k_ ≠ B ∧ k_ ≠ D)) (by (with_reducible repeat apply pV); exact Kd.V_mono HO_718002.out (fun _ hk => ⟨⟨hk.1, ⟨hk.2.1, ⟨hk.2.2.1, ⟨hk.2.2.2.2.1, ⟨hk.2.2.2.2.2.1, hk.2.2.2.2.2.2⟩⟩⟩⟩⟩, hk.2.2.2.1⟩)) hg (.inl rfl)); replace d := Z (blk_grown (g := P) (o := .cells #[.int .i64 x, .int .i64 y, u718002, .int .i64 l, .bool false, .bool z] 24 (0, 0)) (vK d.out) hg (Kd.R_ne HO_753002.out d.out (by decide))); replace q := Z (blk_grown (g := B) (o := .cells #[.int .i64 0, .int .i64 0, .slice none 0 0, .int .i64 0, .bool false, .bool false] 24 (0, 0)) (vK q.out) hg (Kd.R_ne HO_753002.out q.out (by decide))); replace F := Z (blk_grown (g := D) (o := .cells #[.int .i64 ae, .int .i64 af, .slice (some ⟨m, 0, none⟩) c.length aa, .int .i64 ag, .bool ah, .bool ai] 24 (0, 0)) (vK F.out) hg (Kd.R_ne HO_753002.out F.out (by decide))); replace HO_753002 := Z (hp_); replace HB := Z ((by rw [hw]; exact below_set (HB.out) aW.out : Below w.heap.size w bR)); (try (replace ax := Z (show bR.heap[m]? = some (.cells _ _ (0, 0)) by rw [hw]; exact blk_set ax.out _ _))); clear hg hw hp_))
                 replace HO_6 := Z (Kd.Q_drew HO_6.out)
                 replace HO_45 := Z (Kd.Q_drew HO_45.out)
                 replace HO_718002 := Z (Kd.V_drew HO_718002.out)
                 replace HO_753002 := Z (Kd.R_drew HO_753002.out)
                 replace d := Z (blk_drew d.out)
                 replace q := Z (blk_drew q.out)
                 replace F := Z (blk_drew F.out)
                 replace HB := Z (below_drew1 HB.out)
                 have bY : 0 ≤ ((E) : Int) := od_
                 have b0 : (E) < (a.length : Int) := od_
                 obtain ⟨eG, eX, bg⟩ := Kd.at_int (Kd.Q_reads' HO_6.out).2.2 (E) bY b0
                 obtain rfl : ar = eG := (by injection eX)
                 replace bY := eq_true bY
                 replace b0 := eq_true b0
                 obtain ⟨hR, dV, dX⟩ := Kd.V_slice HO_718002.out
                 (first | subst dX | (injection dX with eQ g1 eR; have g2 := eQ.symm; have g3 := eR.symm; clear eQ g1 eR; subst g2; subst g3))
                 have bZ : 0 ≤ ((rd a (E)) : Int) := od_
                 have b1 : (rd a (E)) < (s.length : Int) := od_
                 obtain ⟨al, eY, bh, bi, bj, bk, bl, bm⟩ := at_T35 (Kd.V_reads' HO_718002.out).2.2 (rd a (E)) bZ b1
                 cases eY
                 replace bZ := eq_true bZ
                 replace b1 := eq_true b1
                 have p46 : 0 ≤ ((rd a b) : Int) := od_
                 have eo : ((rd a b) : Int) < ((c.length : Int) : Int) := od_
                 obtain ⟨hS, eK, dY, aD, aE⟩ := Kd.R_elem HO_753002.out z35 ((rd a b) : Int) p46 eo
                 obtain rfl := k35_openM dY
                 have ec : World.cell? _ ⟨m, ((rd a b) : Int).toNat * 6, none⟩ = some (.bool ((rd_T35 O (rd a b)).f0)) := aD 0 _ rfl
                 have ed : World.cell? _ ⟨m, ((rd a b) : Int).toNat * 6 + 1, none⟩ = some (.bool ((rd_T35 O (rd a b)).f1.f0)) := aD 1 _ rfl
                 have ee : World.cell? _ ⟨m, ((rd a b) : Int).toNat * 6 + 2, none⟩ = some (.bool ((rd_T35 O (rd a b)).f1.f1)) := aD 2 _ rfl
                 have ef : World.cell? _ ⟨m, ((rd a b) : Int).toNat * 6 + 3, none⟩ = some (.int .i64 ((rd_T35 O (rd a b)).f1.f2)) := aD 3 _ rfl
                 have eg : World.cell? _ ⟨m, ((rd a b) : Int).toNat * 6 + 4, none⟩ = some (.bool ((rd_T35 O (rd a b)).f1.f3)) := aD 4 _ rfl
                 have eh : World.cell? _ ⟨m, ((rd a b) : Int).toNat * 6 + 5, none⟩ = some (.int .u8 ((rd_T35 O (rd a b)).f2)) := aD 5 _ rfl
                 have d3 : World.frozen? _ ⟨m, ((rd a b) : Int).toNat * 6, none⟩ = false := aE 0
                 have d4 : World.frozen? _ ⟨m, ((rd a b) : Int).toNat * 6 + 1, none⟩ = false := aE 1
                 have d5 : World.frozen? _ ⟨m, ((rd a b) : Int).toNat * 6 + 2, none⟩ = false := aE 2
                 have d6 : World.frozen? _ ⟨m, ((rd a b) : Int).toNat * 6 + 3, none⟩ = false := aE 3
                 have d7 : World.frozen? _ ⟨m, ((rd a b) : Int).toNat * 6 + 4, none⟩ = false := aE 4
                 have d8 : World.frozen? _ ⟨m, ((rd a b) : Int).toNat * 6 + 5, none⟩ = false := aE 5
                 clear eK aD aE dY
                 replace p46 := eq_true p46
                 replace eo := eq_true eo
                 obtain ⟨hU, ch, d0, cf, eL⟩ := Kd.R_elem HO_753002.out z35 ((rd a b) : Int) (od_) (by have h_ : ((rd a b) : Int) < ((c.length : Int) : Int) := od_; first | exact h_ | (have e_ := (Kd.R_reads' HO_753002.out).1; omega) | simpa using h_)
                 obtain rfl := k35_openM d0
                 have bU := (Kd.R_seg HO_753002.out ((rd a b) : Int) (od_) (by have h_ : ((rd a b) : Int) < ((c.length : Int) : Int) := od_; first | exact h_ | (have e_ := (Kd.R_reads' HO_753002.out).1; omega) | simpa using h_) (seg := [.int .u8 ((rd_T35 s (rd a (E))).f2)]) (j := 5) ch cf (show 6 ≤ 6 from by decide) (x' := (⟨(rd_T35 O (rd a b)).f0, (⟨(rd_T35 O (rd a b)).f1.f0, (rd_T35 O (rd a b)).f1.f1, (rd_T35 O (rd a b)).f1.f2, (rd_T35 O (rd a b)).f1.f3⟩ : S33), (rd_T35 s (rd a (E))).f2⟩ : S35)) (k35_mkM _ _ _ (⟨(rd_T35 O (rd a b)).f0, (⟨(rd_T35 O (rd a b)).f1.f0, (rd_T35 O (rd a b)).f1.f1, (rd_T35 O (rd a b)).f1.f2, (rd_T35 O (rd a b)).f1.f3⟩ : S33), (rd_T35 s (rd a (E))).f2⟩ : S35) ) (fun _ hk => hk)).1
                 rw [← eF.out] at bU
                 have dM := Z bU
                 clear ch cf eL d0 bU
                 refine start_ (n := 16) (S := fun w' => w'.cell? ⟨D, 0, none⟩ = some (.int .i64 ae) ∧ w'.cell? ⟨D, 1, none⟩ = some (.int .i64 af) ∧ w'.cell? ⟨D, 2, none⟩ = some (.slice (some ⟨m, 0, none⟩) c.length aa) ∧ w'.cell? ⟨D, 3, none⟩ = some (.int .i64 ag) ∧ w'.cell? ⟨D, 4, none⟩ = some (.bool ah) ∧ w'.cell? ⟨D, 5, none⟩ = some (.bool ai) ∧ w'.cell? ⟨P, 0, none⟩ = some (.int .i64 x) ∧ w'.cell? ⟨P, 1, none⟩ = some (.int .i64 y) ∧ w'.cell? ⟨P, 2, none⟩ = some (.slice (some al) s.length dV) ∧ w'.cell? ⟨P, 3, none⟩ = some (.int .i64 l) ∧ w'.cell? ⟨P, 4, none⟩ = some (.bool false) ∧ w'.cell? ⟨P, 5, none⟩ = some (.bool z) ∧ w'.cell? (ar.add ((E)).toNat) = some (.int .i64 (rd a (E))) ∧ w'.cell? (al.add (((rd a (E))).toNat * 6)) = some (.bool ((rd_T35 s (rd a (E))).f0)) ∧ w'.cell? ⟨(al.add (((rd a (E))).toNat * 6)).block, (al.add (((rd a (E))).toNat * 6)).off + 1, none⟩ = some (.bool ((rd_T35 s (rd a (E))).f1.f0)) ∧ w'.cell? ⟨(al.add (((rd a (E))).toNat * 6)).block, (al.add (((rd a (E))).toNat * 6)).off + 2, none⟩ = some (.bool ((rd_T35 s (rd a (E))).f1.f1)) ∧ w'.cell? ⟨(al.add (((rd a (E))).toNat * 6)).block, (al.add (((rd a (E))).toNat * 6)).off + 3, none⟩ = some (.int .i64 ((rd_T35 s (rd a (E))).f1.f2)) ∧ w'.cell? ⟨(al.add (((rd a (E))).toNat * 6)).block, (al.add (((rd a (E))).toNat * 6)).off + 4, none⟩ = some (.bool ((rd_T35 s (rd a (E))).f1.f3)) ∧ w'.cell? ⟨(al.add (((rd a (E))).toNat * 6)).block, (al.add (((rd a (E))).toNat * 6)).off + 5, none⟩ = some (.int .u8 ((rd_T35 s (rd a (E))).f2))) (ds := [15]) (bv 16 0) (by kernel_rfl) rfl rfl ⟨(blk_cell F.out 0).trans rfl, (blk_cell F.out 1).trans rfl, (blk_cell F.out 2).trans rfl, (blk_cell F.out 3).trans rfl, (blk_cell F.out 4).trans rfl, (blk_cell F.out 5).trans rfl, (blk_cell d.out 0).trans rfl, (blk_cell d.out 1).trans rfl, (blk_cell d.out 2).trans rfl, (blk_cell d.out 3).trans rfl, (blk_cell d.out 4).trans rfl, (blk_cell d.out 5).trans rfl, bg, bh, bi, bj, bk, bl, bm⟩ (fun hHeld => ?_); refine with_tabW wipe_Do.tab16 wipe_Do.bits16 (fun HT_ HW_ => ?_)
                 (replace ax := Z (blk_drew ax.out)); generalize bR.drew = ih at ax HO_6 HO_45 HO_718002 HO_753002 d q F HB dM d3 d4 d5 d6 d7 d8 ec ed ee ef eg eh bg bh bi bj bk bl bm hHeld ⊢
                 refine pT_ HT_ 0 16 1 (some 66) ?_
                 refine pT_ HT_ 2 16 5 (some 68) ?_
                 refine pT_ HT_ 3 16 13 (some 69) ?_
                 refine pT_ HT_ 5 16 45 (some 71) ?_
                 refine pT_ HT_ 6 16 109 (some 72) ?_
                 refine pT_ HT_ 7 16 237 (some 73) ?_
                 refine pT_ HT_ 8 16 493 (some 74) ?_
                 refine tT_ HT_ HW_ hHeld 1 16 495 (some 67) ?_
                 refine tT_ HT_ HW_ hHeld 4 16 511 (some 70) ?_
                 refine tT_ HT_ HW_ hHeld 9 16 1023 (some 75) ?_
                 refine pT_ HT_ 10 16 2047 (some 76) ?_
                 refine pT_ HT_ 11 16 4095 (some 77) ?_
                 refine tT_ HT_ HW_ hHeld 12 16 8191 (some 78) ?_
                 refine pT_ HT_ 13 16 16383 (some 79) ?_
                 refine pT_ HT_ 14 16 32767 (some 80) ?_
                 refine last_ (i := 15) (N := none) (bv 16 65535) rfl rfl (one_of HT_.out (by kernel_rfl)) (by decide) (fun K hK => ?_)
                 refine skip_ (w1 := ?_) (by rfl) rfl ?_ ?_
                 rotate_left
                 ·go_simp
                  rfl
                 refine hK.out _ _ ?_
                 clear hK K
                 refine done_ (done_of HT_.out (by kernel_rfl)) ?_
                 try go_wp2
                 go_roundg k1
                 case measure => have := bc.out; omega
                 case rel => exact ⟨(E), (s), (eC), (.slice (some al) s.length dV), (.slice (some ⟨m, 0, none⟩) c.length aa), (by first | rfl | (simp; done) | (simp only [← aT] <;> (first | rfl | simp)) | (simp [*]; done)), H', ⟨by have := bc.out; omega⟩, ⟨by (with_reducible repeat (first | apply Kd.Q_alloc | apply Kd.Q_drewN | apply Kd.Q_drew)); exact Kd.Q_mono (Kd.Q_far (p := ⟨m, ((rd a b) : Int).toNat * 6 + 5, none⟩) (Kd.Q_types HO_6.out ax.out (by decide)) (fun _ hk => hk.2) (.int .u8 ((rd_T35 s (rd a (E))).f2))) (fun _ hk => hk.1)⟩, ⟨by (with_reducible repeat (first | apply Kd.Q_alloc | apply Kd.Q_drewN | apply Kd.Q_drew)); exact Kd.Q_mono (Kd.Q_far (p := ⟨m, ((rd a b) : Int).toNat * 6 + 5, none⟩) (Kd.Q_types HO_45.out ax.out (by decide)) (fun _ hk => hk.2) (.int .u8 ((rd_T35 s (rd a (E))).f2))) (fun _ hk => hk.1)⟩, ⟨by (with_reducible repeat apply pV); exact Kd.V_mono (Kd.V_far (p := ⟨m, ((rd a b) : Int).toNat * 6 + 5, none⟩) (Kd.V_mono HO_718002.out (fun k_ hk => (⟨hk, fun e_ => hk.2 (by rw [e_]; rfl)⟩ : _ ∧ k_ ≠ m))) (fun _ hk => hk.2) (.int .u8 ((rd_T35 s (rd a (E))).f2))) (fun _ hk => ⟨hk.1.1.1, ⟨hk.1.1.2.1, ⟨hk.1.1.2.2.1, ⟨hk.1.2, ⟨hk.1.1.2.2.2.1, ⟨hk.1.1.2.2.2.2.1, hk.1.1.2.2.2.2.2⟩⟩⟩⟩⟩⟩)⟩, ⟨by (with_reducible repeat apply pR); exact dM.out⟩, ⟨by (with_reducible repeat apply pK); refine blk_far ?_ (by have h_ := Kd.R_ne HO_753002.out d.out (by decide); intro e_; exact h_ (by rw [e_]; rfl)) _; (with_reducible repeat apply pK); exact d.out⟩, ⟨by (with_reducible repeat apply pK); refine blk_far ?_ (by have h_ := Kd.R_ne HO_753002.out q.out (by decide); intro e_; exact h_ (by rw [e_]; rfl)) _; (with_reducible repeat apply pK); exact q.out⟩, ⟨by (with_reducible repeat apply pK); refine blk_far ?_ (by have h_ := Kd.R_ne HO_753002.out F.out (by decide); intro e_; exact h_ (by rw [e_]; rfl)) _; (with_reducible repeat apply pK); exact F.out⟩, ⟨by repeat (first | (with_reducible first | exact HB.out | apply below_alloc | apply pw_below_drewN | apply below_drew1 | refine below_set ?_ aW.out | refine below_set ?_ bo.out | refine below_set ?_ bp.out | refine below_set ?_ eD.out) | exact HB.out)⟩⟩
                ·rw [if_neg ce] at H
                 exact absurd H (by simp)
               ·rw [if_neg cd] at H
                exact absurd H (by simp)
              ·rw [if_neg cc] at H
               exact absurd H (by simp)
             ·rw [if_neg be] at H
              have cb : decide ((wrap64 (b + 1)) < (a.length : Int)) = false := decide_eq_false be
              clear be
              have H' := Z H
              clear H
              have az : 0 ≤ (b : Int) := od_
              have aA : b < (a.length : Int) := od_
              obtain ⟨ar, a2, bf⟩ := Kd.at_int (Kd.Q_reads' HO_45.out).2.2 b az aA
              cases a2
              replace az := eq_true az
              replace aA := eq_true aA
              have hs := au.out
              have hH := an.out
              have ht := av.out
              have hI := ap.out
              obtain ⟨fl, fm, fn, fo, fp, fq, gh, gi, gj, gl, gm, gn⟩ := cells6 F.out
              have p39 : 0 ≤ ((rd a b) : Int) := od_
              have aP : ((rd a b) : Int) < ((c.length : Int) : Int) := od_
              obtain ⟨m, aa, aM, aN, a3, dT, aL⟩ := Kd.R_form HO_753002.out (by omega)
              (first | cases aM | (injection aM with ea_ en_ ec_; (first | subst ea_ | (injection ea_ with ea_; subst ea_)); subst ec_; clear en_))
              have aW := Z aN
              have ax := Z aL
              clear aN a3 aL
              obtain ⟨dS, aS, aO, X, Y⟩ := Kd.R_elem HO_753002.out z35 ((rd a b) : Int) p39 aP
              obtain rfl := k35_openM aO
              have bL : wr.cell? ⟨m, ((rd a b) : Int).toNat * 6, none⟩ = some (.bool ((rd_T35 c (rd a b)).f0)) := X 0 _ rfl
              have bM : wr.cell? ⟨m, ((rd a b) : Int).toNat * 6 + 1, none⟩ = some (.bool ((rd_T35 c (rd a b)).f1.f0)) := X 1 _ rfl
              have bN : wr.cell? ⟨m, ((rd a b) : Int).toNat * 6 + 2, none⟩ = some (.bool ((rd_T35 c (rd a b)).f1.f1)) := X 2 _ rfl
              have bO : wr.cell? ⟨m, ((rd a b) : Int).toNat * 6 + 3, none⟩ = some (.int .i64 ((rd_T35 c (rd a b)).f1.f2)) := X 3 _ rfl
              have bP : wr.cell? ⟨m, ((rd a b) : Int).toNat * 6 + 4, none⟩ = some (.bool ((rd_T35 c (rd a b)).f1.f3)) := X 4 _ rfl
              have bQ : wr.cell? ⟨m, ((rd a b) : Int).toNat * 6 + 5, none⟩ = some (.int .u8 ((rd_T35 c (rd a b)).f2)) := X 5 _ rfl
              have bF : wr.frozen? ⟨m, ((rd a b) : Int).toNat * 6, none⟩ = false := Y 0
              have bG : wr.frozen? ⟨m, ((rd a b) : Int).toNat * 6 + 1, none⟩ = false := Y 1
              have bH : wr.frozen? ⟨m, ((rd a b) : Int).toNat * 6 + 2, none⟩ = false := Y 2
              have bI : wr.frozen? ⟨m, ((rd a b) : Int).toNat * 6 + 3, none⟩ = false := Y 3
              have bJ : wr.frozen? ⟨m, ((rd a b) : Int).toNat * 6 + 4, none⟩ = false := Y 4
              have bK : wr.frozen? ⟨m, ((rd a b) : Int).toNat * 6 + 5, none⟩ = false := Y 5
              clear aS X Y aO
              replace p39 := eq_true p39
              replace aP := eq_true aP
              have dO := Z (show Kd.R k35 35 wr w.heap.size (fun k_ => (w.heap.size ≤ k_)) (.slice (some ⟨m, 0, none⟩) c.length aa) c from (by (with_reducible repeat apply pR); exact HO_753002.out))
              obtain ⟨hV, ci, d1, bs, cl⟩ := Kd.R_elem dO.out z35 ((rd a b) : Int) (od_) (by have h_ : ((rd a b) : Int) < ((c.length : Int) : Int) := od_; first | exact h_ | (have e_ := (Kd.R_reads' HO_753002.out).1; omega) | simpa using h_)
              obtain rfl := k35_openM d1
              have bV := Kd.R_seg dO.out ((rd a b) : Int) (od_) (by have h_ : ((rd a b) : Int) < ((c.length : Int) : Int) := od_; first | exact h_ | (have e_ := (Kd.R_reads' HO_753002.out).1; omega) | simpa using h_) (seg := [.int .u8 0]) (j := 5) ci bs (show 6 ≤ 6 from by decide) (x' := (⟨(rd_T35 c (rd a b)).f0, (⟨(rd_T35 c (rd a b)).f1.f0, (rd_T35 c (rd a b)).f1.f1, (rd_T35 c (rd a b)).f1.f2, (rd_T35 c (rd a b)).f1.f3⟩ : S33), 0⟩ : S35)) (k35_mkM _ _ _ (⟨(rd_T35 c (rd a b)).f0, (⟨(rd_T35 c (rd a b)).f1.f0, (rd_T35 c (rd a b)).f1.f1, (rd_T35 c (rd a b)).f1.f2, (rd_T35 c (rd a b)).f1.f3⟩ : S33), 0⟩ : S35) ) (fun _ hk => hk)
              have ej := bs 5 _ rfl
              (try simp only [show (k35).sz = 6 from rfl, Nat.mul_one, Nat.add_zero] at ej)
              have ea := cl 5
              (try simp only [show (k35).sz = 6 from rfl, Nat.mul_one, Nat.add_zero] at ea)
              clear ci bs cl d1
              go_wp2_with (first | ((with_reducible refine gate_store (t := 5) (p := 56) rfl ?_); refine sx_ 5 56 (wr.setCell ⟨m, ((rd a b) : Int).toNat * 6 + 5, none⟩ (.int .u8 0)) ?_; intro eB hw; have hg : wr.grownBy eB (some m) := (by rw [hw]; exact bV.2); have hp_ : Kd.R k35 35 eB w.heap.size (fun k_ => (w.heap.size ≤ k_)) (.slice (some ⟨m, 0, none⟩) c.length aa) O := (by rw [hw, bq.out]; exact bV.1); clear bV; replace HO_6 := Z (Kd.Q_over' (v := (.slice (some ⟨m, 0, none⟩) c.length aa)) (by (with_reducible repeat (first | apply Kd.Q_alloc | apply Kd.Q_drewN | apply Kd.Q_drew)); exact HO_6.out) (Kd.R_typed HO_753002.out) (by decide) hg); replace HO_45 := Z (Kd.Q_over' (v := (.slice (some ⟨m, 0, none⟩) c.length aa)) (by (with_reducible repeat (first | apply Kd.Q_alloc | apply Kd.Q_drewN | apply Kd.Q_drew)); exact HO_45.out) (Kd.R_typed HO_753002.out) (by decide) hg); replace HO_718002 := Z (Kd.V_afterv (v := (.slice (some ⟨m, 0, none⟩) c.length aa)) (v1 := (.slice (some ⟨m, 0, none⟩) c.length aa)) (ok := (fun k_ => (aq k_ ∨ w.heap.size ≤ k_) ∧ some k_ ≠ (.slice (some ar) a.length aB : Value).ownBlock ∧ some k_ ≠ (.slice (some ar) a.length aB : Value).ownBlock ∧ k_ ≠ P ∧ k_ ≠ B ∧ k_ ≠ D)) (by (with_reducible repeat apply pV); exact Kd.V_mono HO_718002.out (fun _ hk => ⟨⟨hk.1, ⟨hk.2.1, ⟨hk.2.2.1, ⟨hk.2.2.2.2.1, ⟨hk.2.2.2.2.2.1, hk.2.2.2.2.2.2⟩⟩⟩⟩⟩, hk.2.2.2.1⟩)) hg (.inl rfl)); replace d := Z (blk_grown (g := P) (o := .cells #[.int .i64 x, .int .i64 y, u718002, .int .i64 l, .bool false, .bool z] 24 (0, 0)) (vK d.out) hg (Kd.R_ne HO_753002.out d.out (by decide))); replace q := Z (blk_grown (g := B) (o := .cells #[.int .i64 0, .int .i64 0, .slice none 0 0, .int .i64 0, .bool false, .bool false] 24 (0, 0)) (vK q.out) hg (Kd.R_ne HO_753002.out q.out (by decide))); replace F := Z (blk_grown (g := D) (o := .cells #[.int .i64 ae, .int .i64 af, .slice (some ⟨m, 0, none⟩) c.length aa, .int .i64 ag, .bool ah, .bool ai] 24 (0, 0)) (vK F.out) hg (Kd.R_ne HO_753002.out F.out (by decide))); replace HO_753002 := Z (hp_); replace HB := Z ((by rw [hw]; exact below_set (HB.out) aW.out : Below w.heap.size w eB)); clear hg hw hp_))
              go_roundg k1
              case measure => have := bc.out; omega
              case rel => exact ⟨(wrap64 (b + 1)), (s), (O), (u718002), (.slice (some ⟨m, 0, none⟩) c.length aa), (dn_), H', ⟨by have := bc.out; omega⟩, ⟨by (with_reducible repeat (first | apply Kd.Q_alloc | apply Kd.Q_drewN | apply Kd.Q_drew)); exact HO_6.out⟩, ⟨by (with_reducible repeat (first | apply Kd.Q_alloc | apply Kd.Q_drewN | apply Kd.Q_drew)); exact HO_45.out⟩, ⟨by (with_reducible repeat apply pV); exact Kd.V_mono HO_718002.out (fun _ hk => ⟨hk.1.1, ⟨hk.1.2.1, ⟨hk.1.2.2.1, ⟨hk.2, ⟨hk.1.2.2.2.1, ⟨hk.1.2.2.2.2.1, hk.1.2.2.2.2.2⟩⟩⟩⟩⟩⟩)⟩, ⟨by (with_reducible repeat apply pR); exact HO_753002.out⟩, ⟨vK d.out⟩, ⟨vK q.out⟩, ⟨vK F.out⟩, ⟨bl_⟩⟩
            ·rw [if_neg aZ] at H
             obtain ⟨eI, eJ⟩ := eF_ aZ
             have H' := Z H
             clear H
             have az : 0 ≤ (b : Int) := od_
             have aA : b < (a.length : Int) := od_
             obtain ⟨ar, a2, bf⟩ := Kd.at_int (Kd.Q_reads' HO_45.out).2.2 b az aA
             cases a2
             replace az := eq_true az
             replace aA := eq_true aA
             have hu := au.out
             have hJ := an.out
             have hv := av.out
             have hL := ap.out
             obtain ⟨fr, fs, ft, fu, fv, fw, go, gp, gq, gr, gs, gt⟩ := cells6 F.out
             have p39 : 0 ≤ ((rd a b) : Int) := od_
             have aP : ((rd a b) : Int) < ((c.length : Int) : Int) := od_
             obtain ⟨m, aa, aM, aN, a3, dT, aL⟩ := Kd.R_form HO_753002.out (by omega)
             (first | cases aM | (injection aM with ea_ en_ ec_; (first | subst ea_ | (injection ea_ with ea_; subst ea_)); subst ec_; clear en_))
             have aW := Z aN
             have ax := Z aL
             clear aN a3 aL
             obtain ⟨dS, aS, aO, X, Y⟩ := Kd.R_elem HO_753002.out z35 ((rd a b) : Int) p39 aP
             obtain rfl := k35_openM aO
             have bL : wr.cell? ⟨m, ((rd a b) : Int).toNat * 6, none⟩ = some (.bool ((rd_T35 c (rd a b)).f0)) := X 0 _ rfl
             have bM : wr.cell? ⟨m, ((rd a b) : Int).toNat * 6 + 1, none⟩ = some (.bool ((rd_T35 c (rd a b)).f1.f0)) := X 1 _ rfl
             have bN : wr.cell? ⟨m, ((rd a b) : Int).toNat * 6 + 2, none⟩ = some (.bool ((rd_T35 c (rd a b)).f1.f1)) := X 2 _ rfl
             have bO : wr.cell? ⟨m, ((rd a b) : Int).toNat * 6 + 3, none⟩ = some (.int .i64 ((rd_T35 c (rd a b)).f1.f2)) := X 3 _ rfl
             have bP : wr.cell? ⟨m, ((rd a b) : Int).toNat * 6 + 4, none⟩ = some (.bool ((rd_T35 c (rd a b)).f1.f3)) := X 4 _ rfl
             have bQ : wr.cell? ⟨m, ((rd a b) : Int).toNat * 6 + 5, none⟩ = some (.int .u8 ((rd_T35 c (rd a b)).f2)) := X 5 _ rfl
             have bF : wr.frozen? ⟨m, ((rd a b) : Int).toNat * 6, none⟩ = false := Y 0
             have bG : wr.frozen? ⟨m, ((rd a b) : Int).toNat * 6 + 1, none⟩ = false := Y 1
             have bH : wr.frozen? ⟨m, ((rd a b) : Int).toNat * 6 + 2, none⟩ = false := Y 2
             have bI : wr.frozen? ⟨m, ((rd a b) : Int).toNat * 6 + 3, none⟩ = false := Y 3
             have bJ : wr.frozen? ⟨m, ((rd a b) : Int).toNat * 6 + 4, none⟩ = false := Y 4
             have bK : wr.frozen? ⟨m, ((rd a b) : Int).toNat * 6 + 5, none⟩ = false := Y 5
             clear aS X Y aO
             replace p39 := eq_true p39
             replace aP := eq_true aP
             have dP := Z (show Kd.R k35 35 wr w.heap.size (fun k_ => (w.heap.size ≤ k_)) (.slice (some ⟨m, 0, none⟩) c.length aa) c from (by (with_reducible repeat apply pR); exact HO_753002.out))
             obtain ⟨hW, cj, d2, bt, cm⟩ := Kd.R_elem dP.out z35 ((rd a b) : Int) (od_) (by have h_ : ((rd a b) : Int) < ((c.length : Int) : Int) := od_; first | exact h_ | (have e_ := (Kd.R_reads' HO_753002.out).1; omega) | simpa using h_)
             obtain rfl := k35_openM d2
             have bW := Kd.R_seg dP.out ((rd a b) : Int) (od_) (by have h_ : ((rd a b) : Int) < ((c.length : Int) : Int) := od_; first | exact h_ | (have e_ := (Kd.R_reads' HO_753002.out).1; omega) | simpa using h_) (seg := [.int .u8 0]) (j := 5) cj bt (show 6 ≤ 6 from by decide) (x' := (⟨(rd_T35 c (rd a b)).f0, (⟨(rd_T35 c (rd a b)).f1.f0, (rd_T35 c (rd a b)).f1.f1, (rd_T35 c (rd a b)).f1.f2, (rd_T35 c (rd a b)).f1.f3⟩ : S33), 0⟩ : S35)) (k35_mkM _ _ _ (⟨(rd_T35 c (rd a b)).f0, (⟨(rd_T35 c (rd a b)).f1.f0, (rd_T35 c (rd a b)).f1.f1, (rd_T35 c (rd a b)).f1.f2, (rd_T35 c (rd a b)).f1.f3⟩ : S33), 0⟩ : S35) ) (fun _ hk => hk)
             have ek := bt 5 _ rfl
             (try simp only [show (k35).sz = 6 from rfl, Nat.mul_one, Nat.add_zero] at ek)
             have eb := cm 5
             (try simp only [show (k35).sz = 6 from rfl, Nat.mul_one, Nat.add_zero] at eb)
             clear cj bt cm d2
             go_wp2_with (first | ((with_reducible refine gate_store (t := 5) (p := 56) rfl ?_); refine sx_ 5 56 (wr.setCell ⟨m, ((rd a b) : Int).toNat * 6 + 5, none⟩ (.int .u8 0)) ?_; intro w64 hw; have hg : wr.grownBy w64 (some m) := (by rw [hw]; exact bW.2); have hp_ : Kd.R k35 35 w64 w.heap.size (fun k_ => (w.heap.size ≤ k_)) (.slice (some ⟨m, 0, none⟩) c.length aa) O := (by rw [hw, bq.out]; exact bW.1); clear bW; replace HO_6 := Z (Kd.Q_over' (v := (.slice (some ⟨m, 0, none⟩) c.length aa)) (by (with_reducible repeat (first | apply Kd.Q_alloc | apply Kd.Q_drewN | apply Kd.Q_drew)); exact HO_6.out) (Kd.R_typed HO_753002.out) (by decide) hg); replace HO_45 := Z (Kd.Q_over' (v := (.slice (some ⟨m, 0, none⟩) c.length aa)) (by (with_reducible repeat (first | apply Kd.Q_alloc | apply Kd.Q_drewN | apply Kd.Q_drew)); exact HO_45.out) (Kd.R_typed HO_753002.out) (by decide) hg); replace HO_718002 := Z (Kd.V_afterv (v := (.slice (some ⟨m, 0, none⟩) c.length aa)) (v1 := (.slice (some ⟨m, 0, none⟩) c.length aa)) (ok := (fun k_ => (aq k_ ∨ w.heap.size ≤ k_) ∧ some k_ ≠ (.slice (some ar) a.length aB : Value).ownBlock ∧ some k_ ≠ (.slice (some ar) a.length aB : Value).ownBlock ∧ k_ ≠ P ∧ k_ ≠ B ∧ k_ ≠ D)) (by (with_reducible repeat apply pV); exact Kd.V_mono HO_718002.out (fun _ hk => ⟨⟨hk.1, ⟨hk.2.1, ⟨hk.2.2.1, ⟨hk.2.2.2.2.1, ⟨hk.2.2.2.2.2.1, hk.2.2.2.2.2.2⟩⟩⟩⟩⟩, hk.2.2.2.1⟩)) hg (.inl rfl)); replace d := Z (blk_grown (g := P) (o := .cells #[.int .i64 x, .int .i64 y, u718002, .int .i64 l, .bool false, .bool z] 24 (0, 0)) (vK d.out) hg (Kd.R_ne HO_753002.out d.out (by decide))); replace q := Z (blk_grown (g := B) (o := .cells #[.int .i64 0, .int .i64 0, .slice none 0 0, .int .i64 0, .bool false, .bool false] 24 (0, 0)) (vK q.out) hg (Kd.R_ne HO_753002.out q.out (by decide))); replace F := Z (blk_grown (g := D) (o := .cells #[.int .i64 ae, .int .i64 af, .slice (some ⟨m, 0, none⟩) c.length aa, .int .i64 ag, .bool ah, .bool ai] 24 (0, 0)) (vK F.out) hg (Kd.R_ne HO_753002.out F.out (by decide))); replace HO_753002 := Z (hp_); replace HB := Z ((by rw [hw]; exact below_set (HB.out) aW.out : Below w.heap.size w w64)); clear hg hw hp_))
             go_roundg k1
             case measure => have := bc.out; omega
             case rel => exact ⟨(wrap64 (b + 1)), (s), (O), (u718002), (.slice (some ⟨m, 0, none⟩) c.length aa), (dn_), H', ⟨by have := bc.out; omega⟩, ⟨by (with_reducible repeat (first | apply Kd.Q_alloc | apply Kd.Q_drewN | apply Kd.Q_drew)); exact HO_6.out⟩, ⟨by (with_reducible repeat (first | apply Kd.Q_alloc | apply Kd.Q_drewN | apply Kd.Q_drew)); exact HO_45.out⟩, ⟨by (with_reducible repeat apply pV); exact Kd.V_mono HO_718002.out (fun _ hk => ⟨hk.1.1, ⟨hk.1.2.1, ⟨hk.1.2.2.1, ⟨hk.2, ⟨hk.1.2.2.2.1, ⟨hk.1.2.2.2.2.1, hk.1.2.2.2.2.2⟩⟩⟩⟩⟩⟩)⟩, ⟨by (with_reducible repeat apply pR); exact HO_753002.out⟩, ⟨vK d.out⟩, ⟨vK q.out⟩, ⟨vK F.out⟩, ⟨bl_⟩⟩
           ·rw [if_neg ca] at H
            exact absurd H (by simp)
          ·rw [if_neg b9] at H
           exact absurd H (by simp)
         ·rw [if_neg b8] at H
          exact absurd H (by simp)
        ·rw [if_neg b7] at H
         exact absurd H (by simp)
       ·rw [if_neg bd] at H
        have eH : decide (b < (a.length : Int)) = false := decide_eq_false bd
        clear bd
        simp only [Option.some.injEq, Prod.mk.injEq] at H
        (first | obtain ⟨rfl, rfl, rfl, rfl, rfl, rfl, _, rfl⟩ := H | obtain ⟨rfl, rfl, rfl, rfl, rfl, rfl, rfl⟩ := H)
        have hx := au.out
        have hM := an.out
        have hy := av.out
        have hN := ap.out
        obtain ⟨fx, fy, fz, fA, fB, fC, gu, gv, gw, gx, gy, gz⟩ := cells6 F.out
        have hz := ao.out
        have hO := am.out
        obtain ⟨fD, fE, fF, fG, fH, fI, gA, gB, gC, gD, gE, gF⟩ := cells6 q.out
        obtain ⟨dL, dW, e2⟩ := Kd.R_slice HO_753002.out
        subst e2
        go_wp2
        refine bodyPost_ret (results_ct rfl _ _ B 24 #[.int .i64 ae, .int .i64 af, .slice dL c.length dW, .int .i64 ag, .bool ah, .bool ai] (0, 0) _ rfl (put6 q.out) Tryd.underlying24 rfl (by kernel_rfl)) rfl ?_
        exact ⟨_, _, er_, by (with_reducible repeat apply pR); exact Kd.R_mono (f6R B (Kd.R_types HO_753002.out q.out (by decide)) (fun _ hk => hk.2)) (fun _ hk => hk.1), Kd.R_V (Kd.R_nil _ _ _ 0 _), bl_⟩
    ·replace bD := Bool.eq_false_iff.mpr bD
     subst bD
     have H1 : ((edit_Deny.f x y u l false z (some (Er.num 8)) ([] : List (S164))).bind fun A => (some (A.1, A.2.1, A.2.2.1, A.2.2.2.1, A.2.2.2.2.1, A.2.2.2.2.2.1, A.2.2.2.2.2.2.1, A.2.2.2.2.2.2.2))) = some (r1, r2, r3, r4, r5, r6, (none : Option Er), r8) := by rw [if_neg (show ¬ (false = true) by decide)] at H; exact H
     clear H
     have H := H1
     clear H1
     replace H := Option.bind_eq_some_iff.mp H
     obtain ⟨⟨a4, a5, a6, a7, a8, a9, ey, ez⟩, dJ, H⟩ := H
     replace H : (some (a4, a5, a6, a7, a8, a9, ey, ez)) = some (r1, r2, r3, r4, r5, r6, (none : Option Er), r8) := H
     have g0 := Z dJ
     clear dJ
     rcases ey with _ | h9
     ·try simp only [errW_none, errW_some]
      simp only [Option.some.injEq, Prod.mk.injEq] at H
      (first | obtain ⟨rfl, rfl, rfl, rfl, rfl, rfl, _, rfl⟩ := H | obtain ⟨rfl, rfl, rfl, rfl, rfl, rfl, rfl⟩ := H)
      go_enter Tryd.func19, Tryd.ntmps19
      go_wp2_with (first | ((with_reducible refine gate_dst (N := 2) rfl ?_); (try (refine gate_guard (by rfl) ?_; dsimp only)); refine bx_ 2 24 #[.int .i64 x, .int .i64 y, .slice ac u.length ad, .int .i64 l, .bool false, .bool z] ?_; intro P hg ii hbox hb; replace r := Z (ve r.out hg hb); have d := Z (hbox); have b3 := Z (ln_ hg : w.heap.size ≤ P); have bo := b3; replace HB := bs_ hb; clear hb hbox hg) | ((with_reducible refine gate_dst (N := 4) rfl ?_); (try (refine gate_guard (by rfl) ?_; dsimp only)); refine bx_ 4 24 #[.int .i64 0, .int .i64 0, .slice none 0 0, .int .i64 0, .bool false, .bool false] ?_; intro B hg bb hbox hb; replace r := Z (ve r.out hg hb); have q := Z (hbox); have b4 := Z (ln_ hg : w.heap.size ≤ B); have bp := b4; replace HB := bs_ hb; have am := nl' d hg; have ao := ng' d hg; replace d := kb' d hb; clear hb hbox hg) | ((with_reducible refine gate_callee (f := 29) rfl ?_); refine goesL_ (some 12) rfl rfl Tryd.func29 (by kernel_rfl) rfl #[.int .i64 a1] rfl ag_ ?_; (with_reducible refine (wipe_Wipes.calls a1 true _ A3.out).mono ?_); rintro e w' ⟨rfl, ⟨nd, rfl⟩⟩; refine ⟨_, rfl, ?_⟩; (try (rw [drewN_self bb]; generalize hq_ : World.drewN bb _ = bb; replace r := Z (qV hq_ r.out); replace d := Z (qM hq_ d.out); replace q := Z (qM hq_ q.out); replace HB := Z (qB hq_ HB.out); clear hq_)); have hA := am.out; have hP := ao.out; obtain ⟨fJ, fK, fL, fM, fN, fO, gG, gH, gI, gJ, gK, gL⟩ := cells6 d.out) | ((with_reducible refine gate_callee (f := 44) rfl ?_); refine goesL_ (some 30) rfl rfl Tryd.func44 (by kernel_rfl) rfl #[.agg #[.int .i64 x, .int .i64 y, .slice ac u.length ad, .int .i64 l, .bool false, .bool z], .int .i64 l] rfl ag_ ?_; (with_reducible refine (field_Open.calls x y _ _ u l false z l false _ ?side1 ?side2 eN.out).mono ?_); (case side1 => repeat (first | exact (Kd.V_reads' r.out).2.2 | (with_reducible apply pC))); (case side2 => exact (Kd.V_reads' r.out).2.1); rintro e ij ⟨rfl, hb⟩; refine ⟨_, rfl, ?_⟩; replace r := vb' r hb; replace d := kb' d hb; replace q := kb' q hb; replace HB := bs_ hb; clear hb; obtain ⟨fP, fQ, fR, fS, fT, fU, gM, gN, gO, gP, gQ, gR⟩ := cells6 d.out) | ((with_reducible refine gate_callee (f := 34) rfl ?_); refine goesL_ (some 34) rfl rfl Tryd.func34 (by kernel_rfl) rfl #[.agg #[.int .i64 x, .int .i64 y, .slice ac u.length ad, .int .i64 l, .bool false, .bool z], errW (.slice none 0 0) (some (Er.num 8))] rfl ag_ ?_; (refine (edit_Deny.calls x y _ _ u l false z (some (Er.num 8)) _ _ ([] : List (S164)) a4 a5 a6 a7 a8 a9 none ez _ ?side1 ?side2 ?side3 ?side4 g0.out).mono ?_); (case side1 => repeat (first | exact (Kd.V_reads' r.out).2.2 | (with_reducible apply pC))); (case side2 => exact (Kd.V_reads' r.out).2.1); (case side3 => exact Kd.C_nil _ _); (case side4 => exact Nat.le_refl _); rintro e ik ⟨fe, h1, rfl, ay, eS, hb⟩; refine ⟨_, rfl, ?_⟩; replace r := Z (Kd.V_elder' (vV r.out) (Kd.R_base ay) hb); have b6 := Z (Kd.R_lower (Kd.R_newM (M := fun k_ => (w.heap.size ≤ k_)) (Kd.R_mono (ok' := fun k_ => True) ay (fun _ hk_ => trivial)) (below_size bl_) (fun k_ h_ => h_)) (below_size bl_)); have eE := Z (Kd.V_lower (Kd.V_mono (ok' := fun k_ => (aq k_ ∨ w.heap.size ≤ k_) ∧ some k_ ≠ (fe : Value).ownBlock ∧ k_ ≠ P ∧ k_ ≠ B) eS (fun k_ hk_ => ⟨(.inr (Nat.le_trans (below_size bl_) hk_.1)), hk_.2, (Kd.freshB (g := P) (o := .cells #[.int .i64 x, .int .i64 y, .slice ac u.length ad, .int .i64 l, .bool false, .bool z] 24 (0, 0)) (vK d.out) k_ hk_.1), (Kd.freshB (g := B) (o := .cells #[.int .i64 0, .int .i64 0, .slice none 0 0, .int .i64 0, .bool false, .bool false] 24 (0, 0)) (vK q.out) k_ hk_.1)⟩)) (below_size bl_)); replace d := kb' d hb; replace q := kb' q hb; replace HB := bs_ hb; clear hb ay eS; (try simp only [errW_none, errW_some]); obtain ⟨fV, fW, fX, fY, fZ, ga, gS, gT, gU, gV, gW, gX⟩ := cells6 q.out; obtain ⟨bS, bX, e3⟩ := Kd.R_slice b6.out; subst e3))
      refine bodyPost_ret (results_ct rfl _ _ B 24 #[.int .i64 a4, .int .i64 a5, .slice bS a6.length bX, .int .i64 a7, .bool a8, .bool a9] (0, 0) _ rfl (put6 q.out) Tryd.underlying24 rfl (by kernel_rfl)) rfl ?_
      exact ⟨_, _, er_, by (with_reducible repeat apply pR); exact Kd.R_mono (f6R B (Kd.R_types b6.out q.out (by decide)) (fun _ hk => hk.2)) (fun _ hk => hk.1.1), by (with_reducible repeat apply pV); exact Kd.V_mono (f6V B (Kd.V_mono eE.out (fun k_ hk => (⟨hk, hk.2.2.2⟩ : _ ∧ k_ ≠ B))) (fun _ hk => hk.2)) (fun _ hk => ⟨hk.1.1, hk.1.2.1⟩), bl_⟩
     ·exact absurd H (by simp)
 ·replace c4 := Bool.eq_false_iff.mpr c4
  subst c4
  have H1 : (some (x, y, u, l, W, z, some (Er.num 1), ([] : List (S164)))) = some (r1, r2, r3, r4, r5, r6, (none : Option Er), r8) := by rw [if_neg (show ¬ (false = true) by decide)] at H; exact H
  clear H
  have H := H1
  clear H1
  exact absurd H (by simp)
end Go.Proofs.YtggecanpjkpkiaaDoor.P
