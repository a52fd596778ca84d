/- pp.py and press2.py (wip/tools) wrote this text. -/
import Derived.Test.YtjpedimndkibnaaGreatDoorPx0
import Derived.Test.YtjpedimndkibnaaGreatDoorPxS
import Derived.Test.YtjpedimndkibnaaGreatDoorPxT
import Derived.Test.YtjpedimndkibnaaGreatDoorPx3
import Derived.Test.YtjpedimndkibnaaGreatDoorPx6
import Derived.Test.YtjpedimndkibnaaGreatDoorPx7
import Derived.Test.YtjpedimndkibnaaGreatDoorPx8
namespace Go.Proofs.YtjpedimndkibnaaGreatDoor.P
open Go.RowKit Go.Proofs.YtjpedimndkibnaaGreatDoorW.PrintWords Go.Proofs.YtjpedimndkibnaaGreatDoorW.PrintLast Go.Proofs.YtjpedimndkibnaaGreatDoorW.PrintMore
attribute [local go_sem] max2_int min2_int max_two min_two max_three min_three max_four min_four
attribute [local go_sem] Instr.field asAgg
set_option linter.unusedVariables false
set_option linter.unusedSimpArgs false
set_option maxHeartbeats 8000000
set_option maxRecDepth 100000

/-! ### host_Reset: function 22 -/
section
/-- A cell, modified no more: whatever cell, or one that is not protected. -/
def resetC (all : Bool) (c : S55) : S55 := if (all || !c.f1.f0) = true then ⟨c.f0, ⟨c.f1.f0, c.f1.f1, c.f1.f2, false⟩, c.f2⟩ else c
def resetN (all : Bool) (l : List S55) (i : Nat) : List S55 := (l.take i).map (resetC all) ++ l.drop i
theorem resetN_len (all : Bool) (l : List S55) (i : Nat) : (resetN all l i).length = l.length := by simp only [resetN, List.length_append, List.length_map, List.length_take, List.length_drop]; omega
theorem resetN_rd (all : Bool) (l : List S55) (x : Int) (a : x < l.length) : rd_T55 (resetN all l x.toNat) x = rd_T55 l x := by
 simp only [rd_T55, resetN, List.getD_eq_getElem?_getD]
 rw [List.getElem?_append_right (by simp only [List.length_map, List.length_take]; omega), List.length_map, List.length_take, List.getElem?_drop]
 congr 2; omega
theorem resetN_step (all : Bool) (l : List S55) (i : Nat) (hi : i < l.length) : resetN all l (i + 1) = (resetN all l i).set i (resetC all l[i]) := by
 unfold resetN
 rw [List.take_succ_eq_append_getElem hi, List.map_append, List.set_append_right _ _ (by simp only [List.length_map, List.length_take]; omega), List.drop_eq_getElem_cons hi, List.length_map, List.length_take, show i - min i l.length = 0 by omega]
 simp only [List.map_cons, List.map_nil, List.append_assoc, sB, List.cons_append, List.nil_append]
theorem resetN_next (all : Bool) (l : List S55) (x : Int) (a : 0 ≤ x) (b : x < l.length) : resetN all l (x + 1).toNat = (resetN all l x.toNat).set x.toNat (resetC all (rd_T55 l x)) := by
 obtain ⟨i, rfl⟩ := Int.eq_ofNat_of_zero_le a
 have hi : i < l.length := by omega
 have e : rd_T55 l (i : Int) = l[i] := by simp [rd_T55, hi]
 rw [e, show ((i : Int) + 1).toNat = i + 1 by omega, show (i : Int).toNat = i by omega, resetN_step all l i hi]
theorem resetN_keep (all : Bool) (l : List S55) (x : Int) (a : 0 ≤ x) (b : x < l.length) (hk : resetC all (rd_T55 l x) = rd_T55 l x) : resetN all l (x + 1).toNat = resetN all l x.toNat := by
 rw [resetN_next all l x a b, hk, ← resetN_rd all l x b]
 obtain ⟨i, rfl⟩ := Int.eq_ofNat_of_zero_le a
 have hi : i < (resetN all l i).length := by rw [resetN_len]; omega
 simp [rd_T55, hi]
theorem resetN_end (all : Bool) (l : List S55) (i : Nat) (h : l.length ≤ i) : resetN all l i = l.map (resetC all) := by
 unfold resetN; rw [List.take_of_length_le h, List.drop_eq_nil_of_le h, List.append_nil]
theorem R_offo {α : Type} {d : Kd α} {e base : Nat} {ok : Nat → Prop} {v : Value} {xs : List α} {w w1 : World} {g : Nat} (h : Kd.R d e w base ok v xs) (hE : d.E = []) (hne : some g ≠ v.ownBlock) (hm : ∀ k, k ≠ g → w1.heap[k]? = w.heap[k]?) : Kd.R d e w1 base ok v xs :=
 Kd.R_mono (Kd.R_step (Kd.R_tight hE h) (fun k hk _ => hm k (fun e_ => hne (by rw [← e_]; exact hk)))) (fun k hk => h.1 k hk.symm)
theorem own_new {α : Type} {d : Kd α} {e base g : Nat} {ok : Nat → Prop} {v : Value} {xs : List α} {w : World} (h : Kd.R d e w base ok v xs) (hg : g = w.heap.size) : some g ≠ v.ownBlock := fun hk => by
 have := own_lt h.2.choose_spec.1 g hk.symm
 omega
/-- host.Reset: a copy, modified no more: all of it, or what is not protected. -/
def host_Reset.f (b c : Int) (a : List (S55)) (d : Int) (e g a1 : Bool) : Option (Int × Int × (List (S55)) × Int × Bool × Bool) := if a.length ≤ 16383 then some (b, c, a.map (resetC a1), d, e, g) else none
theorem host_Reset.calls (s u : Int) (W : Option Addr) (X : Nat) (d : List (S55)) (y : Int) (z A a1 : Bool) (r1 r2 : Int) (r3 : List (S55)) (r4 : Int) (r5 r6 : Bool) (w : World) (ac : Kd.C k55 w W d.length d) (ab : d.length ≤ X) (h : host_Reset.f s u d y z A a1 = some (r1, r2, r3, r4, r5, r6)) :
  Calls Tryz.prog 22 #[.agg #[.int .i64 s, .int .i64 u, .slice W d.length X, .int .i64 y, .bool z, .bool A], .bool a1] w fun e w' => ∃ am : Value, e = .returned (.agg #[.int .i64 r1, .int .i64 r2, am, .int .i64 r4, .bool r5, .bool r6]) ∧ Kd.R k55 55 w' w.heap.size (fun _ => True) am r3 ∧ Below w.heap.size w w' := by
 unfold host_Reset.f at h
 by_cases hn : d.length ≤ 16383
 rotate_left
 ·rw [if_neg hn] at h; cases h
 rw [if_pos hn] at h
 simp only [Option.some.injEq, Prod.mk.injEq] at h
 obtain ⟨rfl, rfl, rfl, rfl, rfl, rfl⟩ := h
 have HR := Z ac
 have HL := Z ab
 have HN := Z hn
 have HC := Z (show grid_Copy.f s u d y z A = some (s, u, d, y, z, A) by unfold grid_Copy.f slices_Clone_shutter_api_Cell_shutter_api_Cell.f; rw [if_pos hn]; rfl)
 have HB := Z (Below.refl w.heap.size w)
 have hu := Tryz.underlying24
 have aK := Tryz.underlying55
 clear ac ab hn
 go_enter Tryz.func22, Tryz.ntmps22
 go_wp2_with (first
  | ((with_reducible refine gD_ 2 rfl ?_); refine bx_ 2 24 #[.int .i64 s, .int .i64 u, .slice W d.length X, .int .i64 y, .bool z, .bool A] ?_; intro g1 hg w1 hbox hb; have i := bs_ hb; have k := Z hbox; have l := Z (le_new hg (below_size bl_) : w.heap.size ≤ g1); clear HB; have HB := i; have a := k; have aI := l; clear i k l hb hbox hg)
  | ((with_reducible refine gD_ 4 rfl ?_); refine bx_ 4 24 zS_ ?_; intro g2 hg w2 hbox hb; have i := kb' a hb; have k := bs_ hb; have l := Z hbox; have n := Z (le_new hg (below_size bl_) : w.heap.size ≤ g2); have B := nl' a hg; clear a HB; have a := i; have HB := k; have g := l; have aJ := n; have NB := B; clear i k l n B hb hbox hg; have hnb := NB.out; have hnc := NB.out.symm; have z0 := cells6 a.out)
  | ((with_reducible refine gF_ 21 rfl ?_); refine gd_ (some 8) Tryz.func21 (grid_Copy.calls s u _ _ d y z A s u d y z A _ (Kd.C_below HR.out HB.out) HL.out HC.out) ?_; rintro e w3 ⟨v1, rfl, al, hb⟩; refine ⟨_, rfl, ?_⟩; have HO := Z (Kd.R_lower al (below_size bl_)); replace a := kb' a hb; replace g := kb' g hb; replace HB := bs_ hb; clear al hb; have x0 := cells6 a.out; obtain ⟨Ao, co, eo⟩ := Kd.R_slice HO.out; subst eo))
 go_loopg [12] d.length (fun m av w' => ∃ x : Int, av = .int .i64 x ∧ Aside0 (0 ≤ x) ∧ Aside0 (x + (m : Int) = d.length) ∧ Aside0 (Kd.R k55 55 w' w.heap.size (fun _ => True) (.slice Ao d.length co) (resetN a1 d x.toNat)) ∧ Aside0 (w'.heap[g1]? = some (.cells #[.int .i64 s, .int .i64 u, .slice Ao d.length co, .int .i64 y, .bool z, .bool A] 24 (0, 0))) ∧ Aside0 (w'.heap[g2]? = some (.cells zS_ 24 (0, 0))) ∧ Aside0 (Below w.heap.size w w'))
 case atStart => exact ⟨0, by first | rfl | (simp; done), ⟨by omega⟩, ⟨by omega⟩, ⟨R_off HO.out a.out (by decide) off2_⟩, ⟨put6 a.out⟩, ⟨blk_off g.out hnc off2_⟩, ⟨bl_⟩⟩
 case round =>
  clear HO a g HB
  obtain ⟨x, rfl, H, XM, HO, a, g, HB⟩ := hrel
  have Y := H.out
  have hxm := XM.out
  have u0 := cells6 a.out
  by_cases c : x < (d.length : Int)
  rotate_left
  ·have c0 := decide_eq_false c
   have EX := Z (show d.length ≤ x.toNat by omega)
   clear c hxm Y
   have s0 := cells6 g.out
   go_wp2
   refine rc1_ (put6 g.out) Tryz.underlying24 ?_
   exact ⟨_, rfl, by rw [← resetN_end a1 d _ EX.out]; exact R_off HO.out g.out (by decide) off2_, bl_⟩
  have c0 := decide_eq_true c
  have c1 : decide (0 ≤ x) = true := decide_eq_true Y
  cases gk with
  | zero => exact absurd c (by omega)
  | succ k1 =>
   have EN := Z (show x + 1 + ((k1 : Nat) : Int) = d.length by omega)
   have EW := Z (show wrap64 (x + 1) = x + 1 by have := HN.out; unfold wrap64; omega)
   have EX := Z c
   obtain ⟨ys, hys⟩ : ∃ ys, ys = resetN a1 d x.toNat := ⟨_, rfl⟩
   rw [← hys] at HO
   have YL := Z (show ys.length = d.length by rw [hys, resetN_len])
   have EY := Z hys
   have EC := Z (show rd_T55 ys x = rd_T55 d x by rw [hys]; exact resetN_rd a1 d x c)
   have hq : x < (d.length : Int) := c
   clear c hxm hys
   obtain ⟨go, co', eo', gb, gl, cl, HG⟩ := Kd.R_form HO.out (by have := YL.out; omega)
   (first | cases eo' | (injection eo' with ea_ en_ ec_; (first | subst ea_ | (injection ea_ with ea_; subst ea_)); subst ec_; clear en_))
   have GB := Z gb
   clear gb gl HG
   obtain ⟨ce, hcl, hM, hcc, hfr⟩ := Kd.R_elem HO.out z55 x Y hq
   obtain rfl := k55_openM hM
   obtain ⟨v, hv⟩ : ∃ v, v = ys.getD x.toNat z55 := ⟨_, rfl⟩
   rw [← hv] at hcc hM
   have EV := Z (show v = rd_T55 d x from hv.trans EC.out)
   obtain ⟨I, ⟨b, J, b3, b4⟩, b5⟩ := v
   have hx_0 : wr.cell? ⟨go, (x : Int).toNat * 6, none⟩ = some (.bool I) := hcc 0 _ rfl
   have hx_1 : wr.cell? ⟨go, (x : Int).toNat * 6 + 1, none⟩ = some (.bool b) := hcc 1 _ rfl
   have hx_2 : wr.cell? ⟨go, (x : Int).toNat * 6 + 2, none⟩ = some (.bool J) := hcc 2 _ rfl
   have hx_3 : wr.cell? ⟨go, (x : Int).toNat * 6 + 3, none⟩ = some (.int .i64 b3) := hcc 3 _ rfl
   have hx_4 : wr.cell? ⟨go, (x : Int).toNat * 6 + 4, none⟩ = some (.bool b4) := hcc 4 _ rfl
   have hx_5 : wr.cell? ⟨go, (x : Int).toNat * 6 + 5, none⟩ = some (.int .u8 b5) := hcc 5 _ rfl
   clear hcl hcc hfr hM hv
   replace Y := eq_true Y
   replace hq := eq_true hq
   cases a1 <;> cases b
   ·go_wp2_with (first | ((with_reducible refine gD_ 6 rfl ?_); refine bx_ 6 55 #[.bool false, .bool false, .bool false, .int .i64 0, .bool false, .int .u8 0] ?_; intro q hg w6 hbox hb; have i := rb' HO hb; have k := kb' a hb; have l := kb' g hb; have n := bs_ hb; have r := Z hbox; have B := Z (le_new hg (below_size bl_) : w.heap.size ≤ q); have E := nl' a hg; have F := nl' g hg; have G := Z (own_new HO.out hg); clear HO a g HB hb hbox hg; have HO := i; have a := k; have g := l; have HB := n; have o := r; have ak := B; have K := E; have L := F; have M := G; clear i k l n r B E F G; have k0 := cells6 o.out) | ((with_reducible refine gate_store (t := 55) (p := 6) rfl ?_); refine sx_ 55 6 ((((((w6.setCell ⟨q, 0, none⟩ (.bool I)).setCell ⟨q, 1, none⟩ (.bool false)).setCell ⟨q, 2, none⟩ (.bool J)).setCell ⟨q, 3, none⟩ (.int .i64 b3)).setCell ⟨q, 4, none⟩ (.bool b4)).setCell ⟨q, 5, none⟩ (.int .u8 b5)) ?_; intro w7 hw; replace HO : Aside0 (Kd.R k55 55 w7 w.heap.size (fun _ => True) (.slice (some ⟨go, 0, none⟩) d.length co) ys) := ⟨by rw [hw]; exact R_offo HO.out rfl M.out off2_⟩; replace a : Aside0 (w7.heap[g1]? = some (.cells #[.int .i64 s, .int .i64 u, .slice (some ⟨go, 0, none⟩) d.length co, .int .i64 y, .bool z, .bool A] 24 (0, 0))) := ⟨by rw [hw]; exact blk_off a.out K.out off2_⟩; replace g : Aside0 (w7.heap[g2]? = some (.cells zS_ 24 (0, 0))) := ⟨by rw [hw]; exact blk_off g.out L.out off2_⟩; replace o : Aside0 (w7.heap[q]? = some (.cells #[.bool I, .bool false, .bool J, .int .i64 b3, .bool b4, .int .u8 b5] 55 (0, 0))) := ⟨by rw [hw]; exact put6 o.out⟩; replace HB : Aside0 (Below w.heap.size w w7) := ⟨by rw [hw]; exact bl_⟩; clear hw k0; have k0 := cells6 o.out; have u0 := cells6 a.out; obtain ⟨ce, hcl, hM, hcc, hfr⟩ := Kd.R_elem HO.out z55 x H.out EX.out; rw [show ys.getD x.toNat z55 = _ from EC.out.trans EV.out.symm] at hM; obtain rfl := k55_openM hM; have hy_4 := hcc 4 _ rfl; (try simp only [show (k55).sz = 6 from rfl] at hy_4); have hz_4 := hfr 4; (try simp only [show (k55).sz = 6 from rfl] at hz_4); have HP := Kd.R_seg HO.out x H.out EX.out (seg := [.bool false]) (j := 4) hcl hcc (show 5 ≤ 6 from by decide) (x' := (⟨I, ⟨false, J, b3, false⟩, b5⟩ : S55)) (k55_mkM _ _ _ _) (fun _ hk => hk); clear hcl hcc hfr hM) | ((with_reducible refine gate_store (t := 4) (p := 29) rfl ?_); refine sx_ 4 29 (w7.setCell ⟨go, (x : Int).toNat * 6 + 4, none⟩ (.bool false)) ?_; intro V hw; have hg : w7.grownBy V (some go) := (by rw [hw]; exact HP.2); have hp_ : Kd.R k55 55 V w.heap.size (fun _ => True) (.slice (some ⟨go, 0, none⟩) d.length co) (ys.set x.toNat (⟨I, ⟨false, J, b3, false⟩, b5⟩ : S55)) := (by rw [hw]; exact HP.1); clear HP; have i := Z hp_; have k := Z (blk_grown a.out hg (Kd.R_ne HO.out a.out (by decide))); have l := Z (blk_grown g.out hg (Kd.R_ne HO.out g.out (by decide))); have n : Aside0 (Below w.heap.size w V) := ⟨by rw [hw]; exact below_set HB.out GB.out⟩; clear HO a g o HB hg hw hp_; have HO := i; have a := k; have g := l; have HB := n; clear i k l n))
    go_roundg k1
    case measure => omega
    case rel => exact ⟨x + 1, by first | (rw [EW.out]; done) | rw [EW.out], ⟨by have := H.out; omega⟩, EN, ⟨by rw [resetN_next false d x H.out EX.out, ← EY.out, ← EV.out]; exact HO.out⟩, a, g, HB⟩
   ·go_wp2_with (first | ((with_reducible refine gD_ 6 rfl ?_); refine bx_ 6 55 #[.bool false, .bool false, .bool false, .int .i64 0, .bool false, .int .u8 0] ?_; intro q hg w6 hbox hb; have i := rb' HO hb; have k := kb' a hb; have l := kb' g hb; have n := bs_ hb; have r := Z hbox; have B := Z (le_new hg (below_size bl_) : w.heap.size ≤ q); have E := nl' a hg; have F := nl' g hg; have G := Z (own_new HO.out hg); clear HO a g HB hb hbox hg; have HO := i; have a := k; have g := l; have HB := n; have o := r; have ak := B; have K := E; have L := F; have M := G; clear i k l n r B E F G; have k0 := cells6 o.out) | ((with_reducible refine gate_store (t := 55) (p := 6) rfl ?_); refine sx_ 55 6 ((((((w6.setCell ⟨q, 0, none⟩ (.bool I)).setCell ⟨q, 1, none⟩ (.bool true)).setCell ⟨q, 2, none⟩ (.bool J)).setCell ⟨q, 3, none⟩ (.int .i64 b3)).setCell ⟨q, 4, none⟩ (.bool b4)).setCell ⟨q, 5, none⟩ (.int .u8 b5)) ?_; intro w7 hw; replace HO : Aside0 (Kd.R k55 55 w7 w.heap.size (fun _ => True) (.slice (some ⟨go, 0, none⟩) d.length co) ys) := ⟨by rw [hw]; exact R_offo HO.out rfl M.out off2_⟩; replace a : Aside0 (w7.heap[g1]? = some (.cells #[.int .i64 s, .int .i64 u, .slice (some ⟨go, 0, none⟩) d.length co, .int .i64 y, .bool z, .bool A] 24 (0, 0))) := ⟨by rw [hw]; exact blk_off a.out K.out off2_⟩; replace g : Aside0 (w7.heap[g2]? = some (.cells zS_ 24 (0, 0))) := ⟨by rw [hw]; exact blk_off g.out L.out off2_⟩; replace o : Aside0 (w7.heap[q]? = some (.cells #[.bool I, .bool true, .bool J, .int .i64 b3, .bool b4, .int .u8 b5] 55 (0, 0))) := ⟨by rw [hw]; exact put6 o.out⟩; replace HB : Aside0 (Below w.heap.size w w7) := ⟨by rw [hw]; exact bl_⟩; clear hw k0; have k0 := cells6 o.out; have u0 := cells6 a.out))
    go_roundg k1
    case measure => omega
    case rel => exact ⟨x + 1, by first | (rw [EW.out]; done) | rw [EW.out], ⟨by have := H.out; omega⟩, EN, ⟨by rw [resetN_keep false d x H.out EX.out (by rw [← EV.out]; rfl), ← EY.out]; exact HO.out⟩, a, g, HB⟩
   ·go_wp2_with (first | ((with_reducible refine gD_ 6 rfl ?_); refine bx_ 6 55 #[.bool false, .bool false, .bool false, .int .i64 0, .bool false, .int .u8 0] ?_; intro q hg w6 hbox hb; have i := rb' HO hb; have k := kb' a hb; have l := kb' g hb; have n := bs_ hb; have r := Z hbox; have B := Z (le_new hg (below_size bl_) : w.heap.size ≤ q); have E := nl' a hg; have F := nl' g hg; have G := Z (own_new HO.out hg); clear HO a g HB hb hbox hg; have HO := i; have a := k; have g := l; have HB := n; have o := r; have ak := B; have K := E; have L := F; have M := G; clear i k l n r B E F G; have k0 := cells6 o.out) | ((with_reducible refine gate_store (t := 55) (p := 6) rfl ?_); refine sx_ 55 6 ((((((w6.setCell ⟨q, 0, none⟩ (.bool I)).setCell ⟨q, 1, none⟩ (.bool false)).setCell ⟨q, 2, none⟩ (.bool J)).setCell ⟨q, 3, none⟩ (.int .i64 b3)).setCell ⟨q, 4, none⟩ (.bool b4)).setCell ⟨q, 5, none⟩ (.int .u8 b5)) ?_; intro w7 hw; replace HO : Aside0 (Kd.R k55 55 w7 w.heap.size (fun _ => True) (.slice (some ⟨go, 0, none⟩) d.length co) ys) := ⟨by rw [hw]; exact R_offo HO.out rfl M.out off2_⟩; replace a : Aside0 (w7.heap[g1]? = some (.cells #[.int .i64 s, .int .i64 u, .slice (some ⟨go, 0, none⟩) d.length co, .int .i64 y, .bool z, .bool A] 24 (0, 0))) := ⟨by rw [hw]; exact blk_off a.out K.out off2_⟩; replace g : Aside0 (w7.heap[g2]? = some (.cells zS_ 24 (0, 0))) := ⟨by rw [hw]; exact blk_off g.out L.out off2_⟩; replace o : Aside0 (w7.heap[q]? = some (.cells #[.bool I, .bool false, .bool J, .int .i64 b3, .bool b4, .int .u8 b5] 55 (0, 0))) := ⟨by rw [hw]; exact put6 o.out⟩; replace HB : Aside0 (Below w.heap.size w w7) := ⟨by rw [hw]; exact bl_⟩; clear hw k0; have k0 := cells6 o.out; have u0 := cells6 a.out; obtain ⟨ce, hcl, hM, hcc, hfr⟩ := Kd.R_elem HO.out z55 x H.out EX.out; rw [show ys.getD x.toNat z55 = _ from EC.out.trans EV.out.symm] at hM; obtain rfl := k55_openM hM; have hy_4 := hcc 4 _ rfl; (try simp only [show (k55).sz = 6 from rfl] at hy_4); have hz_4 := hfr 4; (try simp only [show (k55).sz = 6 from rfl] at hz_4); have HP := Kd.R_seg HO.out x H.out EX.out (seg := [.bool false]) (j := 4) hcl hcc (show 5 ≤ 6 from by decide) (x' := (⟨I, ⟨false, J, b3, false⟩, b5⟩ : S55)) (k55_mkM _ _ _ _) (fun _ hk => hk); clear hcl hcc hfr hM) | ((with_reducible refine gate_store (t := 4) (p := 29) rfl ?_); refine sx_ 4 29 (w7.setCell ⟨go, (x : Int).toNat * 6 + 4, none⟩ (.bool false)) ?_; intro V hw; have hg : w7.grownBy V (some go) := (by rw [hw]; exact HP.2); have hp_ : Kd.R k55 55 V w.heap.size (fun _ => True) (.slice (some ⟨go, 0, none⟩) d.length co) (ys.set x.toNat (⟨I, ⟨false, J, b3, false⟩, b5⟩ : S55)) := (by rw [hw]; exact HP.1); clear HP; have i := Z hp_; have k := Z (blk_grown a.out hg (Kd.R_ne HO.out a.out (by decide))); have l := Z (blk_grown g.out hg (Kd.R_ne HO.out g.out (by decide))); have n : Aside0 (Below w.heap.size w V) := ⟨by rw [hw]; exact below_set HB.out GB.out⟩; clear HO a g o HB hg hw hp_; have HO := i; have a := k; have g := l; have HB := n; clear i k l n))
    go_roundg k1
    case measure => omega
    case rel => exact ⟨x + 1, by first | (rw [EW.out]; done) | rw [EW.out], ⟨by have := H.out; omega⟩, EN, ⟨by rw [resetN_next true d x H.out EX.out, ← EY.out, ← EV.out]; exact HO.out⟩, a, g, HB⟩
   go_wp2_with (first | ((with_reducible refine gD_ 6 rfl ?_); refine bx_ 6 55 #[.bool false, .bool false, .bool false, .int .i64 0, .bool false, .int .u8 0] ?_; intro q hg w6 hbox hb; have i := rb' HO hb; have k := kb' a hb; have l := kb' g hb; have n := bs_ hb; have r := Z hbox; have B := Z (le_new hg (below_size bl_) : w.heap.size ≤ q); have E := nl' a hg; have F := nl' g hg; have G := Z (own_new HO.out hg); clear HO a g HB hb hbox hg; have HO := i; have a := k; have g := l; have HB := n; have o := r; have ak := B; have K := E; have L := F; have M := G; clear i k l n r B E F G; have k0 := cells6 o.out) | ((with_reducible refine gate_store (t := 55) (p := 6) rfl ?_); refine sx_ 55 6 ((((((w6.setCell ⟨q, 0, none⟩ (.bool I)).setCell ⟨q, 1, none⟩ (.bool true)).setCell ⟨q, 2, none⟩ (.bool J)).setCell ⟨q, 3, none⟩ (.int .i64 b3)).setCell ⟨q, 4, none⟩ (.bool b4)).setCell ⟨q, 5, none⟩ (.int .u8 b5)) ?_; intro w7 hw; replace HO : Aside0 (Kd.R k55 55 w7 w.heap.size (fun _ => True) (.slice (some ⟨go, 0, none⟩) d.length co) ys) := ⟨by rw [hw]; exact R_offo HO.out rfl M.out off2_⟩; replace a : Aside0 (w7.heap[g1]? = some (.cells #[.int .i64 s, .int .i64 u, .slice (some ⟨go, 0, none⟩) d.length co, .int .i64 y, .bool z, .bool A] 24 (0, 0))) := ⟨by rw [hw]; exact blk_off a.out K.out off2_⟩; replace g : Aside0 (w7.heap[g2]? = some (.cells zS_ 24 (0, 0))) := ⟨by rw [hw]; exact blk_off g.out L.out off2_⟩; replace o : Aside0 (w7.heap[q]? = some (.cells #[.bool I, .bool true, .bool J, .int .i64 b3, .bool b4, .int .u8 b5] 55 (0, 0))) := ⟨by rw [hw]; exact put6 o.out⟩; replace HB : Aside0 (Below w.heap.size w w7) := ⟨by rw [hw]; exact bl_⟩; clear hw k0; have k0 := cells6 o.out; have u0 := cells6 a.out; obtain ⟨ce, hcl, hM, hcc, hfr⟩ := Kd.R_elem HO.out z55 x H.out EX.out; rw [show ys.getD x.toNat z55 = _ from EC.out.trans EV.out.symm] at hM; obtain rfl := k55_openM hM; have hy_4 := hcc 4 _ rfl; (try simp only [show (k55).sz = 6 from rfl] at hy_4); have hz_4 := hfr 4; (try simp only [show (k55).sz = 6 from rfl] at hz_4); have HP := Kd.R_seg HO.out x H.out EX.out (seg := [.bool false]) (j := 4) hcl hcc (show 5 ≤ 6 from by decide) (x' := (⟨I, ⟨true, J, b3, false⟩, b5⟩ : S55)) (k55_mkM _ _ _ _) (fun _ hk => hk); clear hcl hcc hfr hM) | ((with_reducible refine gate_store (t := 4) (p := 29) rfl ?_); refine sx_ 4 29 (w7.setCell ⟨go, (x : Int).toNat * 6 + 4, none⟩ (.bool false)) ?_; intro V hw; have hg : w7.grownBy V (some go) := (by rw [hw]; exact HP.2); have hp_ : Kd.R k55 55 V w.heap.size (fun _ => True) (.slice (some ⟨go, 0, none⟩) d.length co) (ys.set x.toNat (⟨I, ⟨true, J, b3, false⟩, b5⟩ : S55)) := (by rw [hw]; exact HP.1); clear HP; have i := Z hp_; have k := Z (blk_grown a.out hg (Kd.R_ne HO.out a.out (by decide))); have l := Z (blk_grown g.out hg (Kd.R_ne HO.out g.out (by decide))); have n : Aside0 (Below w.heap.size w V) := ⟨by rw [hw]; exact below_set HB.out GB.out⟩; clear HO a g o HB hg hw hp_; have HO := i; have a := k; have g := l; have HB := n; clear i k l n))
   go_roundg k1
   case measure => omega
   case rel => exact ⟨x + 1, by first | (rw [EW.out]; done) | rw [EW.out], ⟨by have := H.out; omega⟩, EN, ⟨by rw [resetN_next true d x H.out EX.out, ← EY.out, ← EV.out]; exact HO.out⟩, a, g, HB⟩
end

/-! ### wipe_all: function 110 -/
def wipe_all.l0 : Nat → Int → Int → Int → Int → List (S55) → Int → Bool → Bool → Int → Int → List (S55) → Int → Bool → Bool → Option (Int × Int × (List (S55)) × Int × Bool × Bool)
 | 0, _, _, _, _, _, _, _, _, _, _, _, _, _, _ => none
 | k + 1, r, x10, b, c, d, e, g, h, i, j, a, n, l, m => if x10 < r then ((field_Open.f b c d e g h x10).bind fun o => (if o = true then (if 0 ≤ x10 then (if x10 < (a.length : Int) then (wipe_all.l0 k r (wrap64 (x10 + 1)) b c d e g h i j (a.set (x10 : Int).toNat (⟨(rd_T55 a x10).f0, (⟨(rd_T55 a x10).f1.f0, (rd_T55 a x10).f1.f1, (rd_T55 a x10).f1.f2, (rd_T55 a x10).f1.f3⟩ : S53), 0⟩ : S55)) n l m) else (none)) else (none)) else (wipe_all.l0 k r (wrap64 (x10 + 1)) b c d e g h i j a n l m))) else ((grid_Size.f b c d e g h).bind fun p => ((field_Next.f b c d e g h (wrap64 (p - 1))).bind fun q => (some (i, j, a, mx 0 q, l, m))))
def wipe_all.f (k : Nat) (c d : Int) (b : List (S55)) (e : Int) (g h : Bool) : Option (Int × Int × (List (S55)) × Int × Bool × Bool) := (host_Reset.f c d b e g h false).bind fun a => (wipe_all.l0 k (b.length : Int) 0 c d b e g h a.1 a.2.1 a.2.2.1 a.2.2.2.1 a.2.2.2.2.1 a.2.2.2.2.2)
theorem wipe_all.mono_l : ∀ k, (∀ f g i j l m n o p q a b c d, LeO (wipe_all.l0 k f g i j l m n o p q a b c d) (wipe_all.l0 (k + 1) f g i j l m n o p q a b c d))
 | 0 => fun _ _ _ _ _ _ _ _ _ _ _ _ _ _ r h => by simp [wipe_all.l0] at h
 | k + 1 => by
  have e := wipe_all.mono_l k
  ·intro f g i j l m n o p q a b c d
   unfold wipe_all.l0
   repeat' first
   | (with_reducible exact e _ _ _ _ _ _ _ _ _ _ _ _ _ _)
   | (with_reducible exact LeO.refl _)
   | (with_reducible exact LeO.none _)
   | (with_reducible refine LeO.ite ?_ ?_)
   | (with_reducible refine LeO.bind ?_ (fun _ => ?_))
   | exact e _ _ _ _ _ _ _ _ _ _ _ _ _ _
   | exact LeO.none _
   | refine LeO.ite ?_ ?_
   | refine LeO.bind ?_ (fun _ => ?_)
theorem wipe_all.mono : ∀ a0 a1 b c a4 d k, LeO (wipe_all.f k a0 a1 b c a4 d) (wipe_all.f (k + 1) a0 a1 b c a4 d) := by
 intro a0 a1 b c a4 d k
 have a := wipe_all.mono_l k
 unfold wipe_all.f
 repeat' first
   | (with_reducible exact a _ _ _ _ _ _ _ _ _ _ _ _ _ _)
   | (with_reducible exact LeO.refl _)
   | (with_reducible exact LeO.none _)
   | (with_reducible refine LeO.ite ?_ ?_)
   | (with_reducible refine LeO.bind ?_ (fun _ => ?_))
   | exact a _ _ _ _ _ _ _ _ _ _ _ _ _ _
   | exact LeO.none _
   | refine LeO.ite ?_ ?_
   | refine LeO.bind ?_ (fun _ => ?_)
def wipe_all.T8 : Bool × List (List Nat × List Nat) := (true, [([], []), ([], []), ([1], [1]), ([2], [2]), ([0, 3, 2], [0, 3]), ([4], [4]), ([0, 1, 2, 3, 4, 5], []), ([6, 5, 4, 0, 1, 2, 3, 4, 5], [5, 6])])
def wipe_all.B8 : List Nat := [0, 0, 2, 6, 15, 31, 63, 127]
theorem wipe_all.tab8 : rtab .any (opsOf Tryz.f110 8) = wipe_all.T8 := by kernel_rfl
theorem wipe_all.bits8 : waitsOk wipe_all.T8.2 wipe_all.B8 = true := by kernel_rfl
theorem wipe_all.calls (k : Nat) (r s : Int) (V : Option Addr) (W : Nat) (l : List (S55)) (u : Int) (x y : Bool) (r1 r2 : Int) (r3 : List (S55)) (r4 : Int) (r5 r6 : Bool) (w : World) (aN : Kd.C k55 w V l.length l) (aK : l.length ≤ W) (h : wipe_all.f k r s l u x y = some (r1, r2, r3, r4, r5, r6)) :
  Calls Tryz.prog 110 #[.agg #[.int .i64 r, .int .i64 s, .slice V l.length W, .int .i64 u, .bool x, .bool y]] w fun e w' => ∃ bU : Value, e = .returned (.agg #[.int .i64 r1, .int .i64 r2, bU, .int .i64 r4, .bool r5, .bool r6]) ∧ Kd.R k55 55 w' w.heap.size (fun _ => True) bU r3 ∧ Below w.heap.size w w' := by
 have d0 := Tryz.underlying24
 have ak := Z aN
 have ai := Z aK
 clear aN aK
 have HB := Z (Below.refl w.heap.size w)
 unfold wipe_all.f at h
 have H := h
 clear h
 replace H := bn_ H
 obtain ⟨⟨F, G, aw, U, L, M⟩, A2, H⟩ := H
 try dsimp only at H
 have H' := Z H
 clear H
 go_enter Tryz.func110, Tryz.ntmps110
 go_wp2_with (first | ((with_reducible refine gD_ 1 rfl ?_); refine bx_ 1 24 #[.int .i64 r, .int .i64 s, .slice V l.length W, .int .i64 u, .bool x, .bool y] ?_; intro Q hg w3 hbox hb; have c := Z hbox; have dr := ln' w hg; replace HB := bs_ hb; clear hb hbox hg) | ((with_reducible refine gD_ 2 rfl ?_); refine bx_ 2 24 zS_ ?_; intro P hg w4 hbox hb; have d := Z hbox; have dt := ln' w hg; replace HB := bs_ hb; have Y := nl' c hg; replace c := kb' c hb; clear hb hbox hg; have dV := ns_ Y; have bo := cells6 c.out) | ((with_reducible refine gF_ 22 rfl ?_); refine gd_ (some 6) Tryz.func22 (host_Reset.calls r s _ _ l u x y false F G aw U L M _ (cB_ ak HB) ai.out A2.out) ?_; rintro e w7 ⟨d7, rfl, bQ, hb⟩; refine ⟨_, rfl, ?_⟩; have aj := Z (Kd.R_lower bQ (below_size bl_)); replace c := kb' c hb; replace d := kb' d hb; replace HB := bs_ hb; (try clear hb); (try clear bQ)) | ((with_reducible refine gD_ 3 rfl ?_); refine bx_ 3 24 zS_ ?_; intro z hg w8 hbox hb; replace aj := rb' aj hb; have m := Z hbox; have du := ln' w hg; replace HB := bs_ hb; have q := nl' c hg; replace c := kb' c hb; have O := nl' d hg; replace d := kb' d hb; clear hb hbox hg; have dW := ns_ q; have dy := ns_ O; have aO := cells6 m.out; obtain ⟨bf, bj, bW⟩ := Kd.R_slice aj.out; subst bW; have aU := cells6 c.out))
 go_loopg [10] k (fun kq dl w' => ∃ (b : Int) (a : List (S55)) (GB : Value), dl = .int .i64 b ∧ Aside0 (wipe_all.l0 kq (l.length : Int) b r s l u x y F G a U L M = some (r1, r2, r3, r4, r5, r6)) ∧ Aside0 (kq ≤ k) ∧ Aside0 (Kd.R k55 55 w' w.heap.size (fun _ => True) GB a) ∧ Aside0 (w'.heap[Q]? = some (.cells #[.int .i64 r, .int .i64 s, (.slice V l.length W), .int .i64 u, .bool x, .bool y] 24 (0, 0))) ∧ Aside0 (w'.heap[P]? = some (.cells zS_ 24 (0, 0))) ∧ Aside0 (w'.heap[z]? = some (.cells #[.int .i64 F, .int .i64 G, GB, .int .i64 U, .bool L, .bool M] 24 (0, 0))) ∧ Aside0 (Below w.heap.size w w'))
 case atStart => exact ⟨(0), (aw), (.slice bf aw.length bj), (dn_), H', ⟨Nat.le_refl _⟩, ⟨by (with_reducible repeat apply pR); exact Kd.R_mono (f6R z (Kd.R_types aj.out m.out (by decide)) im_) im_⟩, ⟨blk_off c.out q.out off2_⟩, ⟨blk_off d.out O.out off2_⟩, ⟨put6 m.out⟩, ⟨bl_⟩⟩
 case round =>
  clear H'
  try clear aO
  try clear aU
  try clear bo
  obtain ⟨b, a, GB, rfl, HA, aF, GA, c, d, m, HB⟩ := hrel
  cases gk with
  | zero => exact absurd HA.out (by simp [wipe_all.l0])
  | succ k1 =>
   have H := HA.out
   clear HA
   simp only [wipe_all.l0] at H
   by_cases ax : b < (l.length : Int)
   ·rw [if_pos ax] at H
    have bK := decide_eq_true ax
    clear ax
    replace H := bn_ H
    obtain ⟨bH, bM, H⟩ := H
    cases bH
    ·rw [iF_] at H
     have H' := Z H
     clear H
     have dC := ns_ Y
     have dD := ns_ q
     have cb := cells6 c.out
     go_wp2_with (first | ((with_reducible refine gF_ 53 rfl ?_); refine gd_ (some 15) Tryz.func53 (field_Open.calls r s _ _ l u x y b false _ (cB_ ak HB) ai.out bM.out) ?_; rintro e d9 ⟨rfl, hb⟩; refine ⟨_, rfl, ?_⟩; replace GA := rb' GA hb; replace c := kb' c hb; replace d := kb' d hb; replace m := kb' m hb; replace HB := bs_ hb; (try clear hb)))
     go_roundg k1
     case measure => have := aF.out; omega
     case rel => exact ⟨(wrap64 (b + 1)), (a), (GB), (dn_), H', ⟨by have := aF.out; omega⟩, ⟨by (with_reducible repeat apply pR); exact GA.out⟩, ⟨vK c.out⟩, ⟨vK d.out⟩, ⟨vK m.out⟩, ⟨bl_⟩⟩
    rw [if_pos rfl] at H
    obtain ⟨aH, H⟩ := gt_ H
    have dv := decide_eq_true aH
    clear aH
    by_cases aI : b < (a.length : Int)
    ·rw [if_pos aI] at H
     have dw := decide_eq_true aI
     clear aI
     obtain ⟨aE, al⟩ : ∃ y_ : List (S55), y_ = (a.set (b : Int).toNat (⟨(rd_T55 a b).f0, (⟨(rd_T55 a b).f1.f0, (rd_T55 a b).f1.f1, (rd_T55 a b).f1.f2, (rd_T55 a b).f1.f3⟩ : S53), 0⟩ : S55)) := ⟨_, rfl⟩
     replace H : (wipe_all.l0 k1 (l.length : Int) (wrap64 (b + 1)) r s l u x y F G aE U L M) = some (r1, r2, r3, r4, r5, r6) := by first | (rw [al]; with_reducible exact H) | (have bg := (Option.bind_some _ _).symm.trans H; rw [al]; with_reducible exact bg) | (have bg := (Option.bind_some _ _).symm.trans H; with_reducible exact bg) | with_reducible exact H | (rw [al]; exact H) | exact H
     have bJ := Z al
     clear al
     have H' := Z H
     clear H
     have dz := ns_ Y
     have dA := ns_ q
     have bZ := cells6 c.out
     go_wp2_with (first | ((with_reducible refine gF_ 53 rfl ?_); refine gd_ (some 15) Tryz.func53 (field_Open.calls r s _ _ l u x y b true _ (cB_ ak HB) ai.out bM.out) ?_; rintro e X ⟨rfl, hb⟩; refine ⟨_, rfl, ?_⟩; replace GA := rb' GA hb; replace c := kb' c hb; replace d := kb' d hb; replace m := kb' m hb; replace HB := bs_ hb; (try clear hb); (try clear hk); have dB := ns_ O; have b5 := cells6 m.out; have bF : 0 ≤ (b : Int) := od_; have bG : (b : Int) < ((a.length : Int) : Int) := od_; obtain ⟨I, ay, bk, bl, bY, dU, bh⟩ := Kd.R_form GA.out (by omega); (first | cases bk | (injection bk with ea_ en_ ec_; (first | subst ea_ | (injection ea_ with ea_; subst ea_)); subst ec_; clear en_)); have bV := Z bl; have dR := Z bh; clear bl bY bh; obtain ⟨dS, bL, bm, ac, ad⟩ := Kd.R_elem GA.out z55 (b : Int) bF bG; obtain rfl := k55_openM bm; have df := ce_ ac; have c4 := cf_ ad; clear bL ac ad bm; replace bF := eq_true bF; replace bG := eq_true bG; have bi := Z (show Kd.R k55 55 X w.heap.size (fun _ => True) (.slice (some ⟨I, 0, none⟩) a.length ay) a from (by (with_reducible repeat apply pR); exact GA.out)); obtain ⟨dT, aL, bn, az, aM⟩ := Kd.R_elem bi.out z55 (b : Int) (od_) (by have h_ : (b : Int) < ((a.length : Int) : Int) := od_; first | exact h_ | (have e_ := (Kd.R_reads' GA.out).1; omega) | simpa using h_); obtain rfl := k55_openM bn; have aD := Kd.R_seg bi.out (b : Int) (od_) (by have h_ : (b : Int) < ((a.length : Int) : Int) := od_; first | exact h_ | (have e_ := (Kd.R_reads' GA.out).1; omega) | simpa using h_) (seg := [.int .u8 0]) (j := 5) aL az (show 6 ≤ 6 from by decide) (x' := (⟨(rd_T55 a b).f0, (⟨(rd_T55 a b).f1.f0, (rd_T55 a b).f1.f1, (rd_T55 a b).f1.f2, (rd_T55 a b).f1.f3⟩ : S53), 0⟩ : S55)) (k55_mkM _ _ _ (⟨(rd_T55 a b).f0, (⟨(rd_T55 a b).f1.f0, (rd_T55 a b).f1.f1, (rd_T55 a b).f1.f2, (rd_T55 a b).f1.f3⟩ : S53), 0⟩ : S55) ) (fun _ hk => hk); have bD := az 5 _ rfl; (try simp only [show (k55).sz = 6 from rfl, Nat.mul_one, Nat.add_zero] at bD); have bu := aM 5; (try simp only [show (k55).sz = 6 from rfl, Nat.mul_one, Nat.add_zero] at bu); clear aL az aM bn) | ((with_reducible refine gate_store (t := 5) (p := 20) rfl ?_); refine sx_ 5 20 (X.setCell ⟨I, (b : Int).toNat * 6 + 5, none⟩ (.int .u8 0)) ?_; intro bI hw; have hg : X.grownBy bI (some I) := (by rw [hw]; exact aD.2); have hp_ : Kd.R k55 55 bI w.heap.size (fun _ => True) (.slice (some ⟨I, 0, none⟩) a.length ay) aE := (by rw [hw, bJ.out]; exact aD.1); clear aD; replace c := gw_ ⟨vK c.out⟩ hg (Kd.R_ne GA.out c.out (by decide)); replace d := gw_ ⟨vK d.out⟩ hg (Kd.R_ne GA.out d.out (by decide)); replace m := gw_ ⟨vK m.out⟩ hg (Kd.R_ne GA.out m.out (by decide)); replace GA := Z (hp_); replace HB := Z ((by rw [hw]; exact below_set (HB.out) bV.out : Below w.heap.size w bI)); clear hg hw hp_))
     go_roundg k1
     case measure => have := aF.out; omega
     case rel => exact ⟨(wrap64 (b + 1)), (aE), (.slice (some ⟨I, 0, none⟩) a.length ay), (dn_), H', ⟨by have := aF.out; omega⟩, ⟨by (with_reducible repeat apply pR); exact GA.out⟩, ⟨vK c.out⟩, ⟨vK d.out⟩, ⟨vK m.out⟩, ⟨bl_⟩⟩
    rw [if_neg aI] at H
    exact absurd H (by simp)
   rw [if_neg ax] at H
   have bK := decide_eq_false ax
   clear ax
   replace H := bn_ H
   obtain ⟨aA, bO, H⟩ := H
   replace H := bn_ H
   obtain ⟨ah, bP, H⟩ := H
   obtain ⟨af, ae⟩ : ∃ j_ : Int, (mx 0 ah) = j_ := ⟨_, rfl⟩
   replace H : (some (F, G, a, af, L, M)) = some (r1, r2, r3, r4, r5, r6) := by first | (rw [ae] at H; exact H) | (simp only [ae] at H ⊢; exact H)
   (try rw [ae] at bO)
   (try rw [ae] at bP)
   (try (have dd : 0 ≤ af := by (rw [← ae]; unfold mx; (repeat' split) <;> omega)))
   (try (have de : 0 ≤ af := by omega))
   have dc : (if 0 < ah then ah else 0) = af := ae
   obtain ⟨rfl, rfl, rfl, rfl, rfl, rfl⟩ := ij6_ H
   try go_wp2
   replace GA := Z (Kd.R_drew GA.out)
   replace c := Z (blk_drew c.out)
   replace d := Z (blk_drew d.out)
   replace m := Z (blk_drew m.out)
   replace HB := Z (below_drew1 HB.out)
   refine start_ (n := 8) (S := fun w' => w'.cell? ⟨Q, 0, none⟩ = some (.int .i64 r) ∧ w'.cell? ⟨Q, 1, none⟩ = some (.int .i64 s) ∧ w'.cell? ⟨Q, 2, none⟩ = some (.slice V l.length W) ∧ w'.cell? ⟨Q, 3, none⟩ = some (.int .i64 u) ∧ w'.cell? ⟨Q, 4, none⟩ = some (.bool x) ∧ w'.cell? ⟨Q, 5, none⟩ = some (.bool y)) (ds := []) (bv 8 0) (by kernel_rfl) rfl rfl ⟨(blk_cell c.out 0).trans rfl, (blk_cell c.out 1).trans rfl, (blk_cell c.out 2).trans rfl, (blk_cell c.out 3).trans rfl, (blk_cell c.out 4).trans rfl, (blk_cell c.out 5).trans rfl⟩ (fun hHeld => ?_); refine with_tabW wipe_all.tab8 wipe_all.bits8 (fun HT_ HW_ => ?_)
   generalize wr.drew = ea at GA c d m HB hHeld ⊢
   refine tT_ HT_ HW_ hHeld 0 8 1 (some 22) ?_
   refine tT_ HT_ HW_ hHeld 1 8 3 (some 23) ?_
   refine oT_ HT_ 2 8 7 (some 24) (fun K hK => ?_)
   refine goes_ Tryz.func20 (by kernel_rfl) rfl #[.agg #[.int .i64 r, .int .i64 s, .slice V l.length W, .int .i64 u, .bool x, .bool y]] (by rfl) rfl rfl ag_ ?_
   with_reducible refine (grid_Size.calls r s _ _ l u x y aA _ ?side1 ?side2 bO.out).mono ?_
   (case side1 => repeat (first | exact (Kd.C_below ak.out HB.out) | (with_reducible apply pC)))
   (case side2 => exact ai.out)
   rintro e eb ⟨rfl, hb⟩
   refine ⟨_, rfl, ?_⟩
   replace GA := rb' GA hb
   replace c := kb' c hb
   replace d := kb' d hb
   replace m := kb' m hb
   replace HB := bs_ hb
   (try clear hb)
   (try clear aJ)
   (try clear hk)
   (try clear hi)
   refine hK.out _ _ ⟨(blk_cell c.out 0).trans rfl, (blk_cell c.out 1).trans rfl, (blk_cell c.out 2).trans rfl, (blk_cell c.out 3).trans rfl, (blk_cell c.out 4).trans rfl, (blk_cell c.out 5).trans rfl⟩ (fun hHeld => ?_)
   clear hK K
   refine nA_ (some 24) ?_
   refine pT_ HT_ 3 8 15 (some 25) ?_
   refine oT_ HT_ 4 8 31 (some 26) (fun K hK => ?_)
   refine goes_ Tryz.func54 (by kernel_rfl) rfl #[.agg #[.int .i64 r, .int .i64 s, .slice V l.length W, .int .i64 u, .bool x, .bool y], .int .i64 (wrap64 (aA - 1))] (by rfl) rfl rfl ag_ ?_
   with_reducible refine (field_Next.calls r s _ _ l u x y (wrap64 (aA - 1)) ah _ ?side1 ?side2 bP.out).mono ?_
   (case side1 => repeat (first | exact (Kd.C_below ak.out HB.out) | (with_reducible apply pC)))
   (case side2 => exact ai.out)
   rintro e dm ⟨rfl, hb⟩
   refine ⟨_, rfl, ?_⟩
   replace GA := rb' GA hb
   replace c := kb' c hb
   replace d := kb' d hb
   replace m := kb' m hb
   replace HB := bs_ hb
   (try clear hb)
   (try clear aJ)
   (try clear hk)
   (try clear hi)
   refine hK.out _ _ ⟨(blk_cell c.out 0).trans rfl, (blk_cell c.out 1).trans rfl, (blk_cell c.out 2).trans rfl, (blk_cell c.out 3).trans rfl, (blk_cell c.out 4).trans rfl, (blk_cell c.out 5).trans rfl⟩ (fun hHeld => ?_)
   clear hK K
   refine nA_ (some 26) ?_
   refine pT_ HT_ 5 8 63 (some 27) ?_
   refine pT_ HT_ 6 8 127 (some 28) ?_
   refine oT_ HT_ 7 8 255 none (fun K hK => ?_)
   have dZ : dm.cell? ⟨z, 3, none⟩ = some (.int .i64 U) := (blk_cell m.out 3).trans rfl
   have dx := blk_frozen m.out 3
   have c0 := q.out
   have c3 := O.out
   have cY := q.out.symm
   have cZ := O.out.symm
   refine skip_ (w1 := ?_) (by rfl) rfl ?_ ?_
   rotate_left
   ·go_simp
    rfl
   refine hK.out _ _ ⟨((cell_far (p := ⟨z, _, none⟩) q.out _).trans (hHeld.1)), ((cell_far (p := ⟨z, _, none⟩) q.out _).trans (hHeld.2.1)), ((cell_far (p := ⟨z, _, none⟩) q.out _).trans (hHeld.2.2.1)), ((cell_far (p := ⟨z, _, none⟩) q.out _).trans (hHeld.2.2.2.1)), ((cell_far (p := ⟨z, _, none⟩) q.out _).trans (hHeld.2.2.2.2.1)), ((cell_far (p := ⟨z, _, none⟩) q.out _).trans (hHeld.2.2.2.2.2))⟩ (fun hHeld => ?_)
   clear hK K
   refine done_ (done_of HT_.out (by kernel_rfl)) ?_
   have dE := ns_ q
   have dF := ns_ O
   have ch := cells6 m.out
   have dG := ns_ Y
   have cn := cells6 d.out
   obtain ⟨au, av, bX⟩ := Kd.R_slice GA.out
   subst bX
   try go_wp2
   refine bodyPost_ret (results_cell_row rfl _ _ P 24 #[.int .i64 F, .int .i64 G, .slice au a.length av, .int .i64 af, .bool L, .bool M] (0, 0) _ rfl (put6 (by (with_reducible repeat apply pK); refine blk_far ?_ O.out _; (with_reducible repeat apply pK); exact d.out)) Tryz.underlying24 rfl (by kernel_rfl)) rfl ?_
   exact ⟨_, by first | rfl | (simp [errW_none, errW_some] <;> rfl) | (simp only [← ae]; first | rfl | (simp [errW_none, errW_some] <;> rfl)) | (simp [*, errW_none, errW_some] <;> rfl), by (with_reducible repeat apply pR); exact Kd.R_mono (f6R P (Kd.R_far (p := ⟨z, 3, none⟩) (Kd.R_types (Kd.R_types GA.out m.out (by decide)) d.out (by decide)) im_ (.int .i64 af)) im_) im_, bl_⟩

/-! ### edit_Deny: function 111 -/
section
theorem own_lt_ {α : Type} {d : Kd α} {e base k : Nat} {ok : Nat → Prop} {v : Value} {xs : List α} {w : World} (h : Kd.R d e w base ok v xs) (hk : some k = v.ownBlock) : k < w.heap.size := own_lt h.2.choose_spec.1 k hk.symm
/-- edit.Deny: the screen, locked; the error is a spot at the cursor. -/
def edit_Deny.f (c d : Int) (b : List (S55)) (a : Int) (h e : Bool) (g : Option Er) (i : List S206) : Option (Int × Int × (List (S55)) × Int × Bool × Bool × Option Er × List S206) :=
 if b.length ≤ 16383 then (match g with | some (.num n) => some (c, d, b, a, true, e, some Er.spot, [⟨a, n⟩]) | _ => none) else none
theorem edit_Deny.calls (b c : Int) (s : Option Addr) (u : Nat) (a : List (S55)) (d : Int) (j i : Bool) (A : Option Er) (F : Option Addr) (G : Nat) (y : List S206) (r1 r2 : Int) (r3 : List (S55)) (r4 : Int) (r5 r6 : Bool) (r7 : Option Er) (r8 : List S206) (w : World) (D : Kd.C k55 w s a.length a) (B : a.length ≤ u) (K : Kd.C k206 w F y.length y) (J : y.length ≤ G) (h : edit_Deny.f b c a d j i A y = some (r1, r2, r3, r4, r5, r6, r7, r8)) :
  Calls Tryz.prog 111 #[.agg #[.int .i64 b, .int .i64 c, .slice s a.length u, .int .i64 d, .bool j, .bool i], errW (.slice F y.length G) A] w fun e w' => ∃ H Q : Value, e = .returned (.tuple #[.agg #[.int .i64 r1, .int .i64 r2, H, .int .i64 r4, .bool r5, .bool r6], errW Q r7]) ∧ Kd.R k55 55 w' w.heap.size (fun k_ => (w.heap.size ≤ k_)) H r3 ∧ Kd.V k206 206 w' w.heap.size (fun k_ => (w.heap.size ≤ k_) ∧ some k_ ≠ (H : Value).ownBlock) Q r8 ∧ Below w.heap.size w w' := by
 unfold edit_Deny.f at h
 by_cases hn : a.length ≤ 16383
 rotate_left
 ·rw [if_neg hn] at h; cases h
 rw [if_pos hn] at h
 rcases A with _ | q
 ·cases h
 cases q with
 | spot => cases h
 | num n =>
  simp only [Option.some.injEq, Prod.mk.injEq] at h
  obtain ⟨rfl, rfl, rfl, rfl, rfl, rfl, rfl, rfl⟩ := h
  rw [errW_some, show (Er.num n).ty = ERNT from rfl, show (Er.num n).pay _ = .int .i64 n from rfl]
  have HR := Z D
  have HL := Z B
  have HC := Z (show grid_Copy.f b c a d j i = some (b, c, a, d, j, i) by unfold grid_Copy.f slices_Clone_shutter_api_Cell_shutter_api_Cell.f; rw [if_pos hn]; rfl)
  have HB := Z (Below.refl w.heap.size w)
  have hu := Tryz.underlying24
  have ar := Tryz.underlying75
  have au := Tryz.underlying34
  clear D B K J
  go_enter Tryz.func111, Tryz.ntmps111
  go_wp2_with (first
   | ((with_reducible refine gD_ 2 rfl ?_); refine bx_ 2 24 #[.int .i64 b, .int .i64 c, .slice s a.length u, .int .i64 d, .bool j, .bool i] ?_; intro x hg w1 hbox hb; have m := bs_ hb; have p := Z hbox; have r := Z (le_new hg (below_size bl_) : w.heap.size ≤ x); clear HB; have HB := m; have k := p; have ap := r; clear m p r hb hbox hg)
   | ((with_reducible refine gD_ 4 rfl ?_); refine bx_ 4 24 zS_ ?_; intro E hg w2 hbox hb; have m := Z (blk_below (g := x) (o := .cells #[.int .i64 b, .int .i64 c, .slice s a.length u, .int .i64 d, .bool j, .bool i] 24 (0, 0)) k.out hb); have p := bs_ hb; have r := Z hbox; have v := Z (le_new hg (below_size bl_) : w.heap.size ≤ E); have z := Z (by rw [hg]; exact Nat.ne_of_lt (blk_lt k.out) : x ≠ E); clear k HB; have k := m; have HB := p; have l := r; have aq := v; have NB := z; clear m p r v z hb hbox hg; have hnb := NB.out; have hnc := NB.out.symm; have z0 := cells6 k.out)
   | ((with_reducible refine gF_ 21 rfl ?_); refine gd_ (some 10) Tryz.func21 (grid_Copy.calls b c _ _ a d j i b c a d j i _ (Kd.C_below HR.out HB.out) HL.out HC.out) ?_; rintro e w3 ⟨v1, rfl, M, hb⟩; refine ⟨_, rfl, ?_⟩; have HO := Z (Kd.R_lower M (below_size bl_)); replace k := Z (blk_below (g := x) (o := .cells #[.int .i64 b, .int .i64 c, .slice s a.length u, .int .i64 d, .bool j, .bool i] 24 (0, 0)) k.out hb); replace l := Z (blk_below (g := E) (o := .cells zS_ 24 (0, 0)) l.out hb); replace HB := bs_ hb; clear M hb; have x0 := cells6 k.out; obtain ⟨Ao, co, eo⟩ := Kd.R_slice HO.out; subst eo)
   | ((with_reducible refine gD_ 12 rfl ?_); obtain ⟨w5, hW⟩ : ∃ w5 : World, w5 = (((((((w3.setCell ⟨x, 0, none⟩ (.int .i64 b)).setCell ⟨x, 1, none⟩ (.int .i64 c)).setCell ⟨x, 2, none⟩ (.slice Ao a.length co)).setCell ⟨x, 3, none⟩ (.int .i64 d)).setCell ⟨x, 4, none⟩ (.bool j)).setCell ⟨x, 5, none⟩ (.bool i)).setCell ⟨x, 4, none⟩ (.bool true)) := ⟨_, rfl⟩; rw [← hW]; replace l := Z (show w5.heap[E]? = some (.cells zS_ 24 (0, 0)) by (rw [hW]; exact blk_off l.out NB.out.symm off2_)); replace HO := Z (show Kd.R k55 55 w5 w.heap.size (fun _ => True) (.slice Ao a.length co) a by (rw [hW]; exact R_off HO.out k.out (by decide) off2_)); replace k := Z (show w5.heap[x]? = some (.cells #[.int .i64 b, .int .i64 c, .slice Ao a.length co, .int .i64 d, .bool true, .bool i] 24 (0, 0)) by (rw [hW]; refine blk_put (cs := #[.int .i64 b, .int .i64 c, .slice Ao a.length co, .int .i64 d, .bool j, .bool i]) ?_ 4 _ rfl; refine blk_put (cs := #[.int .i64 b, .int .i64 c, .slice Ao a.length co, .int .i64 d, .bool j, .bool i]) ?_ 5 _ rfl; refine blk_put (cs := #[.int .i64 b, .int .i64 c, .slice Ao a.length co, .int .i64 d, .bool j, .bool i]) ?_ 4 _ rfl; refine blk_put (cs := #[.int .i64 b, .int .i64 c, .slice Ao a.length co, .int .i64 d, .bool j, .bool i]) ?_ 3 _ rfl; refine blk_put (cs := #[.int .i64 b, .int .i64 c, .slice s a.length u, .int .i64 d, .bool j, .bool i]) ?_ 2 _ rfl; refine blk_put (cs := #[.int .i64 b, .int .i64 c, .slice s a.length u, .int .i64 d, .bool j, .bool i]) ?_ 1 _ rfl; refine blk_put (cs := #[.int .i64 b, .int .i64 c, .slice s a.length u, .int .i64 d, .bool j, .bool i]) ?_ 0 _ rfl; exact k.out)); replace HB := Z (show Below w.heap.size w w5 by (rw [hW]; exact bl_)); clear hW x0; have x0 := cells6 k.out)
   | ((with_reducible refine gD_ 16 rfl ?_); refine bx_ 16 75 #[.int .i64 d, .iface ERNT (.int .i64 n)] ?_; intro I hg w4 hbox hb; have m := Z (Kd.R_below HO.out hb); have p := Z (blk_below l.out hb); have r := bs_ hb; have v := Z hbox; have O := Z (le_new hg (below_size bl_) : w.heap.size ≤ I); have z := Z (by rw [hg]; exact Nat.ne_of_lt (blk_lt l.out) : E ≠ I); have P := Z (by rw [hg]; exact fun h_ => Nat.lt_irrefl _ (own_lt_ HO.out h_) : some I ≠ (Value.slice Ao a.length co).ownBlock); clear HO l HB k; have HO := m; have l := p; have HB := r; have S := v; have T := O; have L := z; have NO := P; clear m p r v O z P hb hbox hg; have hnd := L.out; have s0 := cells6 l.out))
  refine bodyPost_ret (results_ct rfl _ _ E 24 #[.int .i64 b, .int .i64 c, .slice Ao a.length co, .int .i64 d, .bool true, .bool i] (0, 0) _ rfl (by first | (refine blk_put (cs := #[.int .i64 b, .int .i64 c, .slice Ao a.length co, .int .i64 d, .bool true, .bool false]) ?_ 5 _ rfl; refine blk_put (cs := #[.int .i64 b, .int .i64 c, .slice Ao a.length co, .int .i64 d, .bool false, .bool false]) ?_ 4 _ rfl; refine blk_put (cs := #[.int .i64 b, .int .i64 c, .slice Ao a.length co, .int .i64 0, .bool false, .bool false]) ?_ 3 _ rfl; refine blk_put (cs := #[.int .i64 b, .int .i64 c, .slice none 0 0, .int .i64 0, .bool false, .bool false]) ?_ 2 _ rfl; refine blk_put (cs := #[.int .i64 b, .int .i64 0, .slice none 0 0, .int .i64 0, .bool false, .bool false]) ?_ 1 _ rfl; refine blk_put (cs := zS_) ?_ 0 _ rfl; exact l.out)) Tryz.underlying24 rfl (by kernel_rfl)) rfl ?_
  exact ⟨_, .slice (some ⟨I, 0, none⟩) 1 1, rfl, Kd.R_reok rfl (R_off HO.out l.out (by decide) off2_) (fun k_ e_ => Kd.R_base (R_off HO.out l.out (by decide) off2_) k_ e_), spot_V (blk_off S.out L.out.symm off2_) ⟨T.out, NO.out⟩, bl_⟩
end

/-! ### field_Cells: function 132 -/
section
open Go.Shelf
attribute [local go_sem] Oper.semAt_some

def takeW (p : Int → Bool) (g : Nat → Int) : Nat → Nat → List Int
 | 0, _ => []
 | c + 1, s => if p (g s) = true then [] else g s :: takeW p g c (s + 1)
theorem uptoI_front {α : Type} (f : Nat → α) (k : Nat) : uptoI f (k + 1) = f 0 :: uptoI (fun j => f (j + 1)) k := by
 simp [uptoI, List.range_succ_eq_map, Function.comp_def]
theorem takeW_eq (p : Int → Bool) (g : Nat → Int) : ∀ c s k, k ≤ c → (∀ i, i < k → p (g (s + i)) = false) → (k = c ∨ p (g (s + k)) = true) → takeW p g c s = uptoI (fun j => g (s + j)) k
 | 0, s, k, d, b, a => by
  obtain rfl : k = 0 := by omega
  rfl
 | c + 1, s, k, d, b, a => by
  unfold takeW
  rcases k with _ | k
  ·rcases a with a | a
   ·omega
   ·rw [if_pos (by simpa using a)]; rfl
  ·rw [if_neg (by have := b 0 (by omega); simp at this; rw [this]; decide), uptoI_front]
   have := takeW_eq p g c (s + 1) k (by omega) (fun i hi => by have := b (i + 1) (by omega); rw [show s + 1 + i = s + (i + 1) by omega]; exact this) (by
    rcases a with a | a
    ·left; omega
    ·right; rw [show s + 1 + k = s + (k + 1) by omega]; exact a)
   rw [this]
   simp only [Nat.add_zero]
   congr 1
   congr 1
   funext j
   rw [show s + 1 + j = s + (j + 1) by omega]
/-- the cells of a cell's field -/
def cellsI (l : List S55) (a : Int) : List Int := if beginI l a < 0 then uptoI (fun j => (j : Int)) l.length else takeW (isF l) (wayI l.length (beginI l a) 1) l.length 0
theorem Cells_none (r c : Int) (A : Option Addr) (cp : Nat) (l : List S55) (cu : Int) (lo ins : Bool) (a : Int) (w : World) (hr : Kd.C k55 w A l.length l) (hc : l.length ≤ cp) (hn : l.length ≤ 16383) (u : 0 ≤ a) (x : a < l.length) (hb : beginI l a = -1) :
  CallsIn Fence.wide 5 Tryz.prog 132 #[.agg #[.int .i64 r, .int .i64 c, .slice A l.length cp, .int .i64 cu, .bool lo, .bool ins], .int .i64 a] w fun e w' => ∃ v : Value, e = .returned v ∧ Kd.R (Kd.int .i64) 3 w' w.heap.size (fun _ => True) v (cellsI l a) ∧ Below w.heap.size w w' := by
 have hE : cellsI l a = uptoI (fun j => (j : Int)) l.length := by rw [cellsI, hb]; rfl
 rw [hE]
 have hBg := Z (fun W hr => field_Begin.calls r c A cp l cu lo ins a (-1) W hr hc (by unfold field_Begin.f; rw [if_pos hn, if_pos u, if_pos x, hb]))
 clear hE hb
 have HR := Z hr
 clear hr
 obtain ⟨i0, hi, q, s, t⟩ := info_parts infoInt
 have y := Tryz.underlying24
 refine callsIn_of_wp Tryz.func132 rfl trivial ?_ rfl
 simp only [Tryz.ntmps132, List.size_toArray, List.length_cons, List.length_nil, Nat.reduceAdd, Nat.reduceSub, Array.replicate_succ, Array.replicate_zero, List.push_toArray, List.append_toArray, List.nil_append, List.cons_append]
 have d : Below w.heap.size w ((w.alloc (.cells #[.int .i64 r, .int .i64 c, .slice A l.length cp, .int .i64 cu, .bool lo, .bool ins] 24)).alloc (.cells #[.slice none 0 0] 121)) := below_alloc (below_alloc (Below.refl _ _) _) _
 have k1 := blk_alloc (blk_new w (.cells #[.int .i64 r, .int .i64 c, .slice A l.length cp, .int .i64 cu, .bool lo, .bool ins] 24)) (.cells #[.slice none 0 0] 121)
 have k2 := Boxed.new (w.alloc (.cells #[.int .i64 r, .int .i64 c, .slice A l.length cp, .int .i64 cu, .bool lo, .bool ins] 24)) 121 (.slice none 0 0)
 simp only [World.size_alloc] at k2
 gi_wp2_with (refine ⟨trivial, ?_⟩; gi_at_call 126; refine (callsIn_wide.2 (hBg.out _ (Kd.C_below HR.out d))).mono ?_; rintro e w1 ⟨rfl, b⟩; have g := below_step d b; have hS := blk_below k1 b; have hO : Boxed w1 (w.heap.size + 1) 121 (.slice none 0 0) := blk_below k2 b; clear b k1 k2; have z := (blk_cell hS 2).trans rfl)
 gi_loopw [17] (fun i wr => ∃ k : Nat, k ≤ l.length ∧ i = .int .i64 k ∧ Aside0 (∃ v, Boxed wr (w.heap.size + 1) 121 v ∧ wr.ownsRow w.heap.size 3 1 v k ((uptoI (fun j => (j : Int)) k).map (Value.int .i64))) ∧ Aside0 (Below w.heap.size w wr))
  (fun i _ => l.length - (intOf i).toNat)
 case atStart => exact ⟨0, Nat.zero_le _, rfl, ⟨_, hO, World.ownsRow_nil _ _ _ _⟩, ⟨g⟩⟩
 case round =>
  clear hO g hS z
  obtain ⟨k, hk, rfl, ⟨v, hv, hrow⟩, ⟨hB⟩⟩ := hrel
  by_cases hlt : k < l.length
  ·have o := hv.cell
   gi_wp2_with (gi_at_builtin; refine wpListIn_append_own _ rfl _ _ 121 rfl w.heap.size 3 i0 (.int .i64 0) 1 8 Tryz.underlying121 hi q s t rfl (by decide) _ _ _ rfl (hrow.alloc _) ⟨wr.heap.size, 0, none⟩ 1 1 [.int .i64 (k : Int)] rfl rfl (cell_one_new _ _ _) (by simp [Value.oneCell']) (by simp only [maxLen]; omega) (by omega) (by have := hB.size; simp; omega) ?_; intro v' w1 hown' hgrow _; obtain ⟨g', cap', rfl⟩ := ownsRow_succ hown'; obtain ⟨h, p, n, E, m⟩ := hv.appended (by decide) hrow hB.size (Nat.le_succ _) hown' hgrow; have B := h.cell; have D := h.frozen; clear hgrow hown')
   go_roundw
   case rel => exact ⟨k + 1, by omega, by go_num, ⟨_, p, by rw [uptoI_succ]; simpa using n⟩, ⟨hB.trans m⟩⟩
   case measure => simp [intOf]; omega
  ·obtain rfl : k = l.length := by omega
   have o := hv.cell
   gi_wp2
   go_ret
   exact ⟨v, rfl, Kd.R_of_own (by rw [uptoI_length]; exact hrow) (fun _ _ => trivial), hB⟩

theorem ownsRow_mono {w : World} {base base' : Nat} {e : TypeId} {size : Nat} {v : Value} {n : Nat} {xs : List Value} (h : w.ownsRow base e size v n xs) (hb : base' ≤ base) : w.ownsRow base' e size v n xs := by
 refine ⟨h.1, ?_⟩
 rcases h.2 with b | ⟨g, cap, cur, a, c, r⟩
 ·exact .inl b
 ·exact .inr ⟨g, cap, cur, a, by omega, r⟩
theorem ownsRow_far {w : World} {base k : Nat} {e : TypeId} {size : Nat} {v : Value} {n : Nat} {xs : List Value} (h : w.ownsRow base e size v n xs) (hk : k < base) : some k ≠ v.ownBlock := by
 rcases h.2 with ⟨rfl, _⟩ | ⟨g, cap, cur, rfl, a, r⟩
 ·simp [Value.ownBlock]
 ·intro he; have : k = g := by simpa [Value.ownBlock] using he
  omega
/-- what lies below the row's base, and is not the variable's box, stays behind 'out = append(out, ..)' -/
theorem appended_far {W w1 : World} {base B k : Nat} {e : TypeId} {size n : Nat} {v v' : Value} {xs : List Value} {tmp : Obj} (hrow : W.ownsRow base e size v n xs) (hgrow : (W.alloc tmp).grownBy w1 v.ownBlock) (hk : k < base) (hkW : k < W.heap.size) (hkB : k ≠ B) : (w1.setCell ⟨B, 0, none⟩ v').heap[k]? = W.heap[k]? :=
 (Below.heap_setCell _ _ _ k hkB).trans ((hgrow.block k (by simp; omega) (ownsRow_far hrow hk)).trans (Below.heap_alloc _ _ _ hkW))
theorem appended_keep3 {W w1 : World} {base B a b b3 : Nat} {e : TypeId} {size n : Nat} {v v' : Value} {xs : List Value} {tmp : Obj} (hrow : W.ownsRow base e size v n xs) (hgrow : (W.alloc tmp).grownBy w1 v.ownBlock) (hbW : base ≤ W.heap.size) (c : a < base) (d : b < base) (f : b3 < base) (k1 : a ≠ B) (k2 : b ≠ B) (k3 : b3 ≠ B) : Keep3 a b b3 W (w1.setCell ⟨B, 0, none⟩ v') :=
 ⟨by have := hgrow.size; simp [World.setCell] at this ⊢; omega, appended_far hrow hgrow c (by omega) k1, appended_far hrow hgrow d (by omega) k2, appended_far hrow hgrow f (by omega) k3⟩

theorem Cells_loop (r c : Int) (A : Option Addr) (cp : Nat) (l : List S55) (cu : Int) (lo ins : Bool) (a b : Int) (w : World) (hr : Kd.C k55 w A l.length l) (hc : l.length ≤ cp) (hn : l.length ≤ 16383) (J : 0 ≤ a) (L : a < l.length) (hb : beginI l a = b) (q : 0 ≤ b) (d : b < l.length) :
  CallsIn Fence.wide 5 Tryz.prog 132 #[.agg #[.int .i64 r, .int .i64 c, .slice A l.length cp, .int .i64 cu, .bool lo, .bool ins], .int .i64 a] w fun e w' => ∃ v : Value, e = .returned v ∧ Kd.R (Kd.int .i64) 3 w' w.heap.size (fun _ => True) v (cellsI l a) ∧ Below w.heap.size w w' := by
 have hpos : 0 < l.length := by omega
 have hE : cellsI l a = takeW (isF l) (wayI l.length b 1) l.length 0 := by rw [cellsI, hb, if_neg (by omega)]
 rw [hE]
 have hBg := Z (fun W hr => field_Begin.calls r c A cp l cu lo ins a b W hr hc (by unfold field_Begin.f; rw [if_pos hn, if_pos J, if_pos L, hb]))
 clear hE hb
 have HR := Z hr
 clear hr
 obtain ⟨i0, hi, z, E, F⟩ := info_parts infoInt
 have M := Tryz.underlying24
 have N := Tryz.underlying55
 have hbd : decide (b < 0) = false := decide_eq_false (by omega)
 refine callsIn_of_wp_marks Tryz.func132 rfl trivial ?_ rfl
 simp only [Tryz.ntmps132, List.size_toArray, List.length_cons, List.length_nil, Nat.reduceAdd, Nat.reduceSub, Array.replicate_succ, Array.replicate_zero, List.push_toArray, List.append_toArray, List.nil_append, List.cons_append]
 have h : Below w.heap.size w ((w.alloc (.cells #[.int .i64 r, .int .i64 c, .slice A l.length cp, .int .i64 cu, .bool lo, .bool ins] 24)).alloc (.cells #[.slice none 0 0] 121)) := below_alloc (below_alloc (Below.refl _ _) _) _
 have k1 := blk_alloc (blk_new w (.cells #[.int .i64 r, .int .i64 c, .slice A l.length cp, .int .i64 cu, .bool lo, .bool ins] 24)) (.cells #[.slice none 0 0] 121)
 have k2 := Boxed.new (w.alloc (.cells #[.int .i64 r, .int .i64 c, .slice A l.length cp, .int .i64 cu, .bool lo, .bool ins] 24)) 121 (.slice none 0 0)
 simp only [World.size_alloc] at k2
 gi_wp2_with (first
  | (refine ⟨trivial, ?_⟩; gi_at_call 126; refine (callsIn_wide.2 (hBg.out _ (Kd.C_below HR.out h))).mono ?_; rintro e w1 ⟨rfl, d⟩; have m := below_step h d; have hS := blk_below k1 d; have hO : Boxed w1 (w.heap.size + 1) 121 (.slice none 0 0) := blk_below k2 d; clear d k1 k2; have V := (blk_cell hS 0).trans rfl; have X := (blk_cell hS 1).trans rfl; have O := (blk_cell hS 2).trans rfl; have Y := (blk_cell hS 3).trans rfl; have s4 := (blk_cell hS 4).trans rfl; have s5 := (blk_cell hS 5).trans rfl)
  | (refine ⟨trivial, ?_⟩; gi_at_call 102; refine (callsIn_wide.2 (Round_exact r c _ _ cp cu lo ins b 1 _)).mono ?_; rintro e w' ⟨rfl, rfl⟩))
 have j1 := blk_new w1 (.cells #[.int .i64 r, .int .i64 c, .slice A l.length cp, .int .i64 cu, .bool lo, .bool ins] 24)
 have j2 := blk_new (w1.alloc (.cells #[.int .i64 r, .int .i64 c, .slice A l.length cp, .int .i64 cu, .bool lo, .bool ins] 24)) (.cells #[.int .i64 b] 3)
 have j3 := blk_new ((w1.alloc (.cells #[.int .i64 r, .int .i64 c, .slice A l.length cp, .int .i64 cu, .bool lo, .bool ins] 24)).alloc (.cells #[.int .i64 b] 3)) (.cells #[.int .i64 1] 3)
 simp only [World.size_alloc] at j2 j3
 have hBx : Below w.heap.size w (((w1.alloc (.cells #[.int .i64 r, .int .i64 c, .slice A l.length cp, .int .i64 cu, .bool lo, .bool ins] 24)).alloc (.cells #[.int .i64 b] 3)).alloc (.cells #[.int .i64 1] 3)) := below_alloc (below_alloc (below_alloc m _) _) _
 have U := m.size
 have P : w.heap.size + 2 ≤ w1.heap.size := by have := blk_lt hO; omega
 refine wpIn_rangeFunc_ownG rfl (by omega) (gf := 128) (lb := #[.pointer (some ⟨w1.heap.size, 0, none⟩), .pointer (some ⟨w1.heap.size + 1, 0, none⟩), .pointer (some ⟨w1.heap.size + 1 + 1, 0, none⟩)]) rfl trivial (enters_of Tryz.func128 (by kernel_rfl) rfl)
  (round_stops 4 (by omega) w1.heap.size (w1.heap.size + 1) (w1.heap.size + 1 + 1) r c A l.length cp cu lo ins b 1 hpos hn q d _ (blk_alloc (blk_alloc j1 _) _) (blk_alloc j2 _) j3) Keep3.trans (Keep3.put (by simp; omega) (by simp) (by simp)) (Below.refl _ _) (fun _ => rfl)
  (fun pre W => W.heap[w.heap.size]? = some (.cells #[.int .i64 r, .int .i64 c, .slice A l.length cp, .int .i64 cu, .bool lo, .bool ins] 24 (0, 0)) ∧ ((∃ v, Boxed W (w.heap.size + 1) 121 v ∧ W.ownsRow (w1.heap.size + 3) 3 1 v pre.length (pre.map fun x => Value.int .i64 x.1) ∧ ((∀ x ∈ pre, isF l x.1 = false) ∧ True)) ∧ (w1.heap.size + 3 ≤ W.heap.size ∧ Below w.heap.size w W)))
  (fun c' pre W => (∃ v, Boxed W (w.heap.size + 1) 121 v ∧ W.ownsRow (w1.heap.size + 3) 3 1 v pre.dropLast.length (pre.dropLast.map fun x => Value.int .i64 x.1) ∧ (c' = .exit 2 ∧ ∃ ini last, pre = ini ++ [last] ∧ (∀ x ∈ ini, isF l x.1 = false) ∧ isF l last.1 = true)) ∧ Below w.heap.size w W)
  (OwnFrom.and (Own.from (fun s A B row hs hg hr => (grownBy_keeps_cells hg hr hs rfl).trans hs) _) (OwnFrom.and (Own.from (holdsRow_own (w1.heap.size + 3) (w.heap.size + 1) 121 3 1 (fun pre : List (Rng l.length) => pre.length) (fun pre => pre.map fun x => Value.int .i64 x.1) (fun pre v => (∀ x ∈ pre, isF l x.1 = false) ∧ True)) _) (OwnFrom.and (fun s A B row hs hg _ => Nat.le_trans hs hg.size) (ownFrom_below (Nat.le_refl _) (by simp; omega)))))
  (fun c' => OwnFrom.and (Own.from (holdsRow_own (w1.heap.size + 3) (w.heap.size + 1) 121 3 1 (fun pre : List (Rng l.length) => pre.dropLast.length) (fun pre => pre.dropLast.map fun x => Value.int .i64 x.1) (fun pre v => c' = .exit 2 ∧ ∃ ini last, pre = ini ++ [last] ∧ (∀ x ∈ ini, isF l x.1 = false) ∧ isF l last.1 = true)) _) (ownFrom_below (Nat.le_refl _) (by simp; omega)))
  ⟨blk_alloc (blk_alloc (blk_alloc hS _) _) _, ⟨_, blk_alloc (blk_alloc (blk_alloc hO _) _) _, World.ownsRow_nil _ _ _ _, by simp⟩, by simp, hBx⟩
  (fun x => { tmps := #[.agg #[.int .i64 r, .int .i64 c, .slice A l.length cp, .int .i64 cu, .bool lo, .bool ins], .int .i64 a, .pointer (some ⟨w.heap.size, 0, none⟩), undef, .slice none 0 0, .pointer (some ⟨w.heap.size + 1, 0, none⟩), .int .i64 b, undef, .int .i64 x.1, .agg #[.int .i64 r, .int .i64 c, .slice A l.length cp, .int .i64 cu, .bool lo, .bool ins], .int .i64 a, .int .i64 b, .int .i64 b, .bool false, undef, undef, undef, undef, undef, undef, undef, undef, undef, undef, undef, undef, .agg #[.int .i64 r, .int .i64 c, .slice A l.length cp, .int .i64 cu, .bool lo, .bool ins], .int .i64 b, .func (.func 128) #[] #[.pointer (some ⟨w1.heap.size, 0, none⟩), .pointer (some ⟨w1.heap.size + 1, 0, none⟩), .pointer (some ⟨w1.heap.size + 1 + 1, 0, none⟩)], .int .i64 x.1, undef, undef, undef, undef, undef, undef, undef, undef, undef, undef, undef], defers := [] }) ?assign ?body ?done ?stop
 case assign =>
  intro l x W K hK
  gi_wp2
  exact hK
 case body =>
  rintro lp pre x W ⟨hS, ⟨v, hv, hrow, hp, _⟩, hbW, hB⟩ hlt
  have hr := HR.out
  obtain ⟨ad', e', hcx, hltx⟩ := cell_f0 hr x.1 x.2.1 x.2.2
  subst e'
  have hcW := (hB.cell hltx).trans hcx
  have O := (blk_cell hS 2).trans rfl
  have x0 := x.2.1
  have x1 := x.2.2
  have o := hv.cell
  cases hfx : isF l x.1 with
  | true =>
   rw [hfx] at hcW
   gi_wp2
   exact ⟨KeepsFrom.refl _ _, ⟨v, hv, by simpa using hrow, rfl, pre, x, rfl, hp, hfx⟩, hB⟩
  | false =>
   rw [hfx] at hcW
   gi_wp2_with (gi_at_builtin; refine wpListIn_append_own _ rfl _ _ 121 rfl (w1.heap.size + 3) 3 i0 (.int .i64 0) 1 8 Tryz.underlying121 hi z E F rfl (by decide) _ _ _ rfl (hrow.alloc _) ⟨W.heap.size, 0, none⟩ 1 1 [.int .i64 x.1] rfl rfl (cell_one_new _ _ _) (by simp [Value.oneCell']) (by simp only [maxLen]; omega) (by omega) (by simp; omega) ?_; intro v' w2 hown' hgrow _; obtain ⟨g', cap', rfl⟩ := ownsRow_succ hown'; obtain ⟨g, u, T, t, n⟩ := hv.appended (by decide) (ownsRow_mono hrow (by omega)) hB.size (Nat.le_succ _) (ownsRow_mono hown' (by omega)) hgrow; have Q := g.cell; have S := g.frozen)
   exact ⟨t.from _, appended_keep3 hrow hgrow hbW (by omega) (by omega) (by omega) (by omega) (by omega) (by omega), (appended_far hrow hgrow (by omega) (by omega) (by omega)).trans hS, ⟨_, u, by have := hown'.kept (grownBy_setCell' w2 (w.heap.size + 1) (.slice (some ⟨g', 0, none⟩) (pre.length + 1) cap')) (.inr (g.not_row (by decide) hown').symm); simpa using this, fun y hy => (List.mem_append.1 hy).elim (hp y) (fun e => by simp at e; subst e; exact hfx), trivial⟩, by have := n.size; omega, hB.trans n⟩
 case done =>
  rintro D ys W hD rfl ⟨hS, ⟨v, hv, hrow, hp, _⟩, hbW, hB⟩ hK
  have o := hv.cell
  gi_wp2
  refine ⟨by simp, .inl ⟨_, _, rfl, run_takeDeferred hK, ?_⟩⟩
  have hT := takeW_eq (isF l) (wayI l.length b 1) l.length 0 l.length (Nat.le_refl _) (fun i hi => by rw [Nat.zero_add]; exact hp _ (mem_uptoI (wayS hpos b 1) l.length i hi)) (.inl rfl)
  simp only [Nat.zero_add] at hT
  have p : (uptoI (wayS hpos b 1) l.length).map (fun x => Value.int .i64 x.1) = (uptoI (wayI l.length b 1) l.length).map (Value.int .i64) := by simp [uptoI, wayS]
  rw [p, uptoI_length] at hrow
  refine ⟨_, results_tmp rfl _ _ _, v, rfl, ?_, hB.trans (belowK_b (w := w) (Nat.le_refl _) W D _ _ (by simp at hD; omega) hK rfl rfl)⟩
  rw [hT]
  exact Kd.R_of_own (by rw [uptoI_length]; exact ownsRow_putObj (ownsRow_mono hrow (by omega)) _ hK rfl) (fun _ _ => trivial)
 case stop =>
  rintro D c' pre W hD ⟨k, hk, rfl⟩ ⟨⟨v, hv, hrow, rfl, ini, last, p, G, H⟩, hB⟩ hK
  have o := hv.cell
  gi_wp2
  refine ⟨by simp, .inl ⟨_, _, rfl, run_takeDeferred hK, ?_⟩⟩
  obtain ⟨j, rfl, rfl, rfl⟩ := uptoI_last _ _ _ _ p
  have hT := takeW_eq (isF l) (wayI l.length b 1) l.length 0 j (by omega) (fun i hi => by rw [Nat.zero_add]; exact G _ (mem_uptoI (wayS hpos b 1) j i hi)) (.inr (by rw [Nat.zero_add]; exact H))
  simp only [Nat.zero_add] at hT
  have I : (uptoI (wayS hpos b 1) j).map (fun x => Value.int .i64 x.1) = (uptoI (wayI l.length b 1) j).map (Value.int .i64) := by simp [uptoI, wayS]
  rw [uptoI_succ, List.dropLast_concat, I, uptoI_length] at hrow
  refine ⟨_, results_tmp rfl _ _ _, v, rfl, ?_, hB.trans (belowK_b (w := w) (Nat.le_refl _) W D _ _ (by simp at hD; omega) hK rfl rfl)⟩
  rw [hT]
  exact Kd.R_of_own (by rw [uptoI_length]; exact ownsRow_putObj (ownsRow_mono hrow (by omega)) _ hK rfl) (fun _ _ => trivial)

def field_Cells.f (b c : Int) (a : List (S55)) (d : Int) (e g : Bool) (a1 : Int) : Option (List Int) := if a.length ≤ 16383 then (if 0 ≤ a1 then (if a1 < (a.length : Int) then (some (cellsI a a1)) else (none)) else (none)) else (none)
theorem field_Cells.calls (c d : Int) (b : Option Addr) (k : Nat) (a : List (S55)) (g : Int) (i j : Bool) (a1 : Int) (r : List Int) (w : World) (m : Kd.C k55 w b a.length a) (l : a.length ≤ k) (h : field_Cells.f c d a g i j a1 = some r) :
  Calls Tryz.prog 132 #[.agg #[.int .i64 c, .int .i64 d, .slice b a.length k, .int .i64 g, .bool i, .bool j], .int .i64 a1] w fun e w' => ∃ n : Value, e = .returned (n) ∧ Kd.R (Kd.int .i64) 3 w' w.heap.size (fun _ => True) n r ∧ Below w.heap.size w w' := by
 obtain ⟨hn, o, p, rfl⟩ := guard3 h
 rcases begin_range a a1 (by omega) with hb | ⟨q, s, _⟩
 ·exact callsIn_wide.1 (Cells_none c d b k a g i j a1 w m l hn o p hb)
 ·exact callsIn_wide.1 (Cells_loop c d b k a g i j a1 _ w m l hn o p rfl q s)
end

/-! ### slices_Index_int_int: function 133 -/
def slices_Index_int_int.l0 : Nat → List Int → Int → Int → Int → Option (Int)
 | 0, _, _, _, _ => none
 | k + 1, b, c, d, a => if a < d then (if 0 ≤ a then (if a < (b.length : Int) then (if c = (rd b a) then (some a) else (slices_Index_int_int.l0 k b c d (wrap64 (a + 1)))) else (none)) else (none)) else (some (-1))
def slices_Index_int_int.f (k : Nat) (l0 : List Int) (a1 : Int) : Option (Int) := slices_Index_int_int.l0 k l0 a1 (l0.length : Int) 0
theorem slices_Index_int_int.mono_l : ∀ k, (∀ b c d e, LeO (slices_Index_int_int.l0 k b c d e) (slices_Index_int_int.l0 (k + 1) b c d e))
 | 0 => fun _ _ _ _ r h => by simp [slices_Index_int_int.l0] at h
 | k + 1 => by
  have a := slices_Index_int_int.mono_l k
  ·intro b c d e
   unfold slices_Index_int_int.l0
   repeat' first
   | (with_reducible exact a _ _ _ _)
   | (with_reducible exact LeO.refl _)
   | (with_reducible exact LeO.none _)
   | (with_reducible refine LeO.ite ?_ ?_)
   | (with_reducible refine LeO.bind ?_ (fun _ => ?_))
   | exact a _ _ _ _
   | exact LeO.none _
   | refine LeO.ite ?_ ?_
   | refine LeO.bind ?_ (fun _ => ?_)
theorem slices_Index_int_int.mono : ∀ a0 a1 k, LeO (slices_Index_int_int.f k a0 a1) (slices_Index_int_int.f (k + 1) a0 a1) := by
 intro a0 a1 k
 have a := slices_Index_int_int.mono_l k
 unfold slices_Index_int_int.f
 repeat' first
   | (with_reducible exact a _ _ _ _)
   | (with_reducible exact LeO.refl _)
   | (with_reducible exact LeO.none _)
   | (with_reducible refine LeO.ite ?_ ?_)
   | (with_reducible refine LeO.bind ?_ (fun _ => ?_))
   | exact a _ _ _ _
   | exact LeO.none _
   | refine LeO.ite ?_ ?_
   | refine LeO.bind ?_ (fun _ => ?_)
theorem slices_Index_int_int.calls (k : Nat) (q : Option Addr) (c0 : Nat) (l0 : List Int) (a1 r : Int) (w : World) (hr0 : Kd.C (Kd.int .i64) w q l0.length l0) (m : l0.length ≤ c0) (h : slices_Index_int_int.f k l0 a1 = some r) :
  Calls Tryz.prog 133 #[.slice q l0.length c0, .int .i64 a1] w fun e w' => e = .returned (.int .i64 r) ∧ Drawn0 w w' := by
 have l := Z hr0
 have v := Z m
 clear hr0 m
 unfold slices_Index_int_int.f at h
 have H := h
 clear h
 have H' := Z H
 clear H
 go_enter Tryz.func133, Tryz.ntmps133
 go_wp2
 go_loopg [8] k (fun kq u w' => ∃ (a : Int), u = .int .i64 a ∧ Aside0 (slices_Index_int_int.l0 kq l0 a1 (l0.length : Int) a = some r) ∧ Aside0 (kq ≤ k) ∧ Drawn0 w w')
 case atStart => exact ⟨(0), (dn_), H', ⟨Nat.le_refl _⟩, dr_⟩
 case round =>
  clear H'
  obtain ⟨a, rfl, HA, j, ⟨x, rfl⟩⟩ := hrel
  cases gk with
  | zero => exact absurd HA.out (by simp [slices_Index_int_int.l0])
  | succ k1 =>
   have H := HA.out
   clear HA
   simp only [slices_Index_int_int.l0] at H
   by_cases c3 : a < (l0.length : Int)
   rotate_left
   ·rw [if_neg c3] at H
    have n := decide_eq_false c3
    clear c3
    obtain rfl := Option.some.inj H
    go_wp2
    go_ret
    exact ⟨dn_, dr_⟩
   rw [if_pos c3] at H
   have n := decide_eq_true c3
   clear c3
   obtain ⟨c4, H⟩ := gt_ H
   have s := decide_eq_true c4
   clear c4
   obtain ⟨c5, H⟩ := gt_ H
   have t := decide_eq_true c5
   clear c5
   by_cases c6 : a1 = (rd l0 a)
   ·rw [if_pos c6] at H
    obtain ⟨o, p⟩ := eT_ c6
    clear c6
    obtain rfl := Option.some.inj H
    have b : 0 ≤ (a : Int) := od_
    have c : a < (l0.length : Int) := od_
    obtain ⟨i, d, g⟩ := Kd.at_int l.out a b c
    cases d
    replace b := eq_true b
    replace c := eq_true c
    go_wp2
    go_ret
    exact ⟨dn_, dr_⟩
   rw [if_neg c6] at H
   obtain ⟨o, p⟩ := eF_ c6
   have H' := Z H
   clear H
   have b : 0 ≤ (a : Int) := od_
   have c : a < (l0.length : Int) := od_
   obtain ⟨i, d, g⟩ := Kd.at_int l.out a b c
   cases d
   replace b := eq_true b
   replace c := eq_true c
   go_wp2
   go_roundg k1
   case measure => have := j.out; omega
   case rel => exact ⟨(wrap64 (a + 1)), (dn_), H', ⟨by have := j.out; omega⟩, dr_⟩

end Go.Proofs.YtjpedimndkibnaaGreatDoor.P
