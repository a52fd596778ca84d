/- pp.py and press2.py (wip/tools) wrote this text. -/
import Derived.Test.YtgboplhcjhlabaaDoorPx0
import Derived.Test.YtgboplhcjhlabaaDoorPxS
import Derived.Test.YtgboplhcjhlabaaDoorPx0L
import Derived.Test.YtgboplhcjhlabaaDoorPx4
namespace Go.Proofs.YtgboplhcjhlabaaDoor.P
open Go.RowKit Go.Proofs.YtgboplhcjhlabaaDoorW.PrintWords Go.Proofs.YtgboplhcjhlabaaDoorW.PrintLast Go.Proofs.YtgboplhcjhlabaaDoorW.PrintMore
attribute [local go_sem] max2_int min2_int max_two min_two max_three min_three max_four min_four
attribute [local go_sem] Instr.field asAgg
set_option linter.unusedVariables false
set_option linter.unusedSimpArgs false

/-! ### api_Code: function 18 -/
section
/-- api.Code: an error's number, a spot's number, or 0. -/
def api_Code.f (a : Option Er) (b : List S184) : Option Int :=
 match a with
 | none => some 0
 | some (.num n) => some n
 | some .spot => match b with | [s] => some s.f1 | _ => none
set_option maxRecDepth 100000 in
set_option maxHeartbeats 4000000 in
theorem api_Code.calls (c : Option Er) (g : Option Addr) (d : Nat) (a : List S184) (r : Int) (w : World) (b : Kd.C k184 w g a.length a) (i : a.length ≤ d) (hG : LaidG w) (h : api_Code.f c a = some r) :
  Calls Tryd.prog 18 #[errW (.slice g a.length d) c] w fun e w' => e = .returned (.int .i64 r) ∧ Below w.heap.size w w' := by
 rcases c with _ | q
 ·obtain rfl := Option.some.inj h
  rw [errW_none]
  clear b h
  go_enter Tryd.func18, Tryd.ntmps18
  go_wp2
  go_ret
  exact ⟨rfl, below_alloc (Below.refl _ _) _⟩
 ·cases q with
  | num n =>
   obtain rfl := Option.some.inj h
   rw [errW_some, show (Er.num n).ty = 75 from rfl, show (Er.num n).pay _ = .int .i64 n from rfl]
   clear b h
   have HA := Z (EA.hit n ⟨w.heap.size, 0, none⟩ (.int .i64 0) (w.alloc (.cells #[.int .i64 0] 75)) (laidG_alloc hG _) (by simp) (by rw [frozen?_alloc_cells]; simp [World.frozen?]))
   go_enter Tryd.func18, Tryd.ntmps18
   go_wp2_with (go_at_call 42; refine HA.out.mono ?_; rintro e w' ⟨rfl, rfl⟩)
   go_ret
   exact ⟨rfl, below_alloc (below_alloc (below_alloc (below_alloc (below_alloc (Below.refl _ _) _) _) _) _) _⟩
  | spot =>
   match a, b, i, h with
   | [s], hr, hc, h =>
    obtain rfl := Option.some.inj h
    obtain ⟨ad, rfl, k, j⟩ := spot_at hr
    rw [errW_some, show Er.spot.ty = 83 from rfl, show Er.spot.pay (.slice (some ad) ([s] : List S184).length d) = .pointer (some ad) from rfl]
    have hlt := bk_ w ⟨ad.block, ad.off + 1, none⟩ j
    have HA := Z (EA.spot ad s.f1 ⟨w.heap.size, 0, none⟩ (.int .i64 0) (w.alloc (.cells #[.int .i64 0] 75)) (by rw [World.cell?_alloc_lt _ _ ⟨ad.block, ad.off + 1, none⟩ hlt]; exact j) (laidG_alloc hG _) (by simp) (by rw [frozen?_alloc_cells]; simp [World.frozen?]))
    clear k j hr hlt h
    go_enter Tryd.func18, Tryd.ntmps18
    go_wp2_with (go_at_call 42; refine HA.out.mono ?_; rintro e w' ⟨rfl, rfl⟩)
    go_ret
    exact ⟨rfl, below_alloc (below_alloc (below_alloc (below_alloc (below_alloc (Below.refl _ _) _) _) _) _) _⟩
end

/-! ### slices_Clone_shutter_api_Cell_shutter_api_Cell: function 64 -/
section
/-- slices.Clone of cells: a nil row stays one, any other is made anew. -/
def slices_Clone_shutter_api_Cell_shutter_api_Cell.f (l : List S44) : Option (List S44) := if l.length ≤ 16383 then some l else none
set_option maxRecDepth 100000 in
set_option maxHeartbeats 4000000 in
theorem slices_Clone_shutter_api_Cell_shutter_api_Cell.calls (g : Option Addr) (c0 : Nat) (l0 : List (S44)) (r : List (S44)) (w : World) (hr0 : Kd.C k44 w g l0.length l0) (o : l0.length ≤ c0) (h : slices_Clone_shutter_api_Cell_shutter_api_Cell.f l0 = some r) :
  Calls Tryd.prog 64 #[.slice g l0.length c0] w fun e w' => ∃ d : Value, e = .returned (d) ∧ Kd.R k44 44 w' w.heap.size (fun _ => True) d r ∧ Below w.heap.size w w' := by
 unfold slices_Clone_shutter_api_Cell_shutter_api_Cell.f at h
 by_cases hn : l0.length ≤ 16383
 ·rw [if_pos hn] at h
  obtain rfl := Option.some.inj h
  have HR := Z hr0
  clear h hr0
  rcases g with _ | ad
  ·have hl : l0 = [] := by
    rcases Nat.eq_zero_or_pos l0.length with i | i
    ·exact List.eq_nil_of_length_eq_zero i
    ·obtain ⟨ad, h, _⟩ := HR.out.2.2 i
     cases h
   subst hl
   have hE := fun (w : World) => Lib.run_eql_slice_nil (P := Tryd.prog) w 22 44 none 0 c0 0 0 Tryd.underlying22
   rw [List.length_nil]
   go_enter Tryd.func64, Tryd.ntmps64
   go_wp2
   go_ret
   exact ⟨_, rfl, Kd.R_nil _ _ _ _ _, Below.refl _ _⟩
  ·have HB := Z (Below.refl w.heap.size w)
   have hE := fun (w : World) => Lib.run_eql_slice_nil (P := Tryd.prog) w 22 44 (some ad) l0.length c0 0 0 Tryd.underlying22
   go_enter Tryd.func64, Tryd.ntmps64
   go_wp2_with (first
    | ((with_reducible refine gate_dst (N := 5) rfl ?_); refine Kd.R_lit k44 w.heap.size 44 ?hg (N := 5) ?hd (xs := ([] : List (S44))) (inner := []) (ok := fun _ => True) (okp := fun _ => True) ?hr ?hp (fun _ hk => hk) trivial (Below.refl _ _) (Nat.le_refl _) (by simp) ?_; (case hd => rfl); (case hg => rfl); (case hr => first | (go_simp; done) | (go_simp; rfl)); (case hp => exact (Reps.none _ _)); intro n w1 ho hb hg_ hnew_; clear hg_ hnew_; have HO := Z ho; have hB := Z hb; clear ho hb HB; have HB := hB; clear hB)
    | ((with_reducible refine gate_builtin (b := .append) (xs := #[.tmp 5, .tmp 6]) rfl ?_); at_builtin; refine Kd.R_append_rows k44 (w0 := w) w.heap.size rfl (.tmp 5) (.tmp 6) 22 44 (.agg #[(.bool false), (.bool false), (.bool false), (.int .i64 0), (.bool false), (.int .u8 0)]) 40 rfl Tryd.underlying22 info44 rfl (by decide) (by omega) n ([] : List S44) l0 _ _ _ (fun _ => True) (fun _ => False) rfl rfl ?aO ?aR (fun _ _ h => h) (fun _ h => h.elim) ?aF ?aB ?aS ?aL ?_; (case aR => repeat (first | exact (Kd.C_below HR.out HB.out) | (with_reducible apply pC))); (case aB => exact bl_); (case aF => exact (fun _ _ => trivial)); (case aO => exact (by (with_reducible repeat apply pR); exact HO.out)); (case aS => exact (below_size bl_)); (case aL => simp only [List.length_nil]; omega); intro p w2 c a m j; clear m j; have l := Z c; have k := Z a; clear c a))
   go_ret
   exact ⟨_, rfl, by have := l.out; rwa [List.nil_append] at this, k.out⟩
 ·rw [if_neg hn] at h
  cases h
end

/-! ### grid_Copy: function 38 -/
def grid_Copy.f (a : Int) (b : Int) (g : List (S44)) (c : Int) (d : Bool) (e : Bool) : Option (Int × Int × (List (S44)) × Int × Bool × Bool) := (slices_Clone_shutter_api_Cell_shutter_api_Cell.f g).bind fun h => (some (a, b, h, c, d, e))
set_option maxHeartbeats 8000000 in
set_option maxRecDepth 100000 in
theorem grid_Copy.calls (b : Int) (d : Int) (x : Option Addr) (y : Nat) (j : List (S44)) (i : Int) (k : Bool) (m : Bool) (I : Int) (J : Int) (K : List (S44)) (L : Int) (M : Bool) (O : Bool) (w : World) (E : Kd.C k44 w x j.length j) (D : j.length ≤ y) (h : grid_Copy.f b d j i k m = some (I, J, K, L, M, O)) :
  Calls Tryd.prog 38 #[.agg #[.int .i64 b, .int .i64 d, .slice x j.length y, .int .i64 i, .bool k, .bool m]] w fun e w' => ∃ V : Value, e = .returned (.agg #[.int .i64 I, .int .i64 J, V, .int .i64 L, .bool M, .bool O]) ∧ Kd.R k44 44 w' w.heap.size (fun _ => True) V K ∧ Below w.heap.size w w' := by
 have aR := Tryd.underlying24
 have G := Z E
 have F := Z D
 clear E D
 have HB := Z (Below.refl w.heap.size w)
 have H : ((slices_Clone_shutter_api_Cell_shutter_api_Cell.f j).bind fun g => (some (b, d, g, i, k, m))) = some (I, J, K, L, M, O) := h
 clear h
 replace H := Option.bind_eq_some_iff.mp H
 obtain ⟨g, P, H⟩ := H
 replace H : (some (b, d, g, i, k, m)) = some (I, J, K, L, M, O) := H
 have A2 := Z P
 clear P
 simp only [Option.some.injEq, Prod.mk.injEq] at H
 obtain ⟨rfl, rfl, rfl, rfl, rfl, rfl⟩ := H
 go_enter Tryd.func38, Tryd.ntmps38
 go_wp2_with (first | ((with_reducible refine gate_dst (N := 1) rfl ?_); refine bx_ 1 24 #[.int .i64 b, .int .i64 d, .slice x j.length y, .int .i64 i, .bool k, .bool m] ?_; intro z hg w3 hbox hb; have a := Z (hbox); have aM := Z (ln_ hg : w.heap.size ≤ z); have aK := Z (ln_ hg : w.heap.size ≤ z); replace HB := Z (below_step bl_ hb); clear hb hbox hg) | ((with_reducible refine gate_dst (N := 2) rfl ?_); refine bx_ 2 24 #[.int .i64 0, .int .i64 0, .slice none 0 0, .int .i64 0, .bool false, .bool false] ?_; intro c hg w4 hbox hb; have l := Z (hbox); have aN := Z (ln_ hg : w.heap.size ≤ c); have aL := Z (ln_ hg : w.heap.size ≤ c); replace HB := Z (below_step bl_ hb); have A := Z (nl a.out hg); have n := Z (ng a.out hg); replace a := Z (kb a.out hb); clear hb hbox hg; have aP := A.out; have aQ := n.out; obtain ⟨ak, al, am, an, ao, ap, ay, az, aA, aB, aC, aD⟩ := cells6 a.out) | ((with_reducible refine gate_callee (f := 64) rfl ?_); refine goesL_ (some 5) rfl rfl Tryd.func64 (by kernel_rfl) rfl #[.slice x j.length y] rfl ag_ ?_; (with_reducible refine (slices_Clone_shutter_api_Cell_shutter_api_Cell.calls _ _ j g _ ?side1 ?side2 A2.out).mono ?_); (case side1 => repeat (first | exact (Kd.C_below G.out HB.out) | (with_reducible apply pC))); (case side2 => exact F.out); rintro e w7 ⟨aS, rfl, Q, hb⟩; refine ⟨_, rfl, ?_⟩; have B := Z (Kd.R_lower Q (below_size bl_)); replace a := Z (kb a.out hb); replace l := Z (kb l.out hb); replace HB := Z (below_step bl_ hb); (try clear hb); (try clear aT); (try clear hk); (try clear hi); (try clear Q); obtain ⟨u, v, aj⟩ := Kd.R_slice B.out; subst aj; obtain ⟨aq, ar, au, av, aw, ax, aE, aF, aG, aH, aI, aJ⟩ := cells6 a.out; obtain ⟨W, X, Y, aa, ab, ac, ad, ae, af, ag, ah, ai⟩ := cells6 l.out))
 refine bodyPost_ret (results_cell_row rfl _ _ c 24 #[.int .i64 b, .int .i64 d, .slice u g.length v, .int .i64 i, .bool k, .bool m] (0, 0) _ rfl (by (with_reducible repeat apply pK); refine blk_put (cs := #[.int .i64 b, .int .i64 d, .slice u g.length v, .int .i64 i, .bool k, .bool false]) ?_ 5 _ rfl; (with_reducible repeat apply pK); refine blk_put (cs := #[.int .i64 b, .int .i64 d, .slice u g.length v, .int .i64 i, .bool false, .bool false]) ?_ 4 _ rfl; (with_reducible repeat apply pK); refine blk_put (cs := #[.int .i64 b, .int .i64 d, .slice u g.length v, .int .i64 0, .bool false, .bool false]) ?_ 3 _ rfl; (with_reducible repeat apply pK); refine blk_put (cs := #[.int .i64 b, .int .i64 d, .slice none 0 0, .int .i64 0, .bool false, .bool false]) ?_ 2 _ rfl; (with_reducible repeat apply pK); refine blk_put (cs := #[.int .i64 b, .int .i64 0, .slice none 0 0, .int .i64 0, .bool false, .bool false]) ?_ 1 _ rfl; (with_reducible repeat apply pK); refine blk_put (cs := #[.int .i64 0, .int .i64 0, .slice none 0 0, .int .i64 0, .bool false, .bool false]) ?_ 0 _ rfl; (with_reducible repeat apply pK); refine blk_far ?_ n.out _; (with_reducible repeat apply pK); exact l.out) Tryd.underlying24 rfl (by kernel_rfl)) rfl ?_
 exact ⟨_, er_, by (with_reducible repeat apply pR); exact Kd.R_mono (f6R c (Kd.R_far (p := ⟨z, 2, none⟩) (Kd.R_types (Kd.R_types B.out a.out (by decide)) l.out (by decide)) (fun _ hk => hk.1.2) (.slice u g.length v)) (fun _ hk => hk.2)) (fun _ hk => trivial), bl_⟩

/-! ### paint_All: function 24 -/
section
theorem cl_off {w w1 : World} {g a j : Nat} {v : Value} (h : w.cell? ⟨g, j, none⟩ = some v) (ne : g ≠ a) (hm : ∀ k, k ≠ a → w1.heap[k]? = w.heap[k]?) : w1.cell? ⟨g, j, none⟩ = some v := by
 rw [← h]; simp only [World.cell?, hm g ne]
/-- paint.All, handed no orders: a copy. -/
def paint_All.f (b : Int) (c : Int) (a : List (S44)) (d : Int) (e : Bool) (g : Bool) (a1 : Int) (l2 : List (S30)) : Option (Int × Int × (List (S44)) × Int × Bool × Bool × Int × Option Er × List S184) :=
 if l2.length = 0 then (if a.length ≤ 16383 then some (b, c, a, d, e, g, a1, none, []) else none) else none
set_option maxHeartbeats 8000000 in
set_option maxRecDepth 100000 in
theorem paint_All.calls (c : Int) (d : Int) (u : Option Addr) (y : Nat) (a : List (S44)) (g : Int) (j : Bool) (k : Bool) (a1 : Int) (I : Option Addr) (c2 : Nat) (l2 : List (S30)) (O : Int) (P : Int) (Q : List (S44)) (T : Int) (U : Bool) (W : Bool) (X : Int) (r8 : Option Er) (r9 : List S184) (w : World) (D : Kd.C k44 w u a.length a) (B : a.length ≤ y) (M : Kd.C k30 w I l2.length l2) (L : l2.length ≤ c2) (h : paint_All.f c d a g j k a1 l2 = some (O, P, Q, T, U, W, X, r8, r9)) :
  Calls Tryd.prog 24 #[.agg #[.int .i64 c, .int .i64 d, .slice u a.length y, .int .i64 g, .bool j, .bool k], .int .i64 a1, .slice I l2.length c2] w fun e w' => ∃ E H : Value, e = .returned (.tuple #[.agg #[.int .i64 O, .int .i64 P, E, .int .i64 T, .bool U, .bool W], .int .i64 X, errW H r8]) ∧ Kd.R k44 44 w' w.heap.size (fun k_ => (w.heap.size ≤ k_)) E Q ∧ Kd.V k184 184 w' w.heap.size (fun k_ => (w.heap.size ≤ k_) ∧ some k_ ≠ (E : Value).ownBlock) H r9 ∧ Below w.heap.size w w' := by
 unfold paint_All.f at h
 by_cases hz : l2.length = 0
 ·rw [if_pos hz] at h
  by_cases hn : a.length ≤ 16383
  ·rw [if_pos hn] at h
   simp only [Option.some.injEq, Prod.mk.injEq] at h
   obtain ⟨rfl, rfl, rfl, rfl, rfl, rfl, rfl, rfl, rfl⟩ := h
   rw [hz]
   have HR := Z D
   have HL := Z B
   have HC := Z (show grid_Copy.f c d a g j k = some (c, d, a, g, j, k) by unfold grid_Copy.f slices_Clone_shutter_api_Cell_shutter_api_Cell.f; rw [if_pos hn]; rfl)
   have HB := Z (Below.refl w.heap.size w)
   have hu := Tryd.underlying24
   have ak := Tryd.underlying71
   clear D B M L hn hz
   go_enter Tryd.func24, Tryd.ntmps24
   go_wp2_with (first
    | ((with_reducible refine gate_dst (N := 3) rfl ?_); refine bx_ 3 24 #[.int .i64 c, .int .i64 d, .slice u a.length y, .int .i64 g, .bool j, .bool k] ?_; intro J hg w1 hbox hb; have o := Z (below_step bl_ hb); have p := Z hbox; have q := Z (le_new hg (below_size bl_) : w.heap.size ≤ J); clear HB; have HB := o; have r := p; have ai := q; clear o p q hb hbox hg)
    | ((with_reducible refine gate_dst (N := 6) rfl ?_); refine bx_ 6 24 #[.int .i64 0, .int .i64 0, .slice none 0 0, .int .i64 0, .bool false, .bool false] ?_; intro F hg w2 hbox hb; have o := Z (kb r.out hb); have p := Z (below_step bl_ hb); have q := Z hbox; have s := Z (le_new hg (below_size bl_) : w.heap.size ≤ F); have A := Z (nl r.out hg); clear r HB; have r := o; have HB := p; have b := q; have aj := s; have NB := A; clear o p q s A hb hbox hg; have hnb := NB.out; have hnc := NB.out.symm))
   go_loopg [17] 0 (fun m Y w' => Y = .int .i64 0 ∧ Aside0 (w'.heap[J]? = some (.cells #[.int .i64 c, .int .i64 d, .slice u a.length y, .int .i64 g, .bool j, .bool k] 24 (0, 0))) ∧ Aside0 (w'.heap[F]? = some (.cells #[.int .i64 0, .int .i64 0, .slice none 0 0, .int .i64 0, .bool false, .bool false] 24 (0, 0))) ∧ Aside0 (Below w.heap.size w w'))
   case atStart => exact ⟨rfl, r, b, HB⟩
   case round =>
    clear r b HB
    obtain ⟨rfl, r, b, HB⟩ := hrel
    obtain ⟨z0, z1, z2, z3, z4, z5, y0, y1, y2, y3, y4, y5⟩ := cells6 r.out
    go_wp2_with (first
     | ((with_reducible refine gate_callee (f := 38) rfl ?_); refine goesL_ (some 37) rfl rfl Tryd.func38 (by kernel_rfl) rfl #[.agg #[.int .i64 c, .int .i64 d, .slice u a.length y, .int .i64 g, .bool j, .bool k]] rfl ag_ ?_; (with_reducible refine (grid_Copy.calls c d _ _ a g j k c d a g j k _ ?side1 ?side2 HC.out).mono ?_); (case side1 => exact Kd.C_below HR.out HB.out); (case side2 => exact HL.out); rintro e w3 ⟨v1, rfl, G, hb⟩; refine ⟨_, rfl, ?_⟩; have HO := Z (Kd.R_lower G (below_size bl_)); replace r := Z (kb r.out hb); replace b := Z (kb b.out hb); replace HB := Z (below_step bl_ hb); clear G hb; obtain ⟨Ao, co, eo⟩ := Kd.R_slice HO.out; subst eo)
     | ((with_reducible refine gate_dst (N := 40) rfl ?_); refine bx_ 40 71 #[.int .i64 c, .int .i64 d, .slice Ao a.length co, .int .i64 g, .bool j, .bool k, .int .i64 a1] ?_; intro z hg w4 hbox hb; have o := Z (rb HO.out hb); have p := Z (kb b.out hb); have q := Z (below_step bl_ hb); have s := Z hbox; have A := Z (nl b.out hg); clear HO r b HB hb hbox hg; have HO := o; have b := p; have HB := q; have l := s; have x := A; clear o p q s A))
    go_loopg [43] 0 (fun m aa w' => aa = .int .i64 0 ∧ Aside0 (Kd.R k44 44 w' w.heap.size (fun _ => True) (.slice Ao a.length co) a) ∧ Aside0 (w'.heap[F]? = some (.cells #[.int .i64 0, .int .i64 0, .slice none 0 0, .int .i64 0, .bool false, .bool false] 24 (0, 0))) ∧ Aside0 (w'.heap[z]? = some (.cells #[.int .i64 c, .int .i64 d, .slice Ao a.length co, .int .i64 g, .bool j, .bool k, .int .i64 a1] 71 (0, 0))) ∧ Aside0 (Below w.heap.size w w'))
    case atStart => exact ⟨rfl, HO, b, l, HB⟩
    case round =>
     clear HO b l HB
     obtain ⟨rfl, HO, b, l, HB⟩ := hrel
     try go_wp2
     have o := Z (Kd.R_drew HO.out)
     have p := Z (blk_drew b.out)
     have q := Z (blk_drew l.out)
     have s := Z (below_drew1 HB.out)
     clear HO b l HB
     have HO := o
     have b := p
     have l := q
     have HB := s
     clear o p q s
     refine start_ (n := 11) (S := fun w' => w'.cell? ⟨z, 0, none⟩ = some (.int .i64 c) ∧ w'.cell? ⟨z, 1, none⟩ = some (.int .i64 d) ∧ w'.cell? ⟨z, 2, none⟩ = some (.slice Ao a.length co) ∧ w'.cell? ⟨z, 3, none⟩ = some (.int .i64 g) ∧ w'.cell? ⟨z, 4, none⟩ = some (.bool j) ∧ w'.cell? ⟨z, 5, none⟩ = some (.bool k) ∧ w'.cell? ⟨z, 6, none⟩ = some (.int .i64 a1)) (ds := []) (bv 11 0) (by kernel_rfl) rfl rfl ⟨(blk_cell l.out 0).trans rfl, (blk_cell l.out 1).trans rfl, (blk_cell l.out 2).trans rfl, (blk_cell l.out 3).trans rfl, (blk_cell l.out 4).trans rfl, (blk_cell l.out 5).trans rfl, (blk_cell l.out 6).trans rfl⟩ (fun hHeld => ?_)
     generalize World.drew _ = w5 at HO b l HB hHeld ⊢
     obtain ⟨t0, t1, t2, t3, t4, t5, p0, p1, p2, p3, p4, p5⟩ := cells6 b.out
     refine pure_ (i := 0) (N := some 51) (v := ?_) (a' := ?_) (bv 11 1) rfl rfl (by kernel_rfl) (fun _ _ _ h => h) (Or.inl ⟨by rfl, ?_⟩) ?_ ?_
     rotate_left
     ·intro w'
      go_simp
      with_reducible rfl
     rotate_left
     ·simp only [Act.put, sA, sB, sC, i64_w, i32_w]
      rfl
     refine pure_ (i := 1) (N := some 52) (v := ?_) (a' := ?_) (bv 11 3) rfl rfl (by kernel_rfl) (fun _ _ _ h => h) (Or.inl ⟨by rfl, ?_⟩) ?_ ?_
     rotate_left
     ·intro w'
      go_simp
      with_reducible rfl
     rotate_left
     ·simp only [Act.put, sA, sB, sC, i64_w, i32_w]
      rfl
     refine pure_ (i := 2) (N := some 53) (v := ?_) (a' := ?_) (bv 11 7) rfl rfl (by kernel_rfl) (fun _ _ _ h => h) (Or.inl ⟨by rfl, ?_⟩) ?_ ?_
     rotate_left
     ·intro w'
      go_simp
      with_reducible rfl
     rotate_left
     ·simp only [Act.put, sA, sB, sC, i64_w, i32_w]
      rfl
     refine pure_ (i := 4) (N := some 55) (v := ?_) (a' := ?_) (bv 11 23) rfl rfl (by kernel_rfl) (fun _ _ _ h => h) (Or.inl ⟨by rfl, ?_⟩) ?_ ?_
     rotate_left
     ·intro w'
      go_simp
      with_reducible rfl
     rotate_left
     ·simp only [Act.put, sA, sB, sC, i64_w, i32_w]
      rfl
     refine pure_ (i := 5) (N := some 56) (v := ?_) (a' := ?_) (bv 11 55) rfl rfl (by kernel_rfl) (fun _ _ _ h => h) (Or.inl ⟨by rfl, ?_⟩) ?_ ?_
     rotate_left
     ·intro w'
      go_simp
      with_reducible rfl
     rotate_left
     ·simp only [Act.put, sA, sB, sC, i64_w, i32_w]
      rfl
     refine pure_ (i := 6) (N := some 57) (v := ?_) (a' := ?_) (bv 11 119) rfl rfl (by kernel_rfl) (fun _ _ _ h => h) (Or.inl ⟨by rfl, ?_⟩) ?_ ?_
     rotate_left
     ·intro w'
      go_simp
      with_reducible rfl
     rotate_left
     ·simp only [Act.put, sA, sB, sC, i64_w, i32_w]
      rfl
     refine take_ (i := 3) (N := some 54) (v := ?_) (a' := ?_) (bv 11 127) rfl rfl (by kernel_rfl) (fun _ _ _ h => h) (Or.inl ⟨by rfl, ?_⟩) hHeld ?_ ?_
     rotate_left
     ·rintro w' ⟨s0, s1, s2, s3, s4, s5, s6⟩
      go_simp
      with_reducible rfl
     rotate_left
     ·simp only [Act.put, sA, sB, sC, i64_w, i32_w]
      rfl
     refine take_ (i := 7) (N := some 58) (v := ?_) (a' := ?_) (bv 11 255) rfl rfl (by kernel_rfl) (fun _ _ _ h => h) (Or.inl ⟨by rfl, ?_⟩) hHeld ?_ ?_
     rotate_left
     ·rintro w' ⟨s0, s1, s2, s3, s4, s5, s6⟩
      go_simp
      with_reducible rfl
     rotate_left
     ·simp only [Act.put, sA, sB, sC, i64_w, i32_w]
      rfl
     refine one_ (i := 8) (N := none) (bv 11 511) rfl rfl (by kernel_rfl) (by decide) (fun K hK => ?_)
     refine skip_ (w1 := ?_) (by rfl) rfl ?_ ?_
     rotate_left
     ·go_simp
      rfl
     refine hK.out _ _ ⟨cl_off hHeld.1 x.out.symm off2_, cl_off hHeld.2.1 x.out.symm off2_, cl_off hHeld.2.2.1 x.out.symm off2_, cl_off hHeld.2.2.2.1 x.out.symm off2_, cl_off hHeld.2.2.2.2.1 x.out.symm off2_, cl_off hHeld.2.2.2.2.2.1 x.out.symm off2_, cl_off hHeld.2.2.2.2.2.2 x.out.symm off2_⟩ (fun hHeld => ?_)
     clear hK K
     refine pure_ (i := 9) (N := some 7) (v := ?_) (a' := ?_) (bv 11 1023) rfl rfl (by kernel_rfl) (fun _ _ _ h => h) (Or.inl ⟨by rfl, ?_⟩) ?_ ?_
     rotate_left
     ·intro w'
      go_simp
      with_reducible rfl
     rotate_left
     ·simp only [Act.put, sA, sB, sC, i64_w, i32_w]
      rfl
     refine pure_ (i := 10) (N := some 8) (v := ?_) (a' := ?_) (bv 11 2047) rfl rfl (by kernel_rfl) (fun _ _ _ h => h) (Or.inl ⟨by rfl, ?_⟩) ?_ ?_
     rotate_left
     ·intro w'
      go_simp
      with_reducible rfl
     rotate_left
     ·simp only [Act.put, sA, sB, sC, i64_w, i32_w]
      rfl
     refine done_ (by kernel_rfl) ?_
     try go_wp2
     refine bodyPost_ret (results_ctt rfl _ _ F 24 #[.int .i64 c, .int .i64 d, .slice Ao a.length co, .int .i64 g, .bool j, .bool k] (0, 0) _ rfl (put6 b.out) Tryd.underlying24 rfl (by kernel_rfl)) rfl ?_
     exact ⟨_, .slice none 0 0, rfl, Kd.R_reok rfl (R_off HO.out b.out (by decide) off2_) (fun k_ e_ => Kd.R_base (R_off HO.out b.out (by decide) off2_) k_ e_), Kd.V_nil _ _ _ _ _, bl_⟩
  ·rw [if_neg hn] at h; cases h
 ·rw [if_neg hz] at h; cases h
end

/-! ### host_Reset: function 29 -/
section
/-- A cell, modified no more: whatever cell, or one that is not protected. -/
def resetC (all : Bool) (c : S44) : S44 := if (all || !c.f1.f0) = true then ⟨c.f0, ⟨c.f1.f0, c.f1.f1, c.f1.f2, false⟩, c.f2⟩ else c
def resetN (all : Bool) (l : List S44) (i : Nat) : List S44 := (l.take i).map (resetC all) ++ l.drop i
theorem resetN_len (all : Bool) (l : List S44) (i : Nat) : (resetN all l i).length = l.length := by simp only [resetN, List.length_append, List.length_map, List.length_take, List.length_drop]; omega
theorem resetN_rd (all : Bool) (l : List S44) (x : Int) (a : x < l.length) : rd_T44 (resetN all l x.toNat) x = rd_T44 l x := by
 simp only [rd_T44, resetN, List.getD_eq_getElem?_getD]
 rw [List.getElem?_append_right (by simp only [List.length_map, List.length_take]; omega), List.length_map, List.length_take, List.getElem?_drop]
 congr 2; omega
theorem resetN_step (all : Bool) (l : List S44) (i : Nat) (hi : i < l.length) : resetN all l (i + 1) = (resetN all l i).set i (resetC all l[i]) := by
 unfold resetN
 rw [List.take_succ_eq_append_getElem hi, List.map_append, List.set_append_right _ _ (by simp only [List.length_map, List.length_take]; omega), List.drop_eq_getElem_cons hi, List.length_map, List.length_take, show i - min i l.length = 0 by omega]
 simp only [List.map_cons, List.map_nil, List.append_assoc, sB, List.cons_append, List.nil_append]
theorem resetN_next (all : Bool) (l : List S44) (x : Int) (a : 0 ≤ x) (b : x < l.length) : resetN all l (x + 1).toNat = (resetN all l x.toNat).set x.toNat (resetC all (rd_T44 l x)) := by
 obtain ⟨i, rfl⟩ := Int.eq_ofNat_of_zero_le a
 have hi : i < l.length := by omega
 have e : rd_T44 l (i : Int) = l[i] := by simp [rd_T44, hi]
 rw [e, show ((i : Int) + 1).toNat = i + 1 by omega, show (i : Int).toNat = i by omega, resetN_step all l i hi]
theorem resetN_keep (all : Bool) (l : List S44) (x : Int) (a : 0 ≤ x) (b : x < l.length) (hk : resetC all (rd_T44 l x) = rd_T44 l x) : resetN all l (x + 1).toNat = resetN all l x.toNat := by
 rw [resetN_next all l x a b, hk, ← resetN_rd all l x b]
 obtain ⟨i, rfl⟩ := Int.eq_ofNat_of_zero_le a
 have hi : i < (resetN all l i).length := by rw [resetN_len]; omega
 simp [rd_T44, hi]
theorem resetN_end (all : Bool) (l : List S44) (i : Nat) (h : l.length ≤ i) : resetN all l i = l.map (resetC all) := by
 unfold resetN; rw [List.take_of_length_le h, List.drop_eq_nil_of_le h, List.append_nil]
theorem R_offo {α : Type} {d : Kd α} {e base : Nat} {ok : Nat → Prop} {v : Value} {xs : List α} {w w1 : World} {g : Nat} (h : Kd.R d e w base ok v xs) (hE : d.E = []) (hne : some g ≠ v.ownBlock) (hm : ∀ k, k ≠ g → w1.heap[k]? = w.heap[k]?) : Kd.R d e w1 base ok v xs :=
 Kd.R_mono (Kd.R_step (Kd.R_tight hE h) (fun k hk _ => hm k (fun e_ => hne (by rw [← e_]; exact hk)))) (fun k hk => h.1 k hk.symm)
theorem own_new {α : Type} {d : Kd α} {e base g : Nat} {ok : Nat → Prop} {v : Value} {xs : List α} {w : World} (h : Kd.R d e w base ok v xs) (hg : g = w.heap.size) : some g ≠ v.ownBlock := fun hk => by
 have := own_lt h.2.choose_spec.1 g hk.symm
 omega
/-- host.Reset: a copy, modified no more: all of it, or what is not protected. -/
def host_Reset.f (b : Int) (c : Int) (a : List (S44)) (d : Int) (e : Bool) (g : Bool) (a1 : Bool) : Option (Int × Int × (List (S44)) × Int × Bool × Bool) := if a.length ≤ 16383 then some (b, c, a.map (resetC a1), d, e, g) else none
set_option maxHeartbeats 8000000 in
set_option maxRecDepth 100000 in
theorem host_Reset.calls (s : Int) (u : Int) (W : Option Addr) (X : Nat) (d : List (S44)) (y : Int) (z : Bool) (A : Bool) (a1 : Bool) (r1 : Int) (r2 : Int) (r3 : List (S44)) (r4 : Int) (r5 : Bool) (r6 : Bool) (w : World) (ac : Kd.C k44 w W d.length d) (ab : d.length ≤ X) (h : host_Reset.f s u d y z A a1 = some (r1, r2, r3, r4, r5, r6)) :
  Calls Tryd.prog 29 #[.agg #[.int .i64 s, .int .i64 u, .slice W d.length X, .int .i64 y, .bool z, .bool A], .bool a1] w fun e w' => ∃ am : Value, e = .returned (.agg #[.int .i64 r1, .int .i64 r2, am, .int .i64 r4, .bool r5, .bool r6]) ∧ Kd.R k44 44 w' w.heap.size (fun _ => True) am r3 ∧ Below w.heap.size w w' := by
 unfold host_Reset.f at h
 by_cases hn : d.length ≤ 16383
 ·rw [if_pos hn] at h
  simp only [Option.some.injEq, Prod.mk.injEq] at h
  obtain ⟨rfl, rfl, rfl, rfl, rfl, rfl⟩ := h
  have HR := Z ac
  have HL := Z ab
  have HN := Z hn
  have HC := Z (show grid_Copy.f s u d y z A = some (s, u, d, y, z, A) by unfold grid_Copy.f slices_Clone_shutter_api_Cell_shutter_api_Cell.f; rw [if_pos hn]; rfl)
  have HB := Z (Below.refl w.heap.size w)
  have hu := Tryd.underlying24
  have aK := Tryd.underlying44
  clear ac ab hn
  go_enter Tryd.func29, Tryd.ntmps29
  go_wp2_with (first
   | ((with_reducible refine gate_dst (N := 2) rfl ?_); refine bx_ 2 24 #[.int .i64 s, .int .i64 u, .slice W d.length X, .int .i64 y, .bool z, .bool A] ?_; intro g1 hg w1 hbox hb; have i := Z (below_step bl_ hb); have k := Z hbox; have l := Z (le_new hg (below_size bl_) : w.heap.size ≤ g1); clear HB; have HB := i; have a := k; have aI := l; clear i k l hb hbox hg)
   | ((with_reducible refine gate_dst (N := 4) rfl ?_); refine bx_ 4 24 #[.int .i64 0, .int .i64 0, .slice none 0 0, .int .i64 0, .bool false, .bool false] ?_; intro g2 hg w2 hbox hb; have i := Z (kb a.out hb); have k := Z (below_step bl_ hb); have l := Z hbox; have n := Z (le_new hg (below_size bl_) : w.heap.size ≤ g2); have B := Z (nl a.out hg); clear a HB; have a := i; have HB := k; have g := l; have aJ := n; have NB := B; clear i k l n B hb hbox hg; have hnb := NB.out; have hnc := NB.out.symm; obtain ⟨z0, z1, z2, z3, z4, z5, y0, y1, y2, y3, y4, y5⟩ := cells6 a.out)
   | ((with_reducible refine gate_callee (f := 38) rfl ?_); refine goesL_ (some 8) rfl rfl Tryd.func38 (by kernel_rfl) rfl #[.agg #[.int .i64 s, .int .i64 u, .slice W d.length X, .int .i64 y, .bool z, .bool A]] rfl ag_ ?_; (with_reducible refine (grid_Copy.calls s u _ _ d y z A s u d y z A _ ?side1 ?side2 HC.out).mono ?_); (case side1 => exact Kd.C_below HR.out HB.out); (case side2 => exact HL.out); rintro e w3 ⟨v1, rfl, al, hb⟩; refine ⟨_, rfl, ?_⟩; have HO := Z (Kd.R_lower al (below_size bl_)); replace a := Z (kb a.out hb); replace g := Z (kb g.out hb); replace HB := Z (below_step bl_ hb); clear al hb; obtain ⟨x0, x1, x2, x3, x4, x5, q0, q1, q2, q3, q4, q5⟩ := cells6 a.out; obtain ⟨Ao, co, eo⟩ := Kd.R_slice HO.out; subst eo))
  go_loopg [12] d.length (fun m av w' => ∃ x : Int, av = .int .i64 x ∧ Aside0 (0 ≤ x) ∧ Aside0 (x + (m : Int) = d.length) ∧ Aside0 (Kd.R k44 44 w' w.heap.size (fun _ => True) (.slice Ao d.length co) (resetN a1 d x.toNat)) ∧ Aside0 (w'.heap[g1]? = some (.cells #[.int .i64 s, .int .i64 u, .slice Ao d.length co, .int .i64 y, .bool z, .bool A] 24 (0, 0))) ∧ Aside0 (w'.heap[g2]? = some (.cells #[.int .i64 0, .int .i64 0, .slice none 0 0, .int .i64 0, .bool false, .bool false] 24 (0, 0))) ∧ Aside0 (Below w.heap.size w w'))
  case atStart => exact ⟨0, by first | rfl | (simp; done), ⟨by omega⟩, ⟨by omega⟩, ⟨R_off HO.out a.out (by decide) off2_⟩, ⟨put6 a.out⟩, ⟨blk_off g.out hnc off2_⟩, ⟨bl_⟩⟩
  case round =>
   try clear x0 x1 x2 x3 x4 x5 q0 q1 q2 q3 q4 q5
   try clear z0 z1 z2 z3 z4 z5 y0 y1 y2 y3 y4 y5
   clear HO a g HB
   obtain ⟨x, rfl, H, XM, HO, a, g, HB⟩ := hrel
   have Y := H.out
   have hxm := XM.out
   obtain ⟨u0, u1, u2, u3, u4, u5, q0, q1, q2, q3, q4, q5⟩ := cells6 a.out
   by_cases c : x < (d.length : Int)
   ·have c0 : decide (x < (d.length : Int)) = true := decide_eq_true c
    have c1 : decide (0 ≤ x) = true := decide_eq_true Y
    cases gk with
    | zero => exact absurd c (by omega)
    | succ k1 =>
     have EN := Z (show x + 1 + ((k1 : Nat) : Int) = d.length by omega)
     have EW := Z (show wrap64 (x + 1) = x + 1 by have := HN.out; unfold wrap64; omega)
     have EX := Z c
     obtain ⟨ys, hys⟩ : ∃ ys, ys = resetN a1 d x.toNat := ⟨_, rfl⟩
     rw [← hys] at HO
     have YL := Z (show ys.length = d.length by rw [hys, resetN_len])
     have EY := Z hys
     have EC := Z (show rd_T44 ys x = rd_T44 d x by rw [hys]; exact resetN_rd a1 d x c)
     have hq : x < (d.length : Int) := c
     clear c hxm hys
     obtain ⟨go, co', eo', gb, gl, cl, HG⟩ := Kd.R_form HO.out (by have := YL.out; omega)
     (first | cases eo' | (injection eo' with ea_ en_ ec_; (first | subst ea_ | (injection ea_ with ea_; subst ea_)); subst ec_; clear en_))
     have GB := Z gb
     clear gb gl HG
     obtain ⟨ce, hcl, hM, hcc, hfr⟩ := Kd.R_elem HO.out z44 x Y hq
     obtain rfl := k44_openM hM
     obtain ⟨v, hv⟩ : ∃ v, v = ys.getD x.toNat z44 := ⟨_, rfl⟩
     rw [← hv] at hcc hM
     have EV := Z (show v = rd_T44 d x from hv.trans EC.out)
     obtain ⟨I, ⟨b, J, b3, b4⟩, b5⟩ := v
     have hx_0 : wr.cell? ⟨go, (x : Int).toNat * 6, none⟩ = some (.bool I) := hcc 0 _ rfl
     have hx_1 : wr.cell? ⟨go, (x : Int).toNat * 6 + 1, none⟩ = some (.bool b) := hcc 1 _ rfl
     have hx_2 : wr.cell? ⟨go, (x : Int).toNat * 6 + 2, none⟩ = some (.bool J) := hcc 2 _ rfl
     have hx_3 : wr.cell? ⟨go, (x : Int).toNat * 6 + 3, none⟩ = some (.int .i64 b3) := hcc 3 _ rfl
     have hx_4 : wr.cell? ⟨go, (x : Int).toNat * 6 + 4, none⟩ = some (.bool b4) := hcc 4 _ rfl
     have hx_5 : wr.cell? ⟨go, (x : Int).toNat * 6 + 5, none⟩ = some (.int .u8 b5) := hcc 5 _ rfl
     clear hcl hcc hfr hM hv
     replace Y := eq_true Y
     replace hq := eq_true hq
     cases a1 <;> cases b
     ·go_wp2_with (first | ((with_reducible refine gate_dst (N := 6) rfl ?_); refine bx_ 6 44 #[.bool false, .bool false, .bool false, .int .i64 0, .bool false, .int .u8 0] ?_; intro q hg w6 hbox hb; have i := Z (rb HO.out hb); have k := Z (kb a.out hb); have l := Z (kb g.out hb); have n := Z (below_step bl_ hb); have r := Z hbox; have B := Z (le_new hg (below_size bl_) : w.heap.size ≤ q); have E := Z (nl a.out hg); have F := Z (nl g.out hg); have G := Z (own_new HO.out hg); clear HO a g HB hb hbox hg; have HO := i; have a := k; have g := l; have HB := n; have o := r; have ak := B; have K := E; have L := F; have M := G; clear i k l n r B E F G; obtain ⟨k0, D, k2, k3, k4, k5, O, P, Q, S, T, U⟩ := cells6 o.out) | ((with_reducible refine gate_store (t := 44) (p := 6) rfl ?_); refine sx_ 44 6 ((((((w6.setCell ⟨q, 0, none⟩ (.bool I)).setCell ⟨q, 1, none⟩ (.bool false)).setCell ⟨q, 2, none⟩ (.bool J)).setCell ⟨q, 3, none⟩ (.int .i64 b3)).setCell ⟨q, 4, none⟩ (.bool b4)).setCell ⟨q, 5, none⟩ (.int .u8 b5)) ?_; intro w7 hw; replace HO : Aside0 (Kd.R k44 44 w7 w.heap.size (fun _ => True) (.slice (some ⟨go, 0, none⟩) d.length co) ys) := ⟨by rw [hw]; exact R_offo HO.out rfl M.out off2_⟩; replace a : Aside0 (w7.heap[g1]? = some (.cells #[.int .i64 s, .int .i64 u, .slice (some ⟨go, 0, none⟩) d.length co, .int .i64 y, .bool z, .bool A] 24 (0, 0))) := ⟨by rw [hw]; exact blk_off a.out K.out off2_⟩; replace g : Aside0 (w7.heap[g2]? = some (.cells #[.int .i64 0, .int .i64 0, .slice none 0 0, .int .i64 0, .bool false, .bool false] 24 (0, 0))) := ⟨by rw [hw]; exact blk_off g.out L.out off2_⟩; replace o : Aside0 (w7.heap[q]? = some (.cells #[.bool I, .bool false, .bool J, .int .i64 b3, .bool b4, .int .u8 b5] 44 (0, 0))) := ⟨by rw [hw]; exact put6 o.out⟩; replace HB : Aside0 (Below w.heap.size w w7) := ⟨by rw [hw]; exact bl_⟩; clear hw k0 D k2 k3 k4 k5 O P Q S T U; obtain ⟨k0, D, k2, k3, k4, k5, O, P, Q, S, T, U⟩ := cells6 o.out; obtain ⟨u0, u1, u2, u3, u4, u5, q0, q1, q2, q3, q4, q5⟩ := cells6 a.out; obtain ⟨ce, hcl, hM, hcc, hfr⟩ := Kd.R_elem HO.out z44 x H.out EX.out; rw [show ys.getD x.toNat z44 = _ from EC.out.trans EV.out.symm] at hM; obtain rfl := k44_openM hM; have hy_4 := hcc 4 _ rfl; (try simp only [show (k44).sz = 6 from rfl] at hy_4); have hz_4 := hfr 4; (try simp only [show (k44).sz = 6 from rfl] at hz_4); have HP := Kd.R_seg HO.out x H.out EX.out (seg := [.bool false]) (j := 4) hcl hcc (show 5 ≤ 6 from by decide) (x' := (⟨I, ⟨false, J, b3, false⟩, b5⟩ : S44)) (k44_mkM _ _ _ _) (fun _ hk => hk); clear hcl hcc hfr hM) | ((with_reducible refine gate_store (t := 4) (p := 29) rfl ?_); refine sx_ 4 29 (w7.setCell ⟨go, (x : Int).toNat * 6 + 4, none⟩ (.bool false)) ?_; intro V hw; have hg : w7.grownBy V (some go) := (by rw [hw]; exact HP.2); have hp_ : Kd.R k44 44 V w.heap.size (fun _ => True) (.slice (some ⟨go, 0, none⟩) d.length co) (ys.set x.toNat (⟨I, ⟨false, J, b3, false⟩, b5⟩ : S44)) := (by rw [hw]; exact HP.1); clear HP; have i := Z hp_; have k := Z (blk_grown a.out hg (Kd.R_ne HO.out a.out (by decide))); have l := Z (blk_grown g.out hg (Kd.R_ne HO.out g.out (by decide))); have n : Aside0 (Below w.heap.size w V) := ⟨by rw [hw]; exact below_set HB.out GB.out⟩; clear HO a g o HB hg hw hp_; have HO := i; have a := k; have g := l; have HB := n; clear i k l n))
      go_roundg k1
      case measure => omega
      case rel => exact ⟨x + 1, by first | (rw [EW.out]; done) | rw [EW.out], ⟨by have := H.out; omega⟩, EN, ⟨by rw [resetN_next false d x H.out EX.out, ← EY.out, ← EV.out]; exact HO.out⟩, a, g, HB⟩
     ·go_wp2_with (first | ((with_reducible refine gate_dst (N := 6) rfl ?_); refine bx_ 6 44 #[.bool false, .bool false, .bool false, .int .i64 0, .bool false, .int .u8 0] ?_; intro q hg w6 hbox hb; have i := Z (rb HO.out hb); have k := Z (kb a.out hb); have l := Z (kb g.out hb); have n := Z (below_step bl_ hb); have r := Z hbox; have B := Z (le_new hg (below_size bl_) : w.heap.size ≤ q); have E := Z (nl a.out hg); have F := Z (nl g.out hg); have G := Z (own_new HO.out hg); clear HO a g HB hb hbox hg; have HO := i; have a := k; have g := l; have HB := n; have o := r; have ak := B; have K := E; have L := F; have M := G; clear i k l n r B E F G; obtain ⟨k0, D, k2, k3, k4, k5, O, P, Q, S, T, U⟩ := cells6 o.out) | ((with_reducible refine gate_store (t := 44) (p := 6) rfl ?_); refine sx_ 44 6 ((((((w6.setCell ⟨q, 0, none⟩ (.bool I)).setCell ⟨q, 1, none⟩ (.bool true)).setCell ⟨q, 2, none⟩ (.bool J)).setCell ⟨q, 3, none⟩ (.int .i64 b3)).setCell ⟨q, 4, none⟩ (.bool b4)).setCell ⟨q, 5, none⟩ (.int .u8 b5)) ?_; intro w7 hw; replace HO : Aside0 (Kd.R k44 44 w7 w.heap.size (fun _ => True) (.slice (some ⟨go, 0, none⟩) d.length co) ys) := ⟨by rw [hw]; exact R_offo HO.out rfl M.out off2_⟩; replace a : Aside0 (w7.heap[g1]? = some (.cells #[.int .i64 s, .int .i64 u, .slice (some ⟨go, 0, none⟩) d.length co, .int .i64 y, .bool z, .bool A] 24 (0, 0))) := ⟨by rw [hw]; exact blk_off a.out K.out off2_⟩; replace g : Aside0 (w7.heap[g2]? = some (.cells #[.int .i64 0, .int .i64 0, .slice none 0 0, .int .i64 0, .bool false, .bool false] 24 (0, 0))) := ⟨by rw [hw]; exact blk_off g.out L.out off2_⟩; replace o : Aside0 (w7.heap[q]? = some (.cells #[.bool I, .bool true, .bool J, .int .i64 b3, .bool b4, .int .u8 b5] 44 (0, 0))) := ⟨by rw [hw]; exact put6 o.out⟩; replace HB : Aside0 (Below w.heap.size w w7) := ⟨by rw [hw]; exact bl_⟩; clear hw k0 D k2 k3 k4 k5 O P Q S T U; obtain ⟨k0, D, k2, k3, k4, k5, O, P, Q, S, T, U⟩ := cells6 o.out; obtain ⟨u0, u1, u2, u3, u4, u5, q0, q1, q2, q3, q4, q5⟩ := cells6 a.out))
      go_roundg k1
      case measure => omega
      case rel => exact ⟨x + 1, by first | (rw [EW.out]; done) | rw [EW.out], ⟨by have := H.out; omega⟩, EN, ⟨by rw [resetN_keep false d x H.out EX.out (by rw [← EV.out]; rfl), ← EY.out]; exact HO.out⟩, a, g, HB⟩
     ·go_wp2_with (first | ((with_reducible refine gate_dst (N := 6) rfl ?_); refine bx_ 6 44 #[.bool false, .bool false, .bool false, .int .i64 0, .bool false, .int .u8 0] ?_; intro q hg w6 hbox hb; have i := Z (rb HO.out hb); have k := Z (kb a.out hb); have l := Z (kb g.out hb); have n := Z (below_step bl_ hb); have r := Z hbox; have B := Z (le_new hg (below_size bl_) : w.heap.size ≤ q); have E := Z (nl a.out hg); have F := Z (nl g.out hg); have G := Z (own_new HO.out hg); clear HO a g HB hb hbox hg; have HO := i; have a := k; have g := l; have HB := n; have o := r; have ak := B; have K := E; have L := F; have M := G; clear i k l n r B E F G; obtain ⟨k0, D, k2, k3, k4, k5, O, P, Q, S, T, U⟩ := cells6 o.out) | ((with_reducible refine gate_store (t := 44) (p := 6) rfl ?_); refine sx_ 44 6 ((((((w6.setCell ⟨q, 0, none⟩ (.bool I)).setCell ⟨q, 1, none⟩ (.bool false)).setCell ⟨q, 2, none⟩ (.bool J)).setCell ⟨q, 3, none⟩ (.int .i64 b3)).setCell ⟨q, 4, none⟩ (.bool b4)).setCell ⟨q, 5, none⟩ (.int .u8 b5)) ?_; intro w7 hw; replace HO : Aside0 (Kd.R k44 44 w7 w.heap.size (fun _ => True) (.slice (some ⟨go, 0, none⟩) d.length co) ys) := ⟨by rw [hw]; exact R_offo HO.out rfl M.out off2_⟩; replace a : Aside0 (w7.heap[g1]? = some (.cells #[.int .i64 s, .int .i64 u, .slice (some ⟨go, 0, none⟩) d.length co, .int .i64 y, .bool z, .bool A] 24 (0, 0))) := ⟨by rw [hw]; exact blk_off a.out K.out off2_⟩; replace g : Aside0 (w7.heap[g2]? = some (.cells #[.int .i64 0, .int .i64 0, .slice none 0 0, .int .i64 0, .bool false, .bool false] 24 (0, 0))) := ⟨by rw [hw]; exact blk_off g.out L.out off2_⟩; replace o : Aside0 (w7.heap[q]? = some (.cells #[.bool I, .bool false, .bool J, .int .i64 b3, .bool b4, .int .u8 b5] 44 (0, 0))) := ⟨by rw [hw]; exact put6 o.out⟩; replace HB : Aside0 (Below w.heap.size w w7) := ⟨by rw [hw]; exact bl_⟩; clear hw k0 D k2 k3 k4 k5 O P Q S T U; obtain ⟨k0, D, k2, k3, k4, k5, O, P, Q, S, T, U⟩ := cells6 o.out; obtain ⟨u0, u1, u2, u3, u4, u5, q0, q1, q2, q3, q4, q5⟩ := cells6 a.out; obtain ⟨ce, hcl, hM, hcc, hfr⟩ := Kd.R_elem HO.out z44 x H.out EX.out; rw [show ys.getD x.toNat z44 = _ from EC.out.trans EV.out.symm] at hM; obtain rfl := k44_openM hM; have hy_4 := hcc 4 _ rfl; (try simp only [show (k44).sz = 6 from rfl] at hy_4); have hz_4 := hfr 4; (try simp only [show (k44).sz = 6 from rfl] at hz_4); have HP := Kd.R_seg HO.out x H.out EX.out (seg := [.bool false]) (j := 4) hcl hcc (show 5 ≤ 6 from by decide) (x' := (⟨I, ⟨false, J, b3, false⟩, b5⟩ : S44)) (k44_mkM _ _ _ _) (fun _ hk => hk); clear hcl hcc hfr hM) | ((with_reducible refine gate_store (t := 4) (p := 29) rfl ?_); refine sx_ 4 29 (w7.setCell ⟨go, (x : Int).toNat * 6 + 4, none⟩ (.bool false)) ?_; intro V hw; have hg : w7.grownBy V (some go) := (by rw [hw]; exact HP.2); have hp_ : Kd.R k44 44 V w.heap.size (fun _ => True) (.slice (some ⟨go, 0, none⟩) d.length co) (ys.set x.toNat (⟨I, ⟨false, J, b3, false⟩, b5⟩ : S44)) := (by rw [hw]; exact HP.1); clear HP; have i := Z hp_; have k := Z (blk_grown a.out hg (Kd.R_ne HO.out a.out (by decide))); have l := Z (blk_grown g.out hg (Kd.R_ne HO.out g.out (by decide))); have n : Aside0 (Below w.heap.size w V) := ⟨by rw [hw]; exact below_set HB.out GB.out⟩; clear HO a g o HB hg hw hp_; have HO := i; have a := k; have g := l; have HB := n; clear i k l n))
      go_roundg k1
      case measure => omega
      case rel => exact ⟨x + 1, by first | (rw [EW.out]; done) | rw [EW.out], ⟨by have := H.out; omega⟩, EN, ⟨by rw [resetN_next true d x H.out EX.out, ← EY.out, ← EV.out]; exact HO.out⟩, a, g, HB⟩
     ·go_wp2_with (first | ((with_reducible refine gate_dst (N := 6) rfl ?_); refine bx_ 6 44 #[.bool false, .bool false, .bool false, .int .i64 0, .bool false, .int .u8 0] ?_; intro q hg w6 hbox hb; have i := Z (rb HO.out hb); have k := Z (kb a.out hb); have l := Z (kb g.out hb); have n := Z (below_step bl_ hb); have r := Z hbox; have B := Z (le_new hg (below_size bl_) : w.heap.size ≤ q); have E := Z (nl a.out hg); have F := Z (nl g.out hg); have G := Z (own_new HO.out hg); clear HO a g HB hb hbox hg; have HO := i; have a := k; have g := l; have HB := n; have o := r; have ak := B; have K := E; have L := F; have M := G; clear i k l n r B E F G; obtain ⟨k0, D, k2, k3, k4, k5, O, P, Q, S, T, U⟩ := cells6 o.out) | ((with_reducible refine gate_store (t := 44) (p := 6) rfl ?_); refine sx_ 44 6 ((((((w6.setCell ⟨q, 0, none⟩ (.bool I)).setCell ⟨q, 1, none⟩ (.bool true)).setCell ⟨q, 2, none⟩ (.bool J)).setCell ⟨q, 3, none⟩ (.int .i64 b3)).setCell ⟨q, 4, none⟩ (.bool b4)).setCell ⟨q, 5, none⟩ (.int .u8 b5)) ?_; intro w7 hw; replace HO : Aside0 (Kd.R k44 44 w7 w.heap.size (fun _ => True) (.slice (some ⟨go, 0, none⟩) d.length co) ys) := ⟨by rw [hw]; exact R_offo HO.out rfl M.out off2_⟩; replace a : Aside0 (w7.heap[g1]? = some (.cells #[.int .i64 s, .int .i64 u, .slice (some ⟨go, 0, none⟩) d.length co, .int .i64 y, .bool z, .bool A] 24 (0, 0))) := ⟨by rw [hw]; exact blk_off a.out K.out off2_⟩; replace g : Aside0 (w7.heap[g2]? = some (.cells #[.int .i64 0, .int .i64 0, .slice none 0 0, .int .i64 0, .bool false, .bool false] 24 (0, 0))) := ⟨by rw [hw]; exact blk_off g.out L.out off2_⟩; replace o : Aside0 (w7.heap[q]? = some (.cells #[.bool I, .bool true, .bool J, .int .i64 b3, .bool b4, .int .u8 b5] 44 (0, 0))) := ⟨by rw [hw]; exact put6 o.out⟩; replace HB : Aside0 (Below w.heap.size w w7) := ⟨by rw [hw]; exact bl_⟩; clear hw k0 D k2 k3 k4 k5 O P Q S T U; obtain ⟨k0, D, k2, k3, k4, k5, O, P, Q, S, T, U⟩ := cells6 o.out; obtain ⟨u0, u1, u2, u3, u4, u5, q0, q1, q2, q3, q4, q5⟩ := cells6 a.out; obtain ⟨ce, hcl, hM, hcc, hfr⟩ := Kd.R_elem HO.out z44 x H.out EX.out; rw [show ys.getD x.toNat z44 = _ from EC.out.trans EV.out.symm] at hM; obtain rfl := k44_openM hM; have hy_4 := hcc 4 _ rfl; (try simp only [show (k44).sz = 6 from rfl] at hy_4); have hz_4 := hfr 4; (try simp only [show (k44).sz = 6 from rfl] at hz_4); have HP := Kd.R_seg HO.out x H.out EX.out (seg := [.bool false]) (j := 4) hcl hcc (show 5 ≤ 6 from by decide) (x' := (⟨I, ⟨true, J, b3, false⟩, b5⟩ : S44)) (k44_mkM _ _ _ _) (fun _ hk => hk); clear hcl hcc hfr hM) | ((with_reducible refine gate_store (t := 4) (p := 29) rfl ?_); refine sx_ 4 29 (w7.setCell ⟨go, (x : Int).toNat * 6 + 4, none⟩ (.bool false)) ?_; intro V hw; have hg : w7.grownBy V (some go) := (by rw [hw]; exact HP.2); have hp_ : Kd.R k44 44 V w.heap.size (fun _ => True) (.slice (some ⟨go, 0, none⟩) d.length co) (ys.set x.toNat (⟨I, ⟨true, J, b3, false⟩, b5⟩ : S44)) := (by rw [hw]; exact HP.1); clear HP; have i := Z hp_; have k := Z (blk_grown a.out hg (Kd.R_ne HO.out a.out (by decide))); have l := Z (blk_grown g.out hg (Kd.R_ne HO.out g.out (by decide))); have n : Aside0 (Below w.heap.size w V) := ⟨by rw [hw]; exact below_set HB.out GB.out⟩; clear HO a g o HB hg hw hp_; have HO := i; have a := k; have g := l; have HB := n; clear i k l n))
      go_roundg k1
      case measure => omega
      case rel => exact ⟨x + 1, by first | (rw [EW.out]; done) | rw [EW.out], ⟨by have := H.out; omega⟩, EN, ⟨by rw [resetN_next true d x H.out EX.out, ← EY.out, ← EV.out]; exact HO.out⟩, a, g, HB⟩
   ·have c0 : decide (x < (d.length : Int)) = false := decide_eq_false c
    have EX := Z (show d.length ≤ x.toNat by omega)
    clear c hxm Y
    obtain ⟨s0, s1, s2, s3, s4, s5, p0, p1, p2, p3, p4, p5⟩ := cells6 g.out
    go_wp2
    refine bodyPost_ret (results_cell_row rfl _ _ g2 24 #[.int .i64 s, .int .i64 u, .slice Ao d.length co, .int .i64 y, .bool z, .bool A] (0, 0) _ rfl (put6 g.out) Tryd.underlying24 rfl (by kernel_rfl)) rfl ?_
    exact ⟨_, rfl, by rw [← resetN_end a1 d _ EX.out]; exact R_off HO.out g.out (by decide) off2_, bl_⟩
 ·rw [if_neg hn] at h; cases h
end

/-! ### grid_Size: function 37 -/
def grid_Size.f (b : Int) (c : Int) (a : List (S44)) (d : Int) (e : Bool) (g : Bool) : Option (Int) := some (a.length : Int)
set_option maxHeartbeats 8000000 in
set_option maxRecDepth 100000 in
theorem grid_Size.calls (c : Int) (d : Int) (b : Option Addr) (k : Nat) (a : List (S44)) (g : Int) (i : Bool) (j : Bool) (r : Int) (w : World) (n : Kd.C k44 w b a.length a) (m : a.length ≤ k) (h : grid_Size.f c d a g i j = some r) :
  Calls Tryd.prog 37 #[.agg #[.int .i64 c, .int .i64 d, .slice b a.length k, .int .i64 g, .bool i, .bool j]] w fun e w' => e = .returned (.int .i64 r) ∧ Below w.heap.size w w' := by
 have P := Tryd.underlying24
 have O := Z n
 have M := Z m
 clear n m
 have HB := Z (Below.refl w.heap.size w)
 have H : (some (a.length : Int)) = some r := h
 clear h
 obtain rfl := Option.some.inj H
 go_enter Tryd.func37, Tryd.ntmps37
 go_wp2_with (first | ((with_reducible refine gate_dst (N := 1) rfl ?_); refine bx_ 1 24 #[.int .i64 c, .int .i64 d, .slice b a.length k, .int .i64 g, .bool i, .bool j] ?_; intro l hg w2 hbox hb; have o := Z (hbox); have L := Z (ln_ hg : w.heap.size ≤ l); have K := Z (ln_ hg : w.heap.size ≤ l); replace HB := Z (below_step bl_ hb); clear hb hbox hg; obtain ⟨v, x, y, z, A, B, D, E, F, G, I, J⟩ := cells6 o.out))
 go_ret
 exact ⟨er_, bl_⟩

/-! ### stream_known: function 74 -/
def stream_known.j0 : Nat → Int → Bool → Option (Bool)
 | 0, _, _ => none
 | k + 1, a, b => if b = true then (some true) else (if a = 111 then (some true) else (if a = 242 then (some true) else (if a = 246 then (some true) else (some false))))
def stream_known.f (k : Nat) (a0 : Int) : Option (Bool) := if a0 = 241 then (stream_known.j0 k a0 (a0 == 241)) else (stream_known.j0 k a0 (a0 == 245))
theorem stream_known.mono_l : ∀ k, (∀ b c, LeO (stream_known.j0 k b c) (stream_known.j0 (k + 1) b c))
 | 0 => fun _ _ r h => by simp [stream_known.j0] at h
 | k + 1 => by
  have a := stream_known.mono_l k
  ·intro b c
   unfold stream_known.j0
   repeat' first
   | (with_reducible exact a _ _)
   | (with_reducible exact LeO.refl _)
   | (with_reducible exact LeO.none _)
   | (with_reducible refine LeO.ite ?_ ?_)
   | (with_reducible refine LeO.bind ?_ (fun _ => ?_))
   | exact a _ _
   | exact LeO.none _
   | refine LeO.ite ?_ ?_
   | refine LeO.bind ?_ (fun _ => ?_)
theorem stream_known.mono : ∀ a0 k, LeO (stream_known.f k a0) (stream_known.f (k + 1) a0) := by
 intro a0 k
 have a := stream_known.mono_l k
 unfold stream_known.f
 repeat' first
   | (with_reducible exact a _ _)
   | (with_reducible exact LeO.refl _)
   | (with_reducible exact LeO.none _)
   | (with_reducible refine LeO.ite ?_ ?_)
   | (with_reducible refine LeO.bind ?_ (fun _ => ?_))
   | exact a _ _
   | exact LeO.none _
   | refine LeO.ite ?_ ?_
   | refine LeO.bind ?_ (fun _ => ?_)
set_option maxHeartbeats 8000000 in
set_option maxRecDepth 100000 in
theorem stream_known.calls (k : Nat) (a0 : Int) (r : Bool) (w : World) (h : stream_known.f k a0 = some r) :
  Calls Tryd.prog 74 #[.int .i64 a0] w fun e w' => e = .returned (.bool r) ∧ Drawn0 w w' := by
 have H : (if a0 = 241 then (stream_known.j0 k a0 (a0 == 241)) else (stream_known.j0 k a0 (a0 == 245))) = some r := h
 clear h
 have c := Z H
 clear H
 go_enter Tryd.func74, Tryd.ntmps74
 go_upto_if 4 with (fail)
 go_cut [4] (fun o wc => ∃ (kq : Nat) (b : Bool), o = .bool b ∧ Aside0 (stream_known.j0 kq a0 b = some r) ∧ Aside0 (kq ≤ k) ∧ Drawn0 w wc)
 case first =>
  have H := c.out
  clear c
  by_cases c3 : a0 = 241
  ·rw [if_pos c3] at H
   have a : (a0 == 241) = true := beq_iff_eq.mpr c3
   have d : (a0 != 241) = false := bne_eq_false_iff_eq.mpr c3
   clear c3
   (first | rw [a] | (simp only [i64_w, i32_w]; rw [a]) | skip)
   have H' := Z H
   clear H
   go_wp2
   go_meet
   case rel => exact ⟨_, ((a0 == 241)), (dn_), H', ⟨by first | omega | exact Nat.le_refl _⟩, dr_⟩
  ·rw [if_neg c3] at H
   have a : (a0 == 241) = false := beq_eq_false_iff_ne.mpr c3
   have d : (a0 != 241) = true := bne_iff_ne.mpr c3
   (first | rw [a] | (simp only [i64_w, i32_w]; rw [a]) | skip)
   have H' := Z H
   clear H
   go_wp2
   go_meet
   case rel => exact ⟨_, ((a0 == 245)), (dn_), H', ⟨by first | omega | exact Nat.le_refl _⟩, dr_⟩
 case rest =>
  clear c
  try clear p2
  try clear c3
  try clear a
  try clear d
  obtain ⟨kq, b, rfl, HA, p, ⟨s, rfl⟩⟩ := hcut
  cases kq with
  | zero => exact absurd HA.out (by simp [stream_known.j0])
  | succ q =>
   have H := HA.out
   clear HA
   simp only [stream_known.j0] at H
   by_cases c4 : b = true
   ·subst c4
    have H1 : (some true) = some r := by rw [if_pos rfl] at H; exact H
    clear H
    have H := H1
    clear H1
    obtain rfl := Option.some.inj H
    go_wp2
    go_ret
    exact ⟨dn_, dr_⟩
   ·replace c4 := Bool.eq_false_iff.mpr c4
    subst c4
    have H1 : (if a0 = 111 then (some true) else (if a0 = 242 then (some true) else (if a0 = 246 then (some true) else (some false)))) = some r := by rw [if_neg (show ¬ (false = true) by decide)] at H; exact H
    clear H
    have H := H1
    clear H1
    by_cases c5 : a0 = 111
    ·rw [if_pos c5] at H
     have g : (a0 == 111) = true := beq_iff_eq.mpr c5
     have i : (a0 != 111) = false := bne_eq_false_iff_eq.mpr c5
     clear c5
     obtain rfl := Option.some.inj H
     go_wp2
     go_ret
     exact ⟨dn_, dr_⟩
    ·rw [if_neg c5] at H
     have g : (a0 == 111) = false := beq_eq_false_iff_ne.mpr c5
     have i : (a0 != 111) = true := bne_iff_ne.mpr c5
     by_cases c6 : a0 = 242
     ·rw [if_pos c6] at H
      have j : (a0 == 242) = true := beq_iff_eq.mpr c6
      have l : (a0 != 242) = false := bne_eq_false_iff_eq.mpr c6
      clear c6
      obtain rfl := Option.some.inj H
      go_wp2
      go_ret
      exact ⟨dn_, dr_⟩
     ·rw [if_neg c6] at H
      have j : (a0 == 242) = false := beq_eq_false_iff_ne.mpr c6
      have l : (a0 != 242) = true := bne_iff_ne.mpr c6
      by_cases c7 : a0 = 246
      ·rw [if_pos c7] at H
       have m : (a0 == 246) = true := beq_iff_eq.mpr c7
       have n : (a0 != 246) = false := bne_eq_false_iff_eq.mpr c7
       clear c7
       obtain rfl := Option.some.inj H
       go_wp2
       go_ret
       exact ⟨dn_, dr_⟩
      ·rw [if_neg c7] at H
       have m : (a0 == 246) = false := beq_eq_false_iff_ne.mpr c7
       have n : (a0 != 246) = true := bne_iff_ne.mpr c7
       obtain rfl := Option.some.inj H
       go_wp2
       go_ret
       exact ⟨dn_, dr_⟩

/-! ### stream_Writes: function 75 -/
def stream_Writes.f (a0 : Int) : Option (Bool) := if a0 = 241 then (some true) else (some (a0 == 245))
set_option maxHeartbeats 8000000 in
set_option maxRecDepth 100000 in
theorem stream_Writes.calls (a0 : Int) (r : Bool) (w : World) (h : stream_Writes.f a0 = some r) :
  Calls Tryd.prog 75 #[.int .i64 a0] w fun e w' => e = .returned (.bool r) ∧ Drawn0 w w' := by
 have H : (if a0 = 241 then (some true) else (some (a0 == 245))) = some r := h
 clear h
 by_cases c2 : a0 = 241
 ·rw [if_pos c2] at H
  have a : (a0 == 241) = true := beq_iff_eq.mpr c2
  have b : (a0 != 241) = false := bne_eq_false_iff_eq.mpr c2
  clear c2
  obtain rfl := Option.some.inj H
  go_enter Tryd.func75, Tryd.ntmps75
  go_wp2
  go_ret
  exact ⟨dn_, dr_⟩
 ·rw [if_neg c2] at H
  have a : (a0 == 241) = false := beq_eq_false_iff_ne.mpr c2
  have b : (a0 != 241) = true := bne_iff_ne.mpr c2
  obtain rfl := Option.some.inj H
  go_enter Tryd.func75, Tryd.ntmps75
  go_wp2
  go_ret
  exact ⟨dn_, dr_⟩

/-! ### order_has: function 59 -/
def order_has.f (a0 : Int) : Option (Bool × Bool × Bool × Bool) := if a0 = 1 then (some (true, false, false, false)) else (if a0 = 2 then (some (false, true, false, false)) else (if a0 = 6 then (some (false, false, true, true)) else (if a0 = 3 then (some (false, false, true, false)) else (if a0 = 7 then (some (false, false, true, false)) else (some (false, false, false, false))))))
set_option maxHeartbeats 8000000 in
set_option maxRecDepth 100000 in
theorem order_has.calls (a0 : Int) (n : Bool) (o : Bool) (p : Bool) (q : Bool) (w : World) (h : order_has.f a0 = some (n, o, p, q)) :
  Calls Tryd.prog 59 #[.int .i64 a0] w fun e w' => e = .returned (.tuple #[.bool n, .bool o, .bool p, .bool q]) ∧ Drawn0 w w' := by
 have H : (if a0 = 1 then (some (true, false, false, false)) else (if a0 = 2 then (some (false, true, false, false)) else (if a0 = 6 then (some (false, false, true, true)) else (if a0 = 3 then (some (false, false, true, false)) else (if a0 = 7 then (some (false, false, true, false)) else (some (false, false, false, false))))))) = some (n, o, p, q) := h
 clear h
 by_cases c2 : a0 = 1
 ·rw [if_pos c2] at H
  have a : (a0 == 1) = true := beq_iff_eq.mpr c2
  have b : (a0 != 1) = false := bne_eq_false_iff_eq.mpr c2
  clear c2
  simp only [Option.some.injEq, Prod.mk.injEq] at H
  obtain ⟨rfl, rfl, rfl, rfl⟩ := H
  go_enter Tryd.func59, Tryd.ntmps59
  go_wp2
  refine bodyPost_ret (results_list (rs := [.tmp 2, .tmp 3, .tmp 4, .tmp 5]) rfl (by simp) (.tmp (.tmp (.tmp (.tmp .nil))))) rfl ?_
  exact ⟨dn_, dr_⟩
 ·rw [if_neg c2] at H
  have a : (a0 == 1) = false := beq_eq_false_iff_ne.mpr c2
  have b : (a0 != 1) = true := bne_iff_ne.mpr c2
  by_cases c3 : a0 = 2
  ·rw [if_pos c3] at H
   have c : (a0 == 2) = true := beq_iff_eq.mpr c3
   have d : (a0 != 2) = false := bne_eq_false_iff_eq.mpr c3
   clear c3
   simp only [Option.some.injEq, Prod.mk.injEq] at H
   obtain ⟨rfl, rfl, rfl, rfl⟩ := H
   go_enter Tryd.func59, Tryd.ntmps59
   go_wp2
   refine bodyPost_ret (results_list (rs := [.tmp 2, .tmp 3, .tmp 4, .tmp 5]) rfl (by simp) (.tmp (.tmp (.tmp (.tmp .nil))))) rfl ?_
   exact ⟨dn_, dr_⟩
  ·rw [if_neg c3] at H
   have c : (a0 == 2) = false := beq_eq_false_iff_ne.mpr c3
   have d : (a0 != 2) = true := bne_iff_ne.mpr c3
   by_cases c4 : a0 = 6
   ·rw [if_pos c4] at H
    have g : (a0 == 6) = true := beq_iff_eq.mpr c4
    have i : (a0 != 6) = false := bne_eq_false_iff_eq.mpr c4
    clear c4
    simp only [Option.some.injEq, Prod.mk.injEq] at H
    obtain ⟨rfl, rfl, rfl, rfl⟩ := H
    go_enter Tryd.func59, Tryd.ntmps59
    go_wp2
    refine bodyPost_ret (results_list (rs := [.tmp 2, .tmp 3, .tmp 4, .tmp 5]) rfl (by simp) (.tmp (.tmp (.tmp (.tmp .nil))))) rfl ?_
    exact ⟨dn_, dr_⟩
   ·rw [if_neg c4] at H
    have g : (a0 == 6) = false := beq_eq_false_iff_ne.mpr c4
    have i : (a0 != 6) = true := bne_iff_ne.mpr c4
    by_cases c5 : a0 = 3
    ·rw [if_pos c5] at H
     have j : (a0 == 3) = true := beq_iff_eq.mpr c5
     have k : (a0 != 3) = false := bne_eq_false_iff_eq.mpr c5
     clear c5
     simp only [Option.some.injEq, Prod.mk.injEq] at H
     obtain ⟨rfl, rfl, rfl, rfl⟩ := H
     go_enter Tryd.func59, Tryd.ntmps59
     go_wp2
     refine bodyPost_ret (results_list (rs := [.tmp 2, .tmp 3, .tmp 4, .tmp 5]) rfl (by simp) (.tmp (.tmp (.tmp (.tmp .nil))))) rfl ?_
     exact ⟨dn_, dr_⟩
    ·rw [if_neg c5] at H
     have j : (a0 == 3) = false := beq_eq_false_iff_ne.mpr c5
     have k : (a0 != 3) = true := bne_iff_ne.mpr c5
     by_cases c6 : a0 = 7
     ·rw [if_pos c6] at H
      have l : (a0 == 7) = true := beq_iff_eq.mpr c6
      have m : (a0 != 7) = false := bne_eq_false_iff_eq.mpr c6
      clear c6
      simp only [Option.some.injEq, Prod.mk.injEq] at H
      obtain ⟨rfl, rfl, rfl, rfl⟩ := H
      go_enter Tryd.func59, Tryd.ntmps59
      go_wp2
      refine bodyPost_ret (results_list (rs := [.tmp 2, .tmp 3, .tmp 4, .tmp 5]) rfl (by simp) (.tmp (.tmp (.tmp (.tmp .nil))))) rfl ?_
      exact ⟨dn_, dr_⟩
     ·rw [if_neg c6] at H
      have l : (a0 == 7) = false := beq_eq_false_iff_ne.mpr c6
      have m : (a0 != 7) = true := bne_iff_ne.mpr c6
      simp only [Option.some.injEq, Prod.mk.injEq] at H
      obtain ⟨rfl, rfl, rfl, rfl⟩ := H
      go_enter Tryd.func59, Tryd.ntmps59
      go_wp2
      refine bodyPost_ret (results_list (rs := [.tmp 2, .tmp 3, .tmp 4, .tmp 5]) rfl (by simp) (.tmp (.tmp (.tmp (.tmp .nil))))) rfl ?_
      exact ⟨dn_, dr_⟩

/-! ### six_digit: function 102 -/
def six_digit.f (a0 : Int) : Option (Int) := if a0 ≥ 97 then (some (wrap64 ((wrap64 ((wrap64 (a0)) - 39)) - 48))) else (some (wrap64 ((wrap64 (a0)) - 48)))
set_option maxHeartbeats 8000000 in
set_option maxRecDepth 100000 in
theorem six_digit.calls (a0 : Int) (r : Int) (w : World) (h : six_digit.f a0 = some r) :
  Calls Tryd.prog 102 #[.int .u8 a0] w fun e w' => e = .returned (.int .i64 r) ∧ Drawn0 w w' := by
 have H : (if a0 ≥ 97 then (some (wrap64 ((wrap64 ((wrap64 (a0)) - 39)) - 48))) else (some (wrap64 ((wrap64 (a0)) - 48)))) = some r := h
 clear h
 by_cases c2 : a0 ≥ 97
 ·rw [if_pos c2] at H
  have a : decide (97 ≤ a0) = true := decide_eq_true c2
  clear c2
  obtain rfl := Option.some.inj H
  go_enter Tryd.func102, Tryd.ntmps102
  go_wp2
  go_ret
  exact ⟨dn_, dr_⟩
 ·rw [if_neg c2] at H
  have a : decide (97 ≤ a0) = false := decide_eq_false c2
  clear c2
  obtain rfl := Option.some.inj H
  go_enter Tryd.func102, Tryd.ntmps102
  go_wp2
  go_ret
  exact ⟨dn_, dr_⟩

/-! ### six_at: function 95 -/
def six_at.f (a0 : Int) : Option (Int) := if 0 ≤ (wrap64 (2 * a0)) then (if (wrap64 (2 * a0)) < 128 then ((six_digit.f (bt (⟨#[52, 48, 99, 49, 99, 50, 99, 51, 99, 52, 99, 53, 99, 54, 99, 55, 99, 56, 99, 57, 52, 97, 52, 98, 52, 99, 52, 100, 52, 101, 52, 102, 53, 48, 100, 49, 100, 50, 100, 51, 100, 52, 100, 53, 100, 54, 100, 55, 100, 56, 100, 57, 53, 97, 53, 98, 53, 99, 53, 100, 53, 101, 53, 102, 54, 48, 54, 49, 101, 50, 101, 51, 101, 52, 101, 53, 101, 54, 101, 55, 101, 56, 101, 57, 54, 97, 54, 98, 54, 99, 54, 100, 54, 101, 54, 102, 102, 48, 102, 49, 102, 50, 102, 51, 102, 52, 102, 53, 102, 54, 102, 55, 102, 56, 102, 57, 55, 97, 55, 98, 55, 99, 55, 100, 55, 101, 55, 102]⟩ : ByteArray) (wrap64 (2 * a0)))).bind fun a => (if 0 ≤ (wrap64 ((wrap64 (2 * a0)) + 1)) then (if (wrap64 ((wrap64 (2 * a0)) + 1)) < 128 then ((six_digit.f (bt (⟨#[52, 48, 99, 49, 99, 50, 99, 51, 99, 52, 99, 53, 99, 54, 99, 55, 99, 56, 99, 57, 52, 97, 52, 98, 52, 99, 52, 100, 52, 101, 52, 102, 53, 48, 100, 49, 100, 50, 100, 51, 100, 52, 100, 53, 100, 54, 100, 55, 100, 56, 100, 57, 53, 97, 53, 98, 53, 99, 53, 100, 53, 101, 53, 102, 54, 48, 54, 49, 101, 50, 101, 51, 101, 52, 101, 53, 101, 54, 101, 55, 101, 56, 101, 57, 54, 97, 54, 98, 54, 99, 54, 100, 54, 101, 54, 102, 102, 48, 102, 49, 102, 50, 102, 51, 102, 52, 102, 53, 102, 54, 102, 55, 102, 56, 102, 57, 55, 97, 55, 98, 55, 99, 55, 100, 55, 101, 55, 102]⟩ : ByteArray) (wrap64 ((wrap64 (2 * a0)) + 1)))).bind fun b => (some ((Go.bits .or .i64 (wrap64 (a * 16)) b) % 256))) else (none)) else (none))) else (none)) else (none)
set_option maxHeartbeats 8000000 in
set_option maxRecDepth 100000 in
theorem six_at.calls (a0 : Int) (r : Int) (w : World) (h : six_at.f a0 = some r) :
  Calls Tryd.prog 95 #[.int .i64 a0] w fun e w' => e = .returned (.int .u8 r) ∧ Drawn0 w w' := by
 have H : (if 0 ≤ (wrap64 (2 * a0)) then (if (wrap64 (2 * a0)) < 128 then ((six_digit.f (bt (⟨#[52, 48, 99, 49, 99, 50, 99, 51, 99, 52, 99, 53, 99, 54, 99, 55, 99, 56, 99, 57, 52, 97, 52, 98, 52, 99, 52, 100, 52, 101, 52, 102, 53, 48, 100, 49, 100, 50, 100, 51, 100, 52, 100, 53, 100, 54, 100, 55, 100, 56, 100, 57, 53, 97, 53, 98, 53, 99, 53, 100, 53, 101, 53, 102, 54, 48, 54, 49, 101, 50, 101, 51, 101, 52, 101, 53, 101, 54, 101, 55, 101, 56, 101, 57, 54, 97, 54, 98, 54, 99, 54, 100, 54, 101, 54, 102, 102, 48, 102, 49, 102, 50, 102, 51, 102, 52, 102, 53, 102, 54, 102, 55, 102, 56, 102, 57, 55, 97, 55, 98, 55, 99, 55, 100, 55, 101, 55, 102]⟩ : ByteArray) (wrap64 (2 * a0)))).bind fun d => (if 0 ≤ (wrap64 ((wrap64 (2 * a0)) + 1)) then (if (wrap64 ((wrap64 (2 * a0)) + 1)) < 128 then ((six_digit.f (bt (⟨#[52, 48, 99, 49, 99, 50, 99, 51, 99, 52, 99, 53, 99, 54, 99, 55, 99, 56, 99, 57, 52, 97, 52, 98, 52, 99, 52, 100, 52, 101, 52, 102, 53, 48, 100, 49, 100, 50, 100, 51, 100, 52, 100, 53, 100, 54, 100, 55, 100, 56, 100, 57, 53, 97, 53, 98, 53, 99, 53, 100, 53, 101, 53, 102, 54, 48, 54, 49, 101, 50, 101, 51, 101, 52, 101, 53, 101, 54, 101, 55, 101, 56, 101, 57, 54, 97, 54, 98, 54, 99, 54, 100, 54, 101, 54, 102, 102, 48, 102, 49, 102, 50, 102, 51, 102, 52, 102, 53, 102, 54, 102, 55, 102, 56, 102, 57, 55, 97, 55, 98, 55, 99, 55, 100, 55, 101, 55, 102]⟩ : ByteArray) (wrap64 ((wrap64 (2 * a0)) + 1)))).bind fun c => (some ((Go.bits .or .i64 (wrap64 (d * 16)) c) % 256))) else (none)) else (none))) else (none)) else (none)) = some r := h
 clear h
 obtain ⟨a, j⟩ : ∃ j_ : Int, (wrap64 (2 * a0)) = j_ := ⟨_, rfl⟩
 replace H : (if 0 ≤ (a) then (if (a) < 128 then ((six_digit.f (bt (⟨#[52, 48, 99, 49, 99, 50, 99, 51, 99, 52, 99, 53, 99, 54, 99, 55, 99, 56, 99, 57, 52, 97, 52, 98, 52, 99, 52, 100, 52, 101, 52, 102, 53, 48, 100, 49, 100, 50, 100, 51, 100, 52, 100, 53, 100, 54, 100, 55, 100, 56, 100, 57, 53, 97, 53, 98, 53, 99, 53, 100, 53, 101, 53, 102, 54, 48, 54, 49, 101, 50, 101, 51, 101, 52, 101, 53, 101, 54, 101, 55, 101, 56, 101, 57, 54, 97, 54, 98, 54, 99, 54, 100, 54, 101, 54, 102, 102, 48, 102, 49, 102, 50, 102, 51, 102, 52, 102, 53, 102, 54, 102, 55, 102, 56, 102, 57, 55, 97, 55, 98, 55, 99, 55, 100, 55, 101, 55, 102]⟩ : ByteArray) (a))).bind fun d => (if 0 ≤ (wrap64 ((a) + 1)) then (if (wrap64 ((a) + 1)) < 128 then ((six_digit.f (bt (⟨#[52, 48, 99, 49, 99, 50, 99, 51, 99, 52, 99, 53, 99, 54, 99, 55, 99, 56, 99, 57, 52, 97, 52, 98, 52, 99, 52, 100, 52, 101, 52, 102, 53, 48, 100, 49, 100, 50, 100, 51, 100, 52, 100, 53, 100, 54, 100, 55, 100, 56, 100, 57, 53, 97, 53, 98, 53, 99, 53, 100, 53, 101, 53, 102, 54, 48, 54, 49, 101, 50, 101, 51, 101, 52, 101, 53, 101, 54, 101, 55, 101, 56, 101, 57, 54, 97, 54, 98, 54, 99, 54, 100, 54, 101, 54, 102, 102, 48, 102, 49, 102, 50, 102, 51, 102, 52, 102, 53, 102, 54, 102, 55, 102, 56, 102, 57, 55, 97, 55, 98, 55, 99, 55, 100, 55, 101, 55, 102]⟩ : ByteArray) (wrap64 ((a) + 1)))).bind fun c => (some ((Go.bits .or .i64 (wrap64 (d * 16)) c) % 256))) else (none)) else (none))) else (none)) else (none)) = some r := by first | (rw [j] at H; exact H) | (simp only [j] at H ⊢; exact H)
 have q : (IntKind.i64.wrap (2 * a0)) = a := (i64_w _).trans j
 by_cases c3 : 0 ≤ (a)
 ·rw [if_pos c3] at H
  have t : decide (0 ≤ (a)) = true := decide_eq_true c3
  clear c3
  by_cases c4 : (a) < 128
  ·rw [if_pos c4] at H
   have u : decide ((a) < 128) = true := decide_eq_true c4
   clear c4
   replace H := Option.bind_eq_some_iff.mp H
   obtain ⟨d, o, H⟩ := H
   replace H : (if 0 ≤ (wrap64 ((a) + 1)) then (if (wrap64 ((a) + 1)) < 128 then ((six_digit.f (bt (⟨#[52, 48, 99, 49, 99, 50, 99, 51, 99, 52, 99, 53, 99, 54, 99, 55, 99, 56, 99, 57, 52, 97, 52, 98, 52, 99, 52, 100, 52, 101, 52, 102, 53, 48, 100, 49, 100, 50, 100, 51, 100, 52, 100, 53, 100, 54, 100, 55, 100, 56, 100, 57, 53, 97, 53, 98, 53, 99, 53, 100, 53, 101, 53, 102, 54, 48, 54, 49, 101, 50, 101, 51, 101, 52, 101, 53, 101, 54, 101, 55, 101, 56, 101, 57, 54, 97, 54, 98, 54, 99, 54, 100, 54, 101, 54, 102, 102, 48, 102, 49, 102, 50, 102, 51, 102, 52, 102, 53, 102, 54, 102, 55, 102, 56, 102, 57, 55, 97, 55, 98, 55, 99, 55, 100, 55, 101, 55, 102]⟩ : ByteArray) (wrap64 ((a) + 1)))).bind fun c => (some ((Go.bits .or .i64 (wrap64 (d * 16)) c) % 256))) else (none)) else (none)) = some r := H
   have n := Z o
   clear o
   obtain ⟨b, g⟩ : ∃ j_ : Int, (wrap64 ((a) + 1)) = j_ := ⟨_, rfl⟩
   replace H : (if 0 ≤ (b) then (if (b) < 128 then ((six_digit.f (bt (⟨#[52, 48, 99, 49, 99, 50, 99, 51, 99, 52, 99, 53, 99, 54, 99, 55, 99, 56, 99, 57, 52, 97, 52, 98, 52, 99, 52, 100, 52, 101, 52, 102, 53, 48, 100, 49, 100, 50, 100, 51, 100, 52, 100, 53, 100, 54, 100, 55, 100, 56, 100, 57, 53, 97, 53, 98, 53, 99, 53, 100, 53, 101, 53, 102, 54, 48, 54, 49, 101, 50, 101, 51, 101, 52, 101, 53, 101, 54, 101, 55, 101, 56, 101, 57, 54, 97, 54, 98, 54, 99, 54, 100, 54, 101, 54, 102, 102, 48, 102, 49, 102, 50, 102, 51, 102, 52, 102, 53, 102, 54, 102, 55, 102, 56, 102, 57, 55, 97, 55, 98, 55, 99, 55, 100, 55, 101, 55, 102]⟩ : ByteArray) (b))).bind fun c => (some ((Go.bits .or .i64 (wrap64 (d * 16)) c) % 256))) else (none)) else (none)) = some r := by first | (rw [g] at H; exact H) | (simp only [g] at H ⊢; exact H)
   (try rw [g] at n)
   have s : (IntKind.i64.wrap ((a) + 1)) = b := (i64_w _).trans g
   by_cases c8 : 0 ≤ (b)
   ·rw [if_pos c8] at H
    have v : decide (0 ≤ (b)) = true := decide_eq_true c8
    clear c8
    by_cases c9 : (b) < 128
    ·rw [if_pos c9] at H
     have x : decide ((b) < 128) = true := decide_eq_true c9
     clear c9
     replace H := Option.bind_eq_some_iff.mp H
     obtain ⟨c, l, H⟩ := H
     replace H : (some ((Go.bits .or .i64 (wrap64 (d * 16)) c) % 256)) = some r := H
     have k := Z l
     clear l
     obtain rfl := Option.some.inj H
     have p5 : 0 ≤ ((a) : Int) := od_
     have p : (a) < (128 : Int) := od_
     have y := bt_at (⟨#[52, 48, 99, 49, 99, 50, 99, 51, 99, 52, 99, 53, 99, 54, 99, 55, 99, 56, 99, 57, 52, 97, 52, 98, 52, 99, 52, 100, 52, 101, 52, 102, 53, 48, 100, 49, 100, 50, 100, 51, 100, 52, 100, 53, 100, 54, 100, 55, 100, 56, 100, 57, 53, 97, 53, 98, 53, 99, 53, 100, 53, 101, 53, 102, 54, 48, 54, 49, 101, 50, 101, 51, 101, 52, 101, 53, 101, 54, 101, 55, 101, 56, 101, 57, 54, 97, 54, 98, 54, 99, 54, 100, 54, 101, 54, 102, 102, 48, 102, 49, 102, 50, 102, 51, 102, 52, 102, 53, 102, 54, 102, 55, 102, 56, 102, 57, 55, 97, 55, 98, 55, 99, 55, 100, 55, 101, 55, 102]⟩ : ByteArray) (a)
     replace p5 := eq_true p5
     replace p := eq_true p
     go_enter Tryd.func95, Tryd.ntmps95
     go_wp2_with (first | (go_at_call 102; (with_reducible refine (six_digit.calls (bt (⟨#[52, 48, 99, 49, 99, 50, 99, 51, 99, 52, 99, 53, 99, 54, 99, 55, 99, 56, 99, 57, 52, 97, 52, 98, 52, 99, 52, 100, 52, 101, 52, 102, 53, 48, 100, 49, 100, 50, 100, 51, 100, 52, 100, 53, 100, 54, 100, 55, 100, 56, 100, 57, 53, 97, 53, 98, 53, 99, 53, 100, 53, 101, 53, 102, 54, 48, 54, 49, 101, 50, 101, 51, 101, 52, 101, 53, 101, 54, 101, 55, 101, 56, 101, 57, 54, 97, 54, 98, 54, 99, 54, 100, 54, 101, 54, 102, 102, 48, 102, 49, 102, 50, 102, 51, 102, 52, 102, 53, 102, 54, 102, 55, 102, 56, 102, 57, 55, 97, 55, 98, 55, 99, 55, 100, 55, 101, 55, 102]⟩ : ByteArray) (a)) d _ n.out).mono ?_); rintro e w' ⟨rfl, ⟨nd, rfl⟩⟩; (try first | exact ⟨rfl, _, World.drewN_drewN _ _ _⟩ | exact ⟨rfl, _, Eq.trans (World.drewN_drewN _ _ _) (congrArg (World.drewN _) (Nat.add_assoc _ _ _))⟩); have p10 : 0 ≤ ((b) : Int) := od_; have i : (b) < (128 : Int) := od_; have m := bt_at (⟨#[52, 48, 99, 49, 99, 50, 99, 51, 99, 52, 99, 53, 99, 54, 99, 55, 99, 56, 99, 57, 52, 97, 52, 98, 52, 99, 52, 100, 52, 101, 52, 102, 53, 48, 100, 49, 100, 50, 100, 51, 100, 52, 100, 53, 100, 54, 100, 55, 100, 56, 100, 57, 53, 97, 53, 98, 53, 99, 53, 100, 53, 101, 53, 102, 54, 48, 54, 49, 101, 50, 101, 51, 101, 52, 101, 53, 101, 54, 101, 55, 101, 56, 101, 57, 54, 97, 54, 98, 54, 99, 54, 100, 54, 101, 54, 102, 102, 48, 102, 49, 102, 50, 102, 51, 102, 52, 102, 53, 102, 54, 102, 55, 102, 56, 102, 57, 55, 97, 55, 98, 55, 99, 55, 100, 55, 101, 55, 102]⟩ : ByteArray) (b); replace p10 := eq_true p10; replace i := eq_true i) | (go_at_call 102; (with_reducible refine (six_digit.calls (bt (⟨#[52, 48, 99, 49, 99, 50, 99, 51, 99, 52, 99, 53, 99, 54, 99, 55, 99, 56, 99, 57, 52, 97, 52, 98, 52, 99, 52, 100, 52, 101, 52, 102, 53, 48, 100, 49, 100, 50, 100, 51, 100, 52, 100, 53, 100, 54, 100, 55, 100, 56, 100, 57, 53, 97, 53, 98, 53, 99, 53, 100, 53, 101, 53, 102, 54, 48, 54, 49, 101, 50, 101, 51, 101, 52, 101, 53, 101, 54, 101, 55, 101, 56, 101, 57, 54, 97, 54, 98, 54, 99, 54, 100, 54, 101, 54, 102, 102, 48, 102, 49, 102, 50, 102, 51, 102, 52, 102, 53, 102, 54, 102, 55, 102, 56, 102, 57, 55, 97, 55, 98, 55, 99, 55, 100, 55, 101, 55, 102]⟩ : ByteArray) (b)) c _ k.out).mono ?_); rintro e w' ⟨rfl, ⟨nd, rfl⟩⟩; (try first | exact ⟨rfl, _, World.drewN_drewN _ _ _⟩ | exact ⟨rfl, _, Eq.trans (World.drewN_drewN _ _ _) (congrArg (World.drewN _) (Nat.add_assoc _ _ _))⟩)))
     repeat (go_quiet (first | (go_at_call 102; (with_reducible refine (six_digit.calls (bt (⟨#[52, 48, 99, 49, 99, 50, 99, 51, 99, 52, 99, 53, 99, 54, 99, 55, 99, 56, 99, 57, 52, 97, 52, 98, 52, 99, 52, 100, 52, 101, 52, 102, 53, 48, 100, 49, 100, 50, 100, 51, 100, 52, 100, 53, 100, 54, 100, 55, 100, 56, 100, 57, 53, 97, 53, 98, 53, 99, 53, 100, 53, 101, 53, 102, 54, 48, 54, 49, 101, 50, 101, 51, 101, 52, 101, 53, 101, 54, 101, 55, 101, 56, 101, 57, 54, 97, 54, 98, 54, 99, 54, 100, 54, 101, 54, 102, 102, 48, 102, 49, 102, 50, 102, 51, 102, 52, 102, 53, 102, 54, 102, 55, 102, 56, 102, 57, 55, 97, 55, 98, 55, 99, 55, 100, 55, 101, 55, 102]⟩ : ByteArray) (a)) d _ n.out).mono ?_); rintro e w' ⟨rfl, ⟨nd, rfl⟩⟩; (try first | exact ⟨rfl, _, World.drewN_drewN _ _ _⟩ | exact ⟨rfl, _, Eq.trans (World.drewN_drewN _ _ _) (congrArg (World.drewN _) (Nat.add_assoc _ _ _))⟩); have p10 : 0 ≤ ((b) : Int) := od_; have i : (b) < (128 : Int) := od_; have m := bt_at (⟨#[52, 48, 99, 49, 99, 50, 99, 51, 99, 52, 99, 53, 99, 54, 99, 55, 99, 56, 99, 57, 52, 97, 52, 98, 52, 99, 52, 100, 52, 101, 52, 102, 53, 48, 100, 49, 100, 50, 100, 51, 100, 52, 100, 53, 100, 54, 100, 55, 100, 56, 100, 57, 53, 97, 53, 98, 53, 99, 53, 100, 53, 101, 53, 102, 54, 48, 54, 49, 101, 50, 101, 51, 101, 52, 101, 53, 101, 54, 101, 55, 101, 56, 101, 57, 54, 97, 54, 98, 54, 99, 54, 100, 54, 101, 54, 102, 102, 48, 102, 49, 102, 50, 102, 51, 102, 52, 102, 53, 102, 54, 102, 55, 102, 56, 102, 57, 55, 97, 55, 98, 55, 99, 55, 100, 55, 101, 55, 102]⟩ : ByteArray) (b); replace p10 := eq_true p10; replace i := eq_true i) | (go_at_call 102; (with_reducible refine (six_digit.calls (bt (⟨#[52, 48, 99, 49, 99, 50, 99, 51, 99, 52, 99, 53, 99, 54, 99, 55, 99, 56, 99, 57, 52, 97, 52, 98, 52, 99, 52, 100, 52, 101, 52, 102, 53, 48, 100, 49, 100, 50, 100, 51, 100, 52, 100, 53, 100, 54, 100, 55, 100, 56, 100, 57, 53, 97, 53, 98, 53, 99, 53, 100, 53, 101, 53, 102, 54, 48, 54, 49, 101, 50, 101, 51, 101, 52, 101, 53, 101, 54, 101, 55, 101, 56, 101, 57, 54, 97, 54, 98, 54, 99, 54, 100, 54, 101, 54, 102, 102, 48, 102, 49, 102, 50, 102, 51, 102, 52, 102, 53, 102, 54, 102, 55, 102, 56, 102, 57, 55, 97, 55, 98, 55, 99, 55, 100, 55, 101, 55, 102]⟩ : ByteArray) (b)) c _ k.out).mono ?_); rintro e w' ⟨rfl, ⟨nd, rfl⟩⟩; (try first | exact ⟨rfl, _, World.drewN_drewN _ _ _⟩ | exact ⟨rfl, _, Eq.trans (World.drewN_drewN _ _ _) (congrArg (World.drewN _) (Nat.add_assoc _ _ _))⟩))); try go_wp2_with (first | (go_at_call 102; (with_reducible refine (six_digit.calls (bt (⟨#[52, 48, 99, 49, 99, 50, 99, 51, 99, 52, 99, 53, 99, 54, 99, 55, 99, 56, 99, 57, 52, 97, 52, 98, 52, 99, 52, 100, 52, 101, 52, 102, 53, 48, 100, 49, 100, 50, 100, 51, 100, 52, 100, 53, 100, 54, 100, 55, 100, 56, 100, 57, 53, 97, 53, 98, 53, 99, 53, 100, 53, 101, 53, 102, 54, 48, 54, 49, 101, 50, 101, 51, 101, 52, 101, 53, 101, 54, 101, 55, 101, 56, 101, 57, 54, 97, 54, 98, 54, 99, 54, 100, 54, 101, 54, 102, 102, 48, 102, 49, 102, 50, 102, 51, 102, 52, 102, 53, 102, 54, 102, 55, 102, 56, 102, 57, 55, 97, 55, 98, 55, 99, 55, 100, 55, 101, 55, 102]⟩ : ByteArray) (a)) d _ n.out).mono ?_); rintro e w' ⟨rfl, ⟨nd, rfl⟩⟩; (try first | exact ⟨rfl, _, World.drewN_drewN _ _ _⟩ | exact ⟨rfl, _, Eq.trans (World.drewN_drewN _ _ _) (congrArg (World.drewN _) (Nat.add_assoc _ _ _))⟩); have p10 : 0 ≤ ((b) : Int) := od_; have i : (b) < (128 : Int) := od_; have m := bt_at (⟨#[52, 48, 99, 49, 99, 50, 99, 51, 99, 52, 99, 53, 99, 54, 99, 55, 99, 56, 99, 57, 52, 97, 52, 98, 52, 99, 52, 100, 52, 101, 52, 102, 53, 48, 100, 49, 100, 50, 100, 51, 100, 52, 100, 53, 100, 54, 100, 55, 100, 56, 100, 57, 53, 97, 53, 98, 53, 99, 53, 100, 53, 101, 53, 102, 54, 48, 54, 49, 101, 50, 101, 51, 101, 52, 101, 53, 101, 54, 101, 55, 101, 56, 101, 57, 54, 97, 54, 98, 54, 99, 54, 100, 54, 101, 54, 102, 102, 48, 102, 49, 102, 50, 102, 51, 102, 52, 102, 53, 102, 54, 102, 55, 102, 56, 102, 57, 55, 97, 55, 98, 55, 99, 55, 100, 55, 101, 55, 102]⟩ : ByteArray) (b); replace p10 := eq_true p10; replace i := eq_true i) | (go_at_call 102; (with_reducible refine (six_digit.calls (bt (⟨#[52, 48, 99, 49, 99, 50, 99, 51, 99, 52, 99, 53, 99, 54, 99, 55, 99, 56, 99, 57, 52, 97, 52, 98, 52, 99, 52, 100, 52, 101, 52, 102, 53, 48, 100, 49, 100, 50, 100, 51, 100, 52, 100, 53, 100, 54, 100, 55, 100, 56, 100, 57, 53, 97, 53, 98, 53, 99, 53, 100, 53, 101, 53, 102, 54, 48, 54, 49, 101, 50, 101, 51, 101, 52, 101, 53, 101, 54, 101, 55, 101, 56, 101, 57, 54, 97, 54, 98, 54, 99, 54, 100, 54, 101, 54, 102, 102, 48, 102, 49, 102, 50, 102, 51, 102, 52, 102, 53, 102, 54, 102, 55, 102, 56, 102, 57, 55, 97, 55, 98, 55, 99, 55, 100, 55, 101, 55, 102]⟩ : ByteArray) (b)) c _ k.out).mono ?_); rintro e w' ⟨rfl, ⟨nd, rfl⟩⟩; (try first | exact ⟨rfl, _, World.drewN_drewN _ _ _⟩ | exact ⟨rfl, _, Eq.trans (World.drewN_drewN _ _ _) (congrArg (World.drewN _) (Nat.add_assoc _ _ _))⟩))))
     go_ret
     exact ⟨by first | rfl | (simp; done) | (simp only [← j, ← g, i64_w]; rfl) | (simp only [← j, ← g] <;> (first | rfl | simp)) | (simp [*]; done), dr_⟩
    ·rw [if_neg c9] at H
     exact absurd H (by simp)
   ·rw [if_neg c8] at H
    exact absurd H (by simp)
  ·rw [if_neg c4] at H
   exact absurd H (by simp)
 ·rw [if_neg c3] at H
  exact absurd H (by simp)

/-! ### six_Put: function 83 -/
def six_Put.f (a0 : Int) : Option (Int × Option Er × (List (S184))) := if a0 < 0 then (some (0, some (Er.num 1), ([] : List (S184)))) else (if a0 ≥ 64 then (some (0, some (Er.num 1), ([] : List (S184)))) else ((six_at.f a0).bind fun a => (some (a, none, ([] : List (S184))))))
set_option maxHeartbeats 8000000 in
set_option maxRecDepth 100000 in
theorem six_Put.calls (a0 : Int) (b : Int) (c : Option Er) (d : List (S184)) (w : World) (h : six_Put.f a0 = some (b, c, d)) :
  Calls Tryd.prog 83 #[.int .i64 a0] w fun e w' => ∃ i : Value, e = .returned (.tuple #[.int .u8 b, errW i c]) ∧ Kd.V k184 184 w' w.heap.size (fun k_ => (w.heap.size ≤ k_)) i d ∧ Below w.heap.size w w' := by
 have m := Tryd.underlying34
 have n := Tryd.underlying75
 have HB := Z (Below.refl w.heap.size w)
 have H : (if a0 < 0 then (some (0, some (Er.num 1), ([] : List (S184)))) else (if a0 ≥ 64 then (some (0, some (Er.num 1), ([] : List (S184)))) else ((six_at.f a0).bind fun a => (some (a, none, ([] : List (S184))))))) = some (b, c, d) := h
 clear h
 by_cases c2 : a0 < 0
 ·rw [if_pos c2] at H
  have j : decide (a0 < 0) = true := decide_eq_true c2
  clear c2
  simp only [Option.some.injEq, Prod.mk.injEq] at H
  obtain ⟨rfl, rfl, rfl⟩ := H
  go_enter Tryd.func83, Tryd.ntmps83
  go_wp2
  go_ret2
  exact ⟨_, er_, Kd.R_V (by first | exact Kd.R_nil _ _ _ 0 _ | exact Kd.N_nil _ _ _ _ _ | exact Kd.V_nil _ _ _ _ _ | exact Kd.Q_nil _ _ _ _ _ | exact Kd.S_nil _ _ _ _ _), bl_⟩
 ·rw [if_neg c2] at H
  have j : decide (a0 < 0) = false := decide_eq_false c2
  clear c2
  by_cases c3 : a0 ≥ 64
  ·rw [if_pos c3] at H
   have k : decide (64 ≤ a0) = true := decide_eq_true c3
   clear c3
   simp only [Option.some.injEq, Prod.mk.injEq] at H
   obtain ⟨rfl, rfl, rfl⟩ := H
   go_enter Tryd.func83, Tryd.ntmps83
   go_wp2
   go_ret2
   exact ⟨_, er_, Kd.R_V (by first | exact Kd.R_nil _ _ _ 0 _ | exact Kd.N_nil _ _ _ _ _ | exact Kd.V_nil _ _ _ _ _ | exact Kd.Q_nil _ _ _ _ _ | exact Kd.S_nil _ _ _ _ _), bl_⟩
  ·rw [if_neg c3] at H
   have k : decide (64 ≤ a0) = false := decide_eq_false c3
   clear c3
   replace H := Option.bind_eq_some_iff.mp H
   obtain ⟨a, g, H⟩ := H
   replace H : (some (a, none, ([] : List (S184)))) = some (b, c, d) := H
   have l := Z g
   clear g
   simp only [Option.some.injEq, Prod.mk.injEq] at H
   obtain ⟨rfl, rfl, rfl⟩ := H
   go_enter Tryd.func83, Tryd.ntmps83
   go_wp2_with (first | ((with_reducible refine gate_callee (f := 95) rfl ?_); refine goesL_ (some 12) rfl rfl Tryd.func95 (by kernel_rfl) rfl #[.int .i64 a0] rfl ag_ ?_; (with_reducible refine (six_at.calls a0 a _ l.out).mono ?_); rintro e w' ⟨rfl, ⟨nd, rfl⟩⟩; refine ⟨_, rfl, ?_⟩))
   go_ret2
   exact ⟨_, er_, Kd.R_V (by first | exact Kd.R_nil _ _ _ 0 _ | exact Kd.N_nil _ _ _ _ _ | exact Kd.V_nil _ _ _ _ _ | exact Kd.Q_nil _ _ _ _ _ | exact Kd.S_nil _ _ _ _ _), bl_⟩

end Go.Proofs.YtgboplhcjhlabaaDoor.P
