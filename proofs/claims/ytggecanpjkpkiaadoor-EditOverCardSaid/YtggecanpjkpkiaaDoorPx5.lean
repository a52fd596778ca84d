/- The functions of the seat's laws as plain Lean functions, and that Go's code comes to just their answers. Written by pp.py (wip/tools), a program of this session, on the kit's print. -/
import Derived.Test.YtggecanpjkpkiaaDoorPx0
import Derived.Test.YtggecanpjkpkiaaDoorPx3
import Derived.Test.YtggecanpjkpkiaaDoorPx4
namespace Go.Proofs.YtggecanpjkpkiaaDoor.P
open Go.RowKit Go.Proofs.YtggecanpjkpkiaaDoorW.PrintWords Go.Proofs.YtggecanpjkpkiaaDoorW.PrintLast Go.Proofs.YtggecanpjkpkiaaDoorW.PrintMore
attribute [local go_sem] max2_int min2_int max_two min_two max_three min_three max_four min_four   -- for this text's walks alone
attribute [local go_sem] Instr.field asAgg
set_option linter.unusedVariables false
set_option linter.unusedSimpArgs false

/-! ### field_Cells: function 50 -/
section
open Go.Shelf
attribute [local go_sem] Oper.semAt_some

def takeW (p : Int → Bool) (g : Nat → Int) : Nat → Nat → List Int
 | 0, _ => []
 | c + 1, s => if p (g s) = true then [] else g s :: takeW p g c (s + 1)
theorem uptoI_front {α : Type} (f : Nat → α) (k : Nat) : uptoI f (k + 1) = f 0 :: uptoI (fun j => f (j + 1)) k := by
 simp [uptoI, List.range_succ_eq_map, Function.comp_def]
theorem takeW_eq (p : Int → Bool) (g : Nat → Int) : ∀ c s k, k ≤ c → (∀ i, i < k → p (g (s + i)) = false) → (k = c ∨ p (g (s + k)) = true) → takeW p g c s = uptoI (fun j => g (s + j)) k
 | 0, s, k, h1, h2, h3 => by
  obtain rfl : k = 0 := by omega
  rfl
 | c + 1, s, k, h1, h2, h3 => by
  unfold takeW
  rcases k with _ | k
  ·rcases h3 with h3 | h3
   ·omega
   ·rw [if_pos (by simpa using h3)]; rfl
  ·rw [if_neg (by have := h2 0 (by omega); simp at this; rw [this]; decide), uptoI_front]
   have := takeW_eq p g c (s + 1) k (by omega) (fun i hi => by have := h2 (i + 1) (by omega); rw [show s + 1 + i = s + (i + 1) by omega]; exact this) (by
    rcases h3 with h3 | h3
    ·left; omega
    ·right; rw [show s + 1 + k = s + (k + 1) by omega]; exact h3)
   rw [this]
   simp only [Nat.add_zero]
   congr 1
   congr 1
   funext j
   rw [show s + 1 + j = s + (j + 1) by omega]
/-- the cells of a cell's field -/
def cellsI (l : List S35) (a : Int) : List Int := if beginI l a < 0 then uptoI (fun j => (j : Int)) l.length else takeW (isF l) (wayI l.length (beginI l a) 1) l.length 0
set_option maxRecDepth 100000 in
set_option maxHeartbeats 4000000 in
theorem Cells_none (r c : Int) (A : Option Addr) (cp : Nat) (l : List S35) (cu : Int) (lo ins : Bool) (a : Int) (w : World) (hr : Kd.C k35 w A l.length l) (hc : l.length ≤ cp) (hn : l.length ≤ 16383) (h0 : 0 ≤ a) (h1 : a < l.length) (hb : beginI l a = -1) :
  CallsIn Fence.wide 5 Tryd.prog 50 #[.agg #[.int .i64 r, .int .i64 c, .slice A l.length cp, .int .i64 cu, .bool lo, .bool ins], .int .i64 a] w fun e w' => ∃ v : Value, e = .returned v ∧ Kd.R (Kd.int .i64) 3 w' w.heap.size (fun _ => True) v (cellsI l a) ∧ Below w.heap.size w w' := by
 have hE : cellsI l a = uptoI (fun j => (j : Int)) l.length := by rw [cellsI, hb]; rfl
 rw [hE]
 have hBg := Aside0.mk (fun W hr => field_Begin.calls r c A cp l cu lo ins a (-1) W hr hc (by unfold field_Begin.f; rw [if_pos hn, if_pos h0, if_pos h1, hb]))
 clear hE hb
 have HR := Aside0.mk hr
 clear hr
 obtain ⟨i0, hi, hz0, hz1, hz2⟩ := info_parts infoInt
 have hu24 := Tryd.underlying24
 refine callsIn_of_wp Tryd.func50 rfl trivial ?_ rfl
 simp only [Tryd.ntmps50, List.size_toArray, List.length_cons, List.length_nil, Nat.reduceAdd, Nat.reduceSub, Array.replicate_succ, Array.replicate_zero, List.push_toArray, List.append_toArray, List.nil_append, List.cons_append]
 have hB0 : Below w.heap.size w ((w.alloc (.cells #[.int .i64 r, .int .i64 c, .slice A l.length cp, .int .i64 cu, .bool lo, .bool ins] 24)).alloc (.cells #[.slice none 0 0] 41)) := below_alloc (below_alloc (Below.refl _ _) _) _
 have k1 := blk_alloc (blk_new w (.cells #[.int .i64 r, .int .i64 c, .slice A l.length cp, .int .i64 cu, .bool lo, .bool ins] 24)) (.cells #[.slice none 0 0] 41)
 have k2 := Boxed.new (w.alloc (.cells #[.int .i64 r, .int .i64 c, .slice A l.length cp, .int .i64 cu, .bool lo, .bool ins] 24)) 41 (.slice none 0 0)
 simp only [World.size_alloc] at k2
 gi_wp2_with (refine ⟨trivial, ?_⟩; gi_at_call 62; refine (callsIn_wide.2 (hBg.out _ (Kd.C_below HR.out hB0))).mono ?_; rintro e w1 ⟨rfl, hb1⟩; have hB1 := below_step hB0 hb1; have hS := blk_below k1 hb1; have hO : Boxed w1 (w.heap.size + 1) 41 (.slice none 0 0) := blk_below k2 hb1; clear hb1 k1 k2; have s2 := (blk_cell hS 2).trans rfl)
 gi_loopw [17] (fun i wr => ∃ k : Nat, k ≤ l.length ∧ i = .int .i64 k ∧ Aside0 (∃ v, Boxed wr (w.heap.size + 1) 41 v ∧ wr.ownsRow w.heap.size 3 1 v k ((uptoI (fun j => (j : Int)) k).map (Value.int .i64))) ∧ Aside0 (Below w.heap.size w wr))
  (fun i _ => l.length - (intOf i).toNat)
 case atStart => exact ⟨0, Nat.zero_le _, rfl, ⟨_, hO, World.ownsRow_nil _ _ _ _⟩, ⟨hB1⟩⟩
 case round =>
  clear hO hB1 hS s2
  obtain ⟨k, hk, rfl, ⟨v, hv, hrow⟩, ⟨hB⟩⟩ := hrel
  by_cases hlt : k < l.length
  ·have hv0 := hv.cell
   gi_wp2_with (gi_at_builtin; refine wpListIn_append_own _ rfl _ _ 41 rfl w.heap.size 3 i0 (.int .i64 0) 1 8 Tryd.underlying41 hi hz0 hz1 hz2 rfl (by decide) _ _ _ rfl (hrow.alloc _) ⟨wr.heap.size, 0, none⟩ 1 1 [.int .i64 (k : Int)] rfl rfl (cell_one_new _ _ _) (by simp [Value.oneCell']) (by simp only [maxLen]; omega) (by omega) (by have := hB.size; simp; omega) ?_; intro v' w1 hown' hgrow _; obtain ⟨g', cap', rfl⟩ := ownsRow_succ hown'; obtain ⟨hv1, hv2, hr2, hk2, hb2⟩ := hv.appended (by decide) hrow hB.size (Nat.le_succ _) hown' hgrow; have hc1 := hv1.cell; have hf1 := hv1.frozen; clear hgrow hown')
   go_roundw
   case rel => exact ⟨k + 1, by omega, by go_num, ⟨_, hv2, by rw [uptoI_succ]; simpa using hr2⟩, ⟨hB.trans hb2⟩⟩
   case measure => simp [intOf]; omega
  ·obtain rfl : k = l.length := by omega
   have hv0 := hv.cell
   gi_wp2
   go_ret
   exact ⟨v, rfl, Kd.R_of_own (by rw [uptoI_length]; exact hrow) (fun _ _ => trivial), hB⟩

theorem ownsRow_mono {w : World} {base base' : Nat} {e : TypeId} {size : Nat} {v : Value} {n : Nat} {xs : List Value} (h : w.ownsRow base e size v n xs) (hb : base' ≤ base) : w.ownsRow base' e size v n xs := by
 refine ⟨h.1, ?_⟩
 rcases h.2 with h2 | ⟨g, cap, cur, e1, e2, r⟩
 ·exact .inl h2
 ·exact .inr ⟨g, cap, cur, e1, by omega, r⟩
theorem ownsRow_far {w : World} {base k : Nat} {e : TypeId} {size : Nat} {v : Value} {n : Nat} {xs : List Value} (h : w.ownsRow base e size v n xs) (hk : k < base) : some k ≠ v.ownBlock := by
 rcases h.2 with ⟨rfl, _⟩ | ⟨g, cap, cur, rfl, e2, r⟩
 ·simp [Value.ownBlock]
 ·intro he; have : k = g := by simpa [Value.ownBlock] using he
  omega
/-- what lies below the row's base, and is not the variable's box, stays behind 'out = append(out, ..)' -/
theorem appended_far {W w1 : World} {base B k : Nat} {e : TypeId} {size n : Nat} {v v' : Value} {xs : List Value} {tmp : Obj} (hrow : W.ownsRow base e size v n xs) (hgrow : (W.alloc tmp).grownBy w1 v.ownBlock) (hk : k < base) (hkW : k < W.heap.size) (hkB : k ≠ B) : (w1.setCell ⟨B, 0, none⟩ v').heap[k]? = W.heap[k]? :=
 (Below.heap_setCell _ _ _ k hkB).trans ((hgrow.block k (by simp; omega) (ownsRow_far hrow hk)).trans (Below.heap_alloc _ _ _ hkW))
theorem appended_keep3 {W w1 : World} {base B b1 b2 b3 : Nat} {e : TypeId} {size n : Nat} {v v' : Value} {xs : List Value} {tmp : Obj} (hrow : W.ownsRow base e size v n xs) (hgrow : (W.alloc tmp).grownBy w1 v.ownBlock) (hbW : base ≤ W.heap.size) (h1 : b1 < base) (h2 : b2 < base) (h3 : b3 < base) (k1 : b1 ≠ B) (k2 : b2 ≠ B) (k3 : b3 ≠ B) : Keep3 b1 b2 b3 W (w1.setCell ⟨B, 0, none⟩ v') :=
 ⟨by have := hgrow.size; simp [World.setCell] at this ⊢; omega, appended_far hrow hgrow h1 (by omega) k1, appended_far hrow hgrow h2 (by omega) k2, appended_far hrow hgrow h3 (by omega) k3⟩

set_option maxRecDepth 100000 in
set_option maxHeartbeats 4000000 in
theorem Cells_loop (r c : Int) (A : Option Addr) (cp : Nat) (l : List S35) (cu : Int) (lo ins : Bool) (a b : Int) (w : World) (hr : Kd.C k35 w A l.length l) (hc : l.length ≤ cp) (hn : l.length ≤ 16383) (h0 : 0 ≤ a) (h1 : a < l.length) (hb : beginI l a = b) (hb0 : 0 ≤ b) (hb1 : b < l.length) :
  CallsIn Fence.wide 5 Tryd.prog 50 #[.agg #[.int .i64 r, .int .i64 c, .slice A l.length cp, .int .i64 cu, .bool lo, .bool ins], .int .i64 a] w fun e w' => ∃ v : Value, e = .returned v ∧ Kd.R (Kd.int .i64) 3 w' w.heap.size (fun _ => True) v (cellsI l a) ∧ Below w.heap.size w w' := by
 have hpos : 0 < l.length := by omega
 have hE : cellsI l a = takeW (isF l) (wayI l.length b 1) l.length 0 := by rw [cellsI, hb, if_neg (by omega)]
 rw [hE]
 have hBg := Aside0.mk (fun W hr => field_Begin.calls r c A cp l cu lo ins a b W hr hc (by unfold field_Begin.f; rw [if_pos hn, if_pos h0, if_pos h1, hb]))
 clear hE hb
 have HR := Aside0.mk hr
 clear hr
 obtain ⟨i0, hi, hz0, hz1, hz2⟩ := info_parts infoInt
 have hu24 := Tryd.underlying24
 have hu35 := Tryd.underlying35
 have hbd : decide (b < 0) = false := decide_eq_false (by omega)
 refine callsIn_of_wp_marks Tryd.func50 rfl trivial ?_ rfl
 simp only [Tryd.ntmps50, List.size_toArray, List.length_cons, List.length_nil, Nat.reduceAdd, Nat.reduceSub, Array.replicate_succ, Array.replicate_zero, List.push_toArray, List.append_toArray, List.nil_append, List.cons_append]
 have hB0 : Below w.heap.size w ((w.alloc (.cells #[.int .i64 r, .int .i64 c, .slice A l.length cp, .int .i64 cu, .bool lo, .bool ins] 24)).alloc (.cells #[.slice none 0 0] 41)) := below_alloc (below_alloc (Below.refl _ _) _) _
 have k1 := blk_alloc (blk_new w (.cells #[.int .i64 r, .int .i64 c, .slice A l.length cp, .int .i64 cu, .bool lo, .bool ins] 24)) (.cells #[.slice none 0 0] 41)
 have k2 := Boxed.new (w.alloc (.cells #[.int .i64 r, .int .i64 c, .slice A l.length cp, .int .i64 cu, .bool lo, .bool ins] 24)) 41 (.slice none 0 0)
 simp only [World.size_alloc] at k2
 gi_wp2_with (first
  | (refine ⟨trivial, ?_⟩; gi_at_call 62; refine (callsIn_wide.2 (hBg.out _ (Kd.C_below HR.out hB0))).mono ?_; rintro e w1 ⟨rfl, hb1⟩; have hB1 := below_step hB0 hb1; have hS := blk_below k1 hb1; have hO : Boxed w1 (w.heap.size + 1) 41 (.slice none 0 0) := blk_below k2 hb1; clear hb1 k1 k2; have s0 := (blk_cell hS 0).trans rfl; have s1 := (blk_cell hS 1).trans rfl; have s2 := (blk_cell hS 2).trans rfl; have s3 := (blk_cell hS 3).trans rfl; have s4 := (blk_cell hS 4).trans rfl; have s5 := (blk_cell hS 5).trans rfl)
  | (refine ⟨trivial, ?_⟩; gi_at_call 75; refine (callsIn_wide.2 (Round_exact r c _ _ cp cu lo ins b 1 _)).mono ?_; rintro e w' ⟨rfl, rfl⟩))
 have j1 := blk_new w1 (.cells #[.int .i64 r, .int .i64 c, .slice A l.length cp, .int .i64 cu, .bool lo, .bool ins] 24)
 have j2 := blk_new (w1.alloc (.cells #[.int .i64 r, .int .i64 c, .slice A l.length cp, .int .i64 cu, .bool lo, .bool ins] 24)) (.cells #[.int .i64 b] 3)
 have j3 := blk_new ((w1.alloc (.cells #[.int .i64 r, .int .i64 c, .slice A l.length cp, .int .i64 cu, .bool lo, .bool ins] 24)).alloc (.cells #[.int .i64 b] 3)) (.cells #[.int .i64 1] 3)
 simp only [World.size_alloc] at j2 j3
 have hBx : Below w.heap.size w (((w1.alloc (.cells #[.int .i64 r, .int .i64 c, .slice A l.length cp, .int .i64 cu, .bool lo, .bool ins] 24)).alloc (.cells #[.int .i64 b] 3)).alloc (.cells #[.int .i64 1] 3)) := below_alloc (below_alloc (below_alloc hB1 _) _) _
 have hs1 := hB1.size
 have hS1 : w.heap.size + 2 ≤ w1.heap.size := by have := blk_lt hO; omega
 refine wpIn_rangeFunc_ownG rfl (by omega) (gf := 93) (lb := #[.pointer (some ⟨w1.heap.size, 0, none⟩), .pointer (some ⟨w1.heap.size + 1, 0, none⟩), .pointer (some ⟨w1.heap.size + 1 + 1, 0, none⟩)]) rfl trivial (enters_of Tryd.func93 (by kernel_rfl) rfl)
  (round_stops 4 (by omega) w1.heap.size (w1.heap.size + 1) (w1.heap.size + 1 + 1) r c A l.length cp cu lo ins b 1 hpos hn hb0 hb1 _ (blk_alloc (blk_alloc j1 _) _) (blk_alloc j2 _) j3) Keep3.trans (Keep3.put (by simp; omega) (by simp) (by simp)) (Below.refl _ _) (fun _ => rfl)
  (fun pre W => W.heap[w.heap.size]? = some (.cells #[.int .i64 r, .int .i64 c, .slice A l.length cp, .int .i64 cu, .bool lo, .bool ins] 24 (0, 0)) ∧ ((∃ v, Boxed W (w.heap.size + 1) 41 v ∧ W.ownsRow (w1.heap.size + 3) 3 1 v pre.length (pre.map fun x => Value.int .i64 x.1) ∧ ((∀ x ∈ pre, isF l x.1 = false) ∧ True)) ∧ (w1.heap.size + 3 ≤ W.heap.size ∧ Below w.heap.size w W)))
  (fun c' pre W => (∃ v, Boxed W (w.heap.size + 1) 41 v ∧ W.ownsRow (w1.heap.size + 3) 3 1 v pre.dropLast.length (pre.dropLast.map fun x => Value.int .i64 x.1) ∧ (c' = .exit 2 ∧ ∃ ini last, pre = ini ++ [last] ∧ (∀ x ∈ ini, isF l x.1 = false) ∧ isF l last.1 = true)) ∧ Below w.heap.size w W)
  (OwnFrom.and (Own.from (fun s A B row hs hg hr => (grownBy_keeps_cells hg hr hs rfl).trans hs) _) (OwnFrom.and (Own.from (holdsRow_own (w1.heap.size + 3) (w.heap.size + 1) 41 3 1 (fun pre : List (Rng l.length) => pre.length) (fun pre => pre.map fun x => Value.int .i64 x.1) (fun pre v => (∀ x ∈ pre, isF l x.1 = false) ∧ True)) _) (OwnFrom.and (fun s A B row hs hg _ => Nat.le_trans hs hg.size) (ownFrom_below (Nat.le_refl _) (by simp; omega)))))
  (fun c' => OwnFrom.and (Own.from (holdsRow_own (w1.heap.size + 3) (w.heap.size + 1) 41 3 1 (fun pre : List (Rng l.length) => pre.dropLast.length) (fun pre => pre.dropLast.map fun x => Value.int .i64 x.1) (fun pre v => c' = .exit 2 ∧ ∃ ini last, pre = ini ++ [last] ∧ (∀ x ∈ ini, isF l x.1 = false) ∧ isF l last.1 = true)) _) (ownFrom_below (Nat.le_refl _) (by simp; omega)))
  ⟨blk_alloc (blk_alloc (blk_alloc hS _) _) _, ⟨_, blk_alloc (blk_alloc (blk_alloc hO _) _) _, World.ownsRow_nil _ _ _ _, by simp⟩, by simp, hBx⟩
  (fun x => { tmps := #[.agg #[.int .i64 r, .int .i64 c, .slice A l.length cp, .int .i64 cu, .bool lo, .bool ins], .int .i64 a, .pointer (some ⟨w.heap.size, 0, none⟩), undef, .slice none 0 0, .pointer (some ⟨w.heap.size + 1, 0, none⟩), .int .i64 b, undef, .int .i64 x.1, .agg #[.int .i64 r, .int .i64 c, .slice A l.length cp, .int .i64 cu, .bool lo, .bool ins], .int .i64 a, .int .i64 b, .int .i64 b, .bool false, undef, undef, undef, undef, undef, undef, undef, undef, undef, undef, undef, undef, .agg #[.int .i64 r, .int .i64 c, .slice A l.length cp, .int .i64 cu, .bool lo, .bool ins], .int .i64 b, .func (.func 93) #[] #[.pointer (some ⟨w1.heap.size, 0, none⟩), .pointer (some ⟨w1.heap.size + 1, 0, none⟩), .pointer (some ⟨w1.heap.size + 1 + 1, 0, none⟩)], .int .i64 x.1, undef, undef, undef, undef, undef, undef, undef, undef, undef, undef, undef], defers := [] }) ?assign ?body ?done ?stop
 case assign =>
  intro l x W K hK
  gi_wp2
  exact hK
 case body =>
  rintro lp pre x W ⟨hS, ⟨v, hv, hrow, hp, _⟩, hbW, hB⟩ hlt
  have hr := HR.out
  obtain ⟨ad', e', hcx, hltx⟩ := cell_f0 hr x.1 x.2.1 x.2.2
  subst e'
  have hcW := (hB.cell hltx).trans hcx
  have s2 := (blk_cell hS 2).trans rfl
  have x0 := x.2.1
  have x1 := x.2.2
  have hv0 := hv.cell
  cases hfx : isF l x.1 with
  | true =>
   rw [hfx] at hcW
   gi_wp2
   exact ⟨KeepsFrom.refl _ _, ⟨v, hv, by simpa using hrow, rfl, pre, x, rfl, hp, hfx⟩, hB⟩
  | false =>
   rw [hfx] at hcW
   gi_wp2_with (gi_at_builtin; refine wpListIn_append_own _ rfl _ _ 41 rfl (w1.heap.size + 3) 3 i0 (.int .i64 0) 1 8 Tryd.underlying41 hi hz0 hz1 hz2 rfl (by decide) _ _ _ rfl (hrow.alloc _) ⟨W.heap.size, 0, none⟩ 1 1 [.int .i64 x.1] rfl rfl (cell_one_new _ _ _) (by simp [Value.oneCell']) (by simp only [maxLen]; omega) (by omega) (by simp; omega) ?_; intro v' w2 hown' hgrow _; obtain ⟨g', cap', rfl⟩ := ownsRow_succ hown'; obtain ⟨hv1, hv2, hr2, hk2, hb2⟩ := hv.appended (by decide) (ownsRow_mono hrow (by omega)) hB.size (Nat.le_succ _) (ownsRow_mono hown' (by omega)) hgrow; have hc1 := hv1.cell; have hf1 := hv1.frozen)
   exact ⟨hk2.from _, appended_keep3 hrow hgrow hbW (by omega) (by omega) (by omega) (by omega) (by omega) (by omega), (appended_far hrow hgrow (by omega) (by omega) (by omega)).trans hS, ⟨_, hv2, by have := hown'.kept (grownBy_setCell' w2 (w.heap.size + 1) (.slice (some ⟨g', 0, none⟩) (pre.length + 1) cap')) (.inr (hv1.not_row (by decide) hown').symm); simpa using this, fun y hy => (List.mem_append.1 hy).elim (hp y) (fun e => by simp at e; subst e; exact hfx), trivial⟩, by have := hb2.size; omega, hB.trans hb2⟩
 case done =>
  rintro D ys W hD rfl ⟨hS, ⟨v, hv, hrow, hp, _⟩, hbW, hB⟩ hK
  have hv0 := hv.cell
  gi_wp2
  refine ⟨by simp, .inl ⟨_, _, rfl, run_takeDeferred hK, ?_⟩⟩
  have hT := takeW_eq (isF l) (wayI l.length b 1) l.length 0 l.length (Nat.le_refl _) (fun i hi => by rw [Nat.zero_add]; exact hp _ (mem_uptoI (wayS hpos b 1) l.length i hi)) (.inl rfl)
  simp only [Nat.zero_add] at hT
  have e1 : (uptoI (wayS hpos b 1) l.length).map (fun x => Value.int .i64 x.1) = (uptoI (wayI l.length b 1) l.length).map (Value.int .i64) := by simp [uptoI, wayS]
  rw [e1, uptoI_length] at hrow
  refine ⟨_, results_tmp rfl _ _ _, v, rfl, ?_, hB.trans (belowK_b (w := w) (Nat.le_refl _) W D _ _ (by simp at hD; omega) hK rfl rfl)⟩
  rw [hT]
  exact Kd.R_of_own (by rw [uptoI_length]; exact ownsRow_putObj (ownsRow_mono hrow (by omega)) _ hK rfl) (fun _ _ => trivial)
 case stop =>
  rintro D c' pre W hD ⟨k, hk, rfl⟩ ⟨⟨v, hv, hrow, rfl, ini, last, e1, e2, e3⟩, hB⟩ hK
  have hv0 := hv.cell
  gi_wp2
  refine ⟨by simp, .inl ⟨_, _, rfl, run_takeDeferred hK, ?_⟩⟩
  obtain ⟨j, rfl, rfl, rfl⟩ := uptoI_last _ _ _ _ e1
  have hT := takeW_eq (isF l) (wayI l.length b 1) l.length 0 j (by omega) (fun i hi => by rw [Nat.zero_add]; exact e2 _ (mem_uptoI (wayS hpos b 1) j i hi)) (.inr (by rw [Nat.zero_add]; exact e3))
  simp only [Nat.zero_add] at hT
  have e5 : (uptoI (wayS hpos b 1) j).map (fun x => Value.int .i64 x.1) = (uptoI (wayI l.length b 1) j).map (Value.int .i64) := by simp [uptoI, wayS]
  rw [uptoI_succ, List.dropLast_concat, e5, uptoI_length] at hrow
  refine ⟨_, results_tmp rfl _ _ _, v, rfl, ?_, hB.trans (belowK_b (w := w) (Nat.le_refl _) W D _ _ (by simp at hD; omega) hK rfl rfl)⟩
  rw [hT]
  exact Kd.R_of_own (by rw [uptoI_length]; exact ownsRow_putObj (ownsRow_mono hrow (by omega)) _ hK rfl) (fun _ _ => trivial)

def field_Cells.f (a0_0 : Int) (a0_1 : Int) (l0_2 : List (S35)) (a0_3 : Int) (a0_4 : Bool) (a0_5 : Bool) (a1 : Int) : Option (List Int) := if l0_2.length ≤ 16383 then (if 0 ≤ a1 then (if a1 < (l0_2.length : Int) then (some (cellsI l0_2 a1)) else (none)) else (none)) else (none)
theorem field_Cells.calls (a0_0 : Int) (a0_1 : Int) (A0_2 : Option Addr) (c0_2 : Nat) (l0_2 : List (S35)) (a0_3 : Int) (a0_4 : Bool) (a0_5 : Bool) (a1 : Int) (r : List Int) (w : World) (hr0_2 : Kd.C k35 w A0_2 l0_2.length l0_2) (hc0_2 : l0_2.length ≤ c0_2) (h : field_Cells.f a0_0 a0_1 l0_2 a0_3 a0_4 a0_5 a1 = some r) :
  Calls Tryd.prog 50 #[.agg #[.int .i64 a0_0, .int .i64 a0_1, .slice A0_2 l0_2.length c0_2, .int .i64 a0_3, .bool a0_4, .bool a0_5], .int .i64 a1] w fun e w' => ∃ v0_ : Value, e = .returned (v0_) ∧ Kd.R (Kd.int .i64) 3 w' w.heap.size (fun _ => True) v0_ r ∧ Below w.heap.size w w' := by
 obtain ⟨hn, h0, h1, rfl⟩ := guard3 h
 rcases begin_range l0_2 a1 (by omega) with hb | ⟨hb0, hb1, _⟩
 ·exact callsIn_wide.1 (Cells_none a0_0 a0_1 A0_2 c0_2 l0_2 a0_3 a0_4 a0_5 a1 w hr0_2 hc0_2 hn h0 h1 hb)
 ·exact callsIn_wide.1 (Cells_loop a0_0 a0_1 A0_2 c0_2 l0_2 a0_3 a0_4 a0_5 a1 _ w hr0_2 hc0_2 hn h0 h1 rfl hb0 hb1)
end

/-! ### slices_Index_int_int: function 51 -/
def slices_Index_int_int.l0 : Nat → List Int → Int → Int → Int → Option (Int)
 | 0, _, _, _, _ => none
 | k + 1, x0, x1, x7, x8 => if x8 < x7 then (if 0 ≤ x8 then (if x8 < (x0.length : Int) then (if x1 = (rd x0 x8) then (some x8) else (slices_Index_int_int.l0 k x0 x1 x7 (wrap64 (x8 + 1)))) else (none)) else (none)) else (some (-1))
def slices_Index_int_int.f (k : Nat) (l0 : List Int) (a1 : Int) : Option (Int) := slices_Index_int_int.l0 k l0 a1 (l0.length : Int) 0
theorem slices_Index_int_int.mono_l : ∀ k, (∀ y0 y1 y2 y3, LeO (slices_Index_int_int.l0 k y0 y1 y2 y3) (slices_Index_int_int.l0 (k + 1) y0 y1 y2 y3))
 | 0 => fun _ _ _ _ r h => by simp [slices_Index_int_int.l0] at h
 | k + 1 => by
  have ih0 := slices_Index_int_int.mono_l k
  ·intro y0 y1 y2 y3
   unfold slices_Index_int_int.l0
   repeat' first
   | (with_reducible exact ih0 _ _ _ _)
   | (with_reducible exact LeO.refl _)
   | (with_reducible exact LeO.none _)
   | (with_reducible refine LeO.ite ?_ ?_)
   | (with_reducible refine LeO.bind ?_ (fun _ => ?_))
   | exact ih0 _ _ _ _
   | exact LeO.none _
   | refine LeO.ite ?_ ?_
   | refine LeO.bind ?_ (fun _ => ?_)
theorem slices_Index_int_int.mono : ∀ a0 a1 k, LeO (slices_Index_int_int.f k a0 a1) (slices_Index_int_int.f (k + 1) a0 a1) := by
 intro a0 a1 k
 have ih0 := slices_Index_int_int.mono_l k
 unfold slices_Index_int_int.f
 repeat' first
   | (with_reducible exact ih0 _ _ _ _)
   | (with_reducible exact LeO.refl _)
   | (with_reducible exact LeO.none _)
   | (with_reducible refine LeO.ite ?_ ?_)
   | (with_reducible refine LeO.bind ?_ (fun _ => ?_))
   | exact ih0 _ _ _ _
   | exact LeO.none _
   | refine LeO.ite ?_ ?_
   | refine LeO.bind ?_ (fun _ => ?_)
set_option maxHeartbeats 8000000 in
set_option maxRecDepth 100000 in
theorem slices_Index_int_int.calls (k : Nat) (A0 : Option Addr) (c0 : Nat) (l0 : List Int) (a1 : Int) (r : Int) (w : World) (hr0 : Kd.C (Kd.int .i64) w A0 l0.length l0) (hc0 : l0.length ≤ c0) (h : slices_Index_int_int.f k l0 a1 = some r) :
  Calls Tryd.prog 51 #[.slice A0 l0.length c0, .int .i64 a1] w fun e w' => e = .returned (.int .i64 r) ∧ Drawn0 w w' := by
 have HR0 := Aside0.mk hr0
 have HC0 := Aside0.mk hc0
 clear hr0 hc0
 have H : (slices_Index_int_int.l0 k l0 a1 (l0.length : Int) 0) = some r := h
 clear h
 have H' := Aside0.mk H
 clear H
 go_enter Tryd.func51, Tryd.ntmps51
 go_wp2
 go_loopg [8] k (fun kq v8 w' => ∃ (x8_1 : Int), v8 = .int .i64 x8_1 ∧ Aside0 (slices_Index_int_int.l0 kq l0 a1 (l0.length : Int) x8_1 = some r) ∧ Aside0 (kq ≤ k) ∧ Drawn0 w w')
 case atStart => exact ⟨(0), (by first | rfl | (simp; done) | (simp [*]; done)), H', ⟨Nat.le_refl _⟩, by repeat (first | exact Drawn0.refl _ | apply Drawn0.step)⟩
 case round =>
  clear H'
  try clear p2
  obtain ⟨x8_1, rfl, HA, HK1, ⟨m1, rfl⟩⟩ := hrel
  cases gk with
  | zero => exact absurd HA.out (by simp [slices_Index_int_int.l0])
  | succ k1 =>
   have H := HA.out
   clear HA
   simp only [slices_Index_int_int.l0] at H
   by_cases c3 : x8_1 < (l0.length : Int)
   ·rw [if_pos c3] at H
    have c3b0 : decide (x8_1 < (l0.length : Int)) = true := decide_eq_true c3
    clear c3
    by_cases c4 : 0 ≤ x8_1
    ·rw [if_pos c4] at H
     have c4b0 : decide (0 ≤ x8_1) = true := decide_eq_true c4
     clear c4
     by_cases c5 : x8_1 < (l0.length : Int)
     ·rw [if_pos c5] at H
      have c5b0 : decide (x8_1 < (l0.length : Int)) = true := decide_eq_true c5
      clear c5
      by_cases c6 : a1 = (rd l0 x8_1)
      ·rw [if_pos c6] at H
       have c6b0 : (a1 == (rd l0 x8_1)) = true := beq_iff_eq.mpr c6
       have c6b1 : (a1 != (rd l0 x8_1)) = false := bne_eq_false_iff_eq.mpr c6
       clear c6
       obtain rfl := Option.some.inj H
       have p119 : 0 ≤ (x8_1 : Int) := of_decide_eq_true (by first | (with_reducible assumption) | assumption)
       have q119 : x8_1 < (l0.length : Int) := of_decide_eq_true (by first | (with_reducible assumption) | assumption)
       obtain ⟨ad119, e119, hx119_0⟩ := Kd.at_int HR0.out x8_1 p119 q119
       cases e119
       replace p119 := eq_true p119
       replace q119 := eq_true q119
       go_wp2
       go_ret
       exact ⟨by first | rfl | (simp; done) | (simp [*]; done), by repeat (first | exact Drawn0.refl _ | apply Drawn0.step)⟩
      ·rw [if_neg c6] at H
       have c6b0 : (a1 == (rd l0 x8_1)) = false := beq_eq_false_iff_ne.mpr c6
       have c6b1 : (a1 != (rd l0 x8_1)) = true := bne_iff_ne.mpr c6
       have H' := Aside0.mk H
       clear H
       have p119 : 0 ≤ (x8_1 : Int) := of_decide_eq_true (by first | (with_reducible assumption) | assumption)
       have q119 : x8_1 < (l0.length : Int) := of_decide_eq_true (by first | (with_reducible assumption) | assumption)
       obtain ⟨ad119, e119, hx119_0⟩ := Kd.at_int HR0.out x8_1 p119 q119
       cases e119
       replace p119 := eq_true p119
       replace q119 := eq_true q119
       go_wp2
       go_roundg k1
       case measure => have := HK1.out; omega
       case rel => exact ⟨(wrap64 (x8_1 + 1)), (by first | rfl | (simp; done) | (simp [*]; done)), H', ⟨by have := HK1.out; omega⟩, by repeat (first | exact Drawn0.refl _ | apply Drawn0.step)⟩
     ·rw [if_neg c5] at H
      exact absurd H (by simp)
    ·rw [if_neg c4] at H
     exact absurd H (by simp)
   ·rw [if_neg c3] at H
    have c3b0 : decide (x8_1 < (l0.length : Int)) = false := decide_eq_false c3
    clear c3
    obtain rfl := Option.some.inj H
    go_wp2
    go_ret
    exact ⟨by first | rfl | (simp; done) | (simp [*]; done), by repeat (first | exact Drawn0.refl _ | apply Drawn0.step)⟩

/-! ### edit_Line: function 26 -/
def edit_Line.f (k : Nat) (a0_0 : Int) (a0_1 : Int) (l0_2 : List (S35)) (a0_3 : Int) (a0_4 : Bool) (a0_5 : Bool) (a1 : Int) : Option (List Int) := (field_Open.f a0_0 a0_1 l0_2 a0_3 a0_4 a0_5 a1).bind fun t121 => (if t121 = true then ((field_Cells.f a0_0 a0_1 l0_2 a0_3 a0_4 a0_5 a1).bind fun t122 => ((slices_Index_int_int.f k t122 a1).bind fun t125 => (if 0 ≤ t125 then (if t125 ≤ (t122.length : Int) then (some (t122.drop (t125 : Int).toNat)) else (none)) else (none)))) else (some ([] : List Int)))
theorem edit_Line.mono : ∀ a0 a1 a2 a3 a4 a5 a6 k, LeO (edit_Line.f k a0 a1 a2 a3 a4 a5 a6) (edit_Line.f (k + 1) a0 a1 a2 a3 a4 a5 a6) := by
 intro a0 a1 a2 a3 a4 a5 a6 k
 unfold edit_Line.f
 repeat' first
   | (with_reducible exact slices_Index_int_int.mono _ _ _)
   | (with_reducible exact LeO.refl _)
   | (with_reducible exact LeO.none _)
   | (with_reducible refine LeO.ite ?_ ?_)
   | (with_reducible refine LeO.bind ?_ (fun _ => ?_))
   | exact slices_Index_int_int.mono _ _ _
   | exact LeO.none _
   | refine LeO.ite ?_ ?_
   | refine LeO.bind ?_ (fun _ => ?_)
set_option maxHeartbeats 8000000 in
set_option maxRecDepth 100000 in
theorem edit_Line.calls (k : Nat) (a0_0 : Int) (a0_1 : Int) (A0_2 : Option Addr) (c0_2 : Nat) (l0_2 : List (S35)) (a0_3 : Int) (a0_4 : Bool) (a0_5 : Bool) (a1 : Int) (r : List Int) (w : World) (hr0_2 : Kd.C k35 w A0_2 l0_2.length l0_2) (hc0_2 : l0_2.length ≤ c0_2) (h : edit_Line.f k a0_0 a0_1 l0_2 a0_3 a0_4 a0_5 a1 = some r) :
  Calls Tryd.prog 26 #[.agg #[.int .i64 a0_0, .int .i64 a0_1, .slice A0_2 l0_2.length c0_2, .int .i64 a0_3, .bool a0_4, .bool a0_5], .int .i64 a1] w fun e w' => ∃ v0_ : Value, e = .returned (v0_) ∧ Kd.Q (Kd.int .i64) 3 w' w.heap.size (fun _ => True) v0_ r ∧ Below w.heap.size w w' := by
 have hu24 := Tryd.underlying24
 have HR0_2 := Aside0.mk hr0_2
 have HC0_2 := Aside0.mk hc0_2
 clear hr0_2 hc0_2
 have HB := Aside0.mk (Below.refl w.heap.size w)
 have H : ((field_Open.f a0_0 a0_1 l0_2 a0_3 a0_4 a0_5 a1).bind fun t121 => (if t121 = true then ((field_Cells.f a0_0 a0_1 l0_2 a0_3 a0_4 a0_5 a1).bind fun t122 => ((slices_Index_int_int.f k t122 a1).bind fun t125 => (if 0 ≤ t125 then (if t125 ≤ (t122.length : Int) then (some (t122.drop (t125 : Int).toNat)) else (none)) else (none)))) else (some ([] : List Int)))) = some r := h
 clear h
 replace H := Option.bind_eq_some_iff.mp H
 obtain ⟨t121, A30, H⟩ := H
 replace H : (if t121 = true then ((field_Cells.f a0_0 a0_1 l0_2 a0_3 a0_4 a0_5 a1).bind fun t122 => ((slices_Index_int_int.f k t122 a1).bind fun t125 => (if 0 ≤ t125 then (if t125 ≤ (t122.length : Int) then (some (t122.drop (t125 : Int).toNat)) else (none)) else (none)))) else (some ([] : List Int))) = some r := H
 have A3 := Aside0.mk A30
 clear A30
 by_cases c4 : t121 = true
 ·subst c4
  have H1 : ((field_Cells.f a0_0 a0_1 l0_2 a0_3 a0_4 a0_5 a1).bind fun t122 => ((slices_Index_int_int.f k t122 a1).bind fun t125 => (if 0 ≤ t125 then (if t125 ≤ (t122.length : Int) then (some (t122.drop (t125 : Int).toNat)) else (none)) else (none)))) = some r := by rw [if_pos rfl] at H; exact H
  clear H
  have H := H1
  clear H1
  replace H := Option.bind_eq_some_iff.mp H
  obtain ⟨t122, A50, H⟩ := H
  replace H : ((slices_Index_int_int.f k t122 a1).bind fun t125 => (if 0 ≤ t125 then (if t125 ≤ (t122.length : Int) then (some (t122.drop (t125 : Int).toNat)) else (none)) else (none))) = some r := H
  have A5 := Aside0.mk A50
  clear A50
  replace H := Option.bind_eq_some_iff.mp H
  obtain ⟨t125, A60, H⟩ := H
  replace H : (if 0 ≤ t125 then (if t125 ≤ (t122.length : Int) then (some (t122.drop (t125 : Int).toNat)) else (none)) else (none)) = some r := H
  have A6 := Aside0.mk A60
  clear A60
  by_cases c7 : 0 ≤ t125
  ·rw [if_pos c7] at H
   have c7b0 := eq_true c7
   have c7b1 : decide (0 ≤ t125) = true := decide_eq_true c7
   clear c7
   by_cases c8 : t125 ≤ (t122.length : Int)
   ·rw [if_pos c8] at H
    have c8b0 := eq_true c8
    have c8b1 : decide (t125 ≤ (t122.length : Int)) = true := decide_eq_true c8
    clear c8
    obtain ⟨y126, hy126⟩ : ∃ y_ : List Int, y_ = (t122.drop (t125 : Int).toNat) := ⟨_, rfl⟩
    replace H : (some y126) = some r := by first | (rw [hy126]; with_reducible exact H) | (have H2_ := (Option.bind_some _ _).symm.trans H; rw [hy126]; with_reducible exact H2_) | (have H2_ := (Option.bind_some _ _).symm.trans H; with_reducible exact H2_) | with_reducible exact H | (rw [hy126]; exact H) | exact H
    have Ny126 := Aside0.mk hy126
    clear hy126
    obtain rfl := Option.some.inj H
    go_enter Tryd.func26, Tryd.ntmps26
    go_wp2_with (first | ((with_reducible refine gate_dst (N := 2) rfl ?_); refine box_event ?hg (N := 2) ?hd (cs := #[.int .i64 a0_0, .int .i64 a0_1, .slice A0_2 l0_2.length c0_2, .int .i64 a0_3, .bool a0_4, .bool a0_5]) (t := 24) ?hr ?_; (case hd => rfl); (case hg => rfl); (case hr => first | (go_simp; done) | (go_simp; rfl)); intro gb120 hg w9 hbox hb; have n0_ := Aside0.mk (below_step bl_ hb); have n1_ := Aside0.mk (hbox); have n2_ := Aside0.mk ((le_new hg (below_size bl_) : w.heap.size ≤ gb120)); have n3_ := Aside0.mk ((le_new hg (below_size bl_) : w.heap.size ≤ gb120)); clear HB; have HB := n0_; have BK120 := n1_; have GW120 := n2_; have GE120 := n3_; clear n0_ n1_ n2_ n3_; clear hb hbox hg; obtain ⟨hcz10_0, hcz10_1, hcz10_2, hcz10_3, hcz10_4, hcz10_5, hfz10_0, hfz10_1, hfz10_2, hfz10_3, hfz10_4, hfz10_5⟩ := cells6 (show w9.heap[gb120]? = some (.cells #[.int .i64 a0_0, .int .i64 a0_1, .slice A0_2 l0_2.length c0_2, .int .i64 a0_3, .bool a0_4, .bool a0_5] _ (0, 0)) from BK120.out)) | ((with_reducible refine gate_callee (f := 44) rfl ?_); refine goesL_ (some 8) rfl rfl Tryd.func44 (by kernel_rfl) rfl #[.agg #[.int .i64 a0_0, .int .i64 a0_1, .slice A0_2 l0_2.length c0_2, .int .i64 a0_3, .bool a0_4, .bool a0_5], .int .i64 a1] rfl ag_ ?_; (with_reducible refine (field_Open.calls a0_0 a0_1 _ _ l0_2 a0_3 a0_4 a0_5 a1 true _ ?side1 ?side2 A3.out).mono ?_); (case side1 => repeat (first | exact (Kd.C_below HR0_2.out HB.out) | (with_reducible apply pC))); (case side2 => exact HC0_2.out); rintro e w11 ⟨rfl, hb⟩; refine ⟨_, rfl, ?_⟩; have n0_ := Aside0.mk (blk_below (g := gb120) (o := .cells #[.int .i64 a0_0, .int .i64 a0_1, .slice A0_2 l0_2.length c0_2, .int .i64 a0_3, .bool a0_4, .bool a0_5] 24 (0, 0)) (by (with_reducible repeat apply pK); exact BK120.out) hb); have n1_ := Aside0.mk (below_step bl_ hb); clear BK120; clear HB; have BK120 := n0_; have HB := n1_; clear n0_ n1_; (try clear hb); (try clear hb2); (try clear hk); (try clear hi); obtain ⟨hcz12_0, hcz12_1, hcz12_2, hcz12_3, hcz12_4, hcz12_5, hfz12_0, hfz12_1, hfz12_2, hfz12_3, hfz12_4, hfz12_5⟩ := cells6 (show w11.heap[gb120]? = some (.cells #[.int .i64 a0_0, .int .i64 a0_1, .slice A0_2 l0_2.length c0_2, .int .i64 a0_3, .bool a0_4, .bool a0_5] _ (0, 0)) from BK120.out)) | ((with_reducible refine gate_callee (f := 50) rfl ?_); refine goesL_ (some 12) rfl rfl Tryd.func50 (by kernel_rfl) rfl #[.agg #[.int .i64 a0_0, .int .i64 a0_1, .slice A0_2 l0_2.length c0_2, .int .i64 a0_3, .bool a0_4, .bool a0_5], .int .i64 a1] rfl ag_ ?_; (with_reducible refine (field_Cells.calls a0_0 a0_1 _ _ l0_2 a0_3 a0_4 a0_5 a1 t122 _ ?side1 ?side2 A5.out).mono ?_); (case side1 => repeat (first | exact (Kd.C_below HR0_2.out HB.out) | (with_reducible apply pC))); (case side2 => exact HC0_2.out); rintro e w13 ⟨v123, rfl, ho0, hb⟩; refine ⟨_, rfl, ?_⟩; have n0_ := Aside0.mk (Kd.R_lower ho0 (below_size bl_)); have n1_ := Aside0.mk (blk_below (g := gb120) (o := .cells #[.int .i64 a0_0, .int .i64 a0_1, .slice A0_2 l0_2.length c0_2, .int .i64 a0_3, .bool a0_4, .bool a0_5] 24 (0, 0)) (by (with_reducible repeat apply pK); exact BK120.out) hb); have n2_ := Aside0.mk (below_step bl_ hb); clear BK120; clear HB; have HO124 := n0_; have BK120 := n1_; have HB := n2_; clear n0_ n1_ n2_; (try clear hb); (try clear hb2); (try clear hk); (try clear hi); (try clear ho0); obtain ⟨Ao14, co14, eo14⟩ := Kd.R_slice HO124.out; subst eo14) | ((with_reducible refine gate_callee (f := 51) rfl ?_); refine goesL_ (some 16) rfl rfl Tryd.func51 (by kernel_rfl) rfl #[.slice Ao14 t122.length co14, .int .i64 a1] rfl ag_ ?_; (with_reducible refine (slices_Index_int_int.calls k _ _ t122 a1 t125 _ ?side1 ?side2 A6.out).mono ?_); (case side1 => repeat (first | exact (Kd.R_reads' HO124.out).2.2 | (with_reducible apply pC))); (case side2 => exact (Kd.R_reads' HO124.out).2.1); rintro e w' ⟨rfl, ⟨nd, rfl⟩⟩; refine ⟨_, rfl, ?_⟩; have q15 : (t125 : Int) ≤ ((t122.length : Int) : Int) := of_decide_eq_true (by first | (with_reducible assumption) | assumption); obtain ⟨i015, hi015, _, hsz15, _⟩ := info_parts info3; have hcut15 := cut_from (P := Tryd.prog) 41 3 .i64 Tryd.underlying41 hi015 1 hsz15 Ao14 t122.length co14 t125 (of_decide_eq_true (by first | (with_reducible assumption) | assumption)) q15; have hr15 := Kd.Q_drop (k := (t125 : Int).toNat) (Kd.Q_of_R HO124.out) (by omega); obtain ⟨A15, hA15⟩ : ∃ A1, A1 = (if co14 = (t125 : Int).toNat then Ao14 else (Ao14 : Option Addr).map (·.add ((t125 : Int).toNat * 1))) := ⟨_, rfl⟩; obtain ⟨c15, hc15⟩ : ∃ c1, c1 = co14 - (t125 : Int).toNat := ⟨_, rfl⟩; have hy15 : y126.length = t122.length - (t125 : Int).toNat := (by rw [Ny126.out, List.length_drop]); rw [← Ny126.out] at hr15; rw [← hy15, ← hA15, ← hc15] at hcut15; replace hr15 : Kd.Q (Kd.int .i64) 3 w13 w.heap.size (fun _ => True) (.slice A15 y126.length c15) y126 := (by rw [hA15, hc15, hy15]; exact hr15); have HE15 : Aside0 ((Value.slice A15 y126.length c15).ownBlock = (.slice Ao14 t122.length co14 : Value).ownBlock) := ⟨by rw [hA15]; split <;> (cases (Ao14 : Option Addr) <;> first | rfl | (simp [Value.ownBlock, add_block]; done))⟩; clear hy15 hi015 hsz15 HO124 hA15 hc15; have HO128 := Aside0.mk hr15; clear hr15; replace q15 := eq_true q15))
    go_ret
    exact ⟨_, by first | rfl | (simp [errW_none, errW_some] <;> rfl) | (simp [*, errW_none, errW_some] <;> rfl), by (with_reducible repeat (first | apply Kd.Q_alloc | apply Kd.Q_drewN | apply Kd.Q_drew)); exact HO128.out, bl_⟩
   ·rw [if_neg c8] at H
    exact absurd H (by simp)
  ·rw [if_neg c7] at H
   exact absurd H (by simp)
 ·replace c4 := Bool.eq_false_iff.mpr c4
  subst c4
  have H1 : (some ([] : List Int)) = some r := by rw [if_neg (show ¬ (false = true) by decide)] at H; exact H
  clear H
  have H := H1
  clear H1
  obtain rfl := Option.some.inj H
  go_enter Tryd.func26, Tryd.ntmps26
  go_wp2_with (first | ((with_reducible refine gate_dst (N := 2) rfl ?_); refine box_event ?hg (N := 2) ?hd (cs := #[.int .i64 a0_0, .int .i64 a0_1, .slice A0_2 l0_2.length c0_2, .int .i64 a0_3, .bool a0_4, .bool a0_5]) (t := 24) ?hr ?_; (case hd => rfl); (case hg => rfl); (case hr => first | (go_simp; done) | (go_simp; rfl)); intro gb120 hg w16 hbox hb; have n0_ := Aside0.mk (below_step bl_ hb); have n1_ := Aside0.mk (hbox); have n2_ := Aside0.mk ((le_new hg (below_size bl_) : w.heap.size ≤ gb120)); have n3_ := Aside0.mk ((le_new hg (below_size bl_) : w.heap.size ≤ gb120)); clear HB; have HB := n0_; have BK120 := n1_; have GW120 := n2_; have GE120 := n3_; clear n0_ n1_ n2_ n3_; clear hb hbox hg; obtain ⟨hcz17_0, hcz17_1, hcz17_2, hcz17_3, hcz17_4, hcz17_5, hfz17_0, hfz17_1, hfz17_2, hfz17_3, hfz17_4, hfz17_5⟩ := cells6 (show w16.heap[gb120]? = some (.cells #[.int .i64 a0_0, .int .i64 a0_1, .slice A0_2 l0_2.length c0_2, .int .i64 a0_3, .bool a0_4, .bool a0_5] _ (0, 0)) from BK120.out)) | ((with_reducible refine gate_callee (f := 44) rfl ?_); refine goesL_ (some 8) rfl rfl Tryd.func44 (by kernel_rfl) rfl #[.agg #[.int .i64 a0_0, .int .i64 a0_1, .slice A0_2 l0_2.length c0_2, .int .i64 a0_3, .bool a0_4, .bool a0_5], .int .i64 a1] rfl ag_ ?_; (with_reducible refine (field_Open.calls a0_0 a0_1 _ _ l0_2 a0_3 a0_4 a0_5 a1 false _ ?side1 ?side2 A3.out).mono ?_); (case side1 => repeat (first | exact (Kd.C_below HR0_2.out HB.out) | (with_reducible apply pC))); (case side2 => exact HC0_2.out); rintro e w18 ⟨rfl, hb⟩; refine ⟨_, rfl, ?_⟩; have n0_ := Aside0.mk (blk_below (g := gb120) (o := .cells #[.int .i64 a0_0, .int .i64 a0_1, .slice A0_2 l0_2.length c0_2, .int .i64 a0_3, .bool a0_4, .bool a0_5] 24 (0, 0)) (by (with_reducible repeat apply pK); exact BK120.out) hb); have n1_ := Aside0.mk (below_step bl_ hb); clear BK120; clear HB; have BK120 := n0_; have HB := n1_; clear n0_ n1_; (try clear hb); (try clear hb2); (try clear hk); (try clear hi)))
  go_ret
  exact ⟨_, by first | rfl | (simp [errW_none, errW_some] <;> rfl) | (simp [*, errW_none, errW_some] <;> rfl), Kd.Q_of_R (by first | exact Kd.R_nil _ _ _ _ _ | exact Kd.N_nil _ _ _ _ _ | exact Kd.V_nil _ _ _ _ _ | exact Kd.Q_nil _ _ _ _ _ | exact Kd.S_nil _ _ _ _ _), bl_⟩

/-! ### slices_Clone_shutter_api_Cell_shutter_api_Cell: function 82 -/
section
/-- slices.Clone of cells: a nil row stays one, any other is made anew. -/
def slices_Clone_shutter_api_Cell_shutter_api_Cell.f (l : List S35) : Option (List S35) := if l.length ≤ 16383 then some l else none
set_option maxRecDepth 100000 in
set_option maxHeartbeats 4000000 in
theorem slices_Clone_shutter_api_Cell_shutter_api_Cell.calls (A0 : Option Addr) (c0 : Nat) (l0 : List (S35)) (r : List (S35)) (w : World) (hr0 : Kd.C k35 w A0 l0.length l0) (hc0 : l0.length ≤ c0) (h : slices_Clone_shutter_api_Cell_shutter_api_Cell.f l0 = some r) :
  Calls Tryd.prog 82 #[.slice A0 l0.length c0] w fun e w' => ∃ v0_ : Value, e = .returned (v0_) ∧ Kd.R k35 35 w' w.heap.size (fun _ => True) v0_ r ∧ Below w.heap.size w w' := by
 unfold slices_Clone_shutter_api_Cell_shutter_api_Cell.f at h
 by_cases hn : l0.length ≤ 16383
 ·rw [if_pos hn] at h
  obtain rfl := Option.some.inj h
  have HR := Aside0.mk hr0
  clear h hr0
  rcases A0 with _ | ad
  ·have hl : l0 = [] := by
    rcases Nat.eq_zero_or_pos l0.length with h0 | h0
    ·exact List.eq_nil_of_length_eq_zero h0
    ·obtain ⟨ad, h, _⟩ := HR.out.2.2 h0
     cases h
   subst hl
   have hE := fun (w : World) => Lib.run_eql_slice_nil (P := Tryd.prog) w 22 35 none 0 c0 0 0 Tryd.underlying22
   rw [List.length_nil]
   go_enter Tryd.func82, Tryd.ntmps82
   go_wp2
   go_ret
   exact ⟨_, rfl, Kd.R_nil _ _ _ _ _, Below.refl _ _⟩
  ·have HB := Aside0.mk (Below.refl w.heap.size w)
   have hE := fun (w : World) => Lib.run_eql_slice_nil (P := Tryd.prog) w 22 35 (some ad) l0.length c0 0 0 Tryd.underlying22
   go_enter Tryd.func82, Tryd.ntmps82
   go_wp2_with (first
    | ((with_reducible refine gate_dst (N := 5) rfl ?_); refine Kd.R_lit k35 w.heap.size 35 ?hg (N := 5) ?hd (xs := ([] : List (S35))) (inner := []) (ok := fun _ => True) (okp := fun _ => True) ?hr ?hp (fun _ hk => hk) trivial (Below.refl _ _) (Nat.le_refl _) (by simp) ?_; (case hd => rfl); (case hg => rfl); (case hr => first | (go_simp; done) | (go_simp; rfl)); (case hp => exact (Reps.none _ _)); intro v1 w1 ho hb hg_ hnew_; clear hg_ hnew_; have HO := Aside0.mk ho; have hB := Aside0.mk hb; clear ho hb HB; have HB := hB; clear hB)
    | ((with_reducible refine gate_builtin (b := .append) (xs := #[.tmp 5, .tmp 6]) rfl ?_); at_builtin; refine Kd.R_append_rows k35 (w0 := w) w.heap.size rfl (.tmp 5) (.tmp 6) 22 35 (.agg #[(.bool false), (.bool false), (.bool false), (.int .i64 0), (.bool false), (.int .u8 0)]) 40 rfl Tryd.underlying22 info35 rfl (by decide) (by omega) v1 ([] : List S35) l0 _ _ _ (fun _ => True) (fun _ => False) rfl rfl ?aO ?aR (fun _ _ h => h) (fun _ h => h.elim) ?aF ?aB ?aS ?aL ?_; (case aR => repeat (first | exact (Kd.C_below HR.out HB.out) | (with_reducible apply pC))); (case aB => exact bl_); (case aF => exact (fun _ _ => trivial)); (case aO => exact (by (with_reducible repeat apply pR); exact HO.out)); (case aS => exact (below_size bl_)); (case aL => simp only [List.length_nil]; omega); intro v2 w2 ho2 hb2 hg2 hat2; clear hg2 hat2; have HO2 := Aside0.mk ho2; have HB2 := Aside0.mk hb2; clear ho2 hb2))
   go_ret
   exact ⟨_, rfl, by have := HO2.out; rwa [List.nil_append] at this, HB2.out⟩
 ·rw [if_neg hn] at h
  cases h
end

/-! ### grid_Copy: function 61 -/
def grid_Copy.f (a0_0 : Int) (a0_1 : Int) (l0_2 : List (S35)) (a0_3 : Int) (a0_4 : Bool) (a0_5 : Bool) : Option (Int × Int × (List (S35)) × Int × Bool × Bool) := (slices_Clone_shutter_api_Cell_shutter_api_Cell.f l0_2).bind fun t131 => (some (a0_0, a0_1, t131, a0_3, a0_4, a0_5))
set_option maxHeartbeats 8000000 in
set_option maxRecDepth 100000 in
theorem grid_Copy.calls (a0_0 : Int) (a0_1 : Int) (A0_2 : Option Addr) (c0_2 : Nat) (l0_2 : List (S35)) (a0_3 : Int) (a0_4 : Bool) (a0_5 : Bool) (r1 : Int) (r2 : Int) (r3 : List (S35)) (r4 : Int) (r5 : Bool) (r6 : Bool) (w : World) (hr0_2 : Kd.C k35 w A0_2 l0_2.length l0_2) (hc0_2 : l0_2.length ≤ c0_2) (h : grid_Copy.f a0_0 a0_1 l0_2 a0_3 a0_4 a0_5 = some (r1, r2, r3, r4, r5, r6)) :
  Calls Tryd.prog 61 #[.agg #[.int .i64 a0_0, .int .i64 a0_1, .slice A0_2 l0_2.length c0_2, .int .i64 a0_3, .bool a0_4, .bool a0_5]] w fun e w' => ∃ v2_ : Value, e = .returned (.agg #[.int .i64 r1, .int .i64 r2, v2_, .int .i64 r4, .bool r5, .bool r6]) ∧ Kd.R k35 35 w' w.heap.size (fun _ => True) v2_ r3 ∧ Below w.heap.size w w' := by
 have hu24 := Tryd.underlying24
 have HR0_2 := Aside0.mk hr0_2
 have HC0_2 := Aside0.mk hc0_2
 clear hr0_2 hc0_2
 have HB := Aside0.mk (Below.refl w.heap.size w)
 have H : ((slices_Clone_shutter_api_Cell_shutter_api_Cell.f l0_2).bind fun t131 => (some (a0_0, a0_1, t131, a0_3, a0_4, a0_5))) = some (r1, r2, r3, r4, r5, r6) := h
 clear h
 replace H := Option.bind_eq_some_iff.mp H
 obtain ⟨t131, A20, H⟩ := H
 replace H : (some (a0_0, a0_1, t131, a0_3, a0_4, a0_5)) = some (r1, r2, r3, r4, r5, r6) := H
 have A2 := Aside0.mk A20
 clear A20
 simp only [Option.some.injEq, Prod.mk.injEq] at H
 obtain ⟨rfl, rfl, rfl, rfl, rfl, rfl⟩ := H
 go_enter Tryd.func61, Tryd.ntmps61
 go_wp2_with (first | ((with_reducible refine gate_dst (N := 1) rfl ?_); refine box_event ?hg (N := 1) ?hd (cs := #[.int .i64 a0_0, .int .i64 a0_1, .slice A0_2 l0_2.length c0_2, .int .i64 a0_3, .bool a0_4, .bool a0_5]) (t := 24) ?hr ?_; (case hd => rfl); (case hg => rfl); (case hr => first | (go_simp; done) | (go_simp; rfl)); intro gb129 hg w3 hbox hb; have n0_ := Aside0.mk (below_step bl_ hb); have n1_ := Aside0.mk (hbox); have n2_ := Aside0.mk ((le_new hg (below_size bl_) : w.heap.size ≤ gb129)); have n3_ := Aside0.mk ((le_new hg (below_size bl_) : w.heap.size ≤ gb129)); clear HB; have HB := n0_; have BK129 := n1_; have GW129 := n2_; have GE129 := n3_; clear n0_ n1_ n2_ n3_; clear hb hbox hg) | ((with_reducible refine gate_dst (N := 2) rfl ?_); refine box_event ?hg (N := 2) ?hd (cs := #[.int .i64 0, .int .i64 0, .slice none 0 0, .int .i64 0, .bool false, .bool false]) (t := 24) ?hr ?_; (case hd => rfl); (case hg => rfl); (case hr => first | (go_simp; done) | (go_simp; rfl)); intro gb130 hg w4 hbox hb; have n0_ := Aside0.mk (blk_below (g := gb129) (o := .cells #[.int .i64 a0_0, .int .i64 a0_1, .slice A0_2 l0_2.length c0_2, .int .i64 a0_3, .bool a0_4, .bool a0_5] 24 (0, 0)) (by (with_reducible repeat apply pK); exact BK129.out) hb); have n1_ := Aside0.mk (below_step bl_ hb); have n2_ := Aside0.mk (hbox); have n3_ := Aside0.mk ((le_new hg (below_size bl_) : w.heap.size ≤ gb130)); have n4_ := Aside0.mk ((le_new hg (below_size bl_) : w.heap.size ≤ gb130)); have n5_ := Aside0.mk ((by rw [hg]; exact Nat.ne_of_lt (blk_lt (g := gb129) (o := .cells #[.int .i64 a0_0, .int .i64 a0_1, .slice A0_2 l0_2.length c0_2, .int .i64 a0_3, .bool a0_4, .bool a0_5] 24 (0, 0)) (by (with_reducible repeat apply pK); exact BK129.out)) : gb129 ≠ gb130)); have n6_ := Aside0.mk ((by rw [hg]; exact Nat.ne_of_gt (blk_lt (g := gb129) (o := .cells #[.int .i64 a0_0, .int .i64 a0_1, .slice A0_2 l0_2.length c0_2, .int .i64 a0_3, .bool a0_4, .bool a0_5] 24 (0, 0)) (by (with_reducible repeat apply pK); exact BK129.out)) : gb130 ≠ gb129)); clear BK129; clear HB; have BK129 := n0_; have HB := n1_; have BK130 := n2_; have GW130 := n3_; have GE130 := n4_; have NB129_130 := n5_; have NB130_129 := n6_; clear n0_ n1_ n2_ n3_ n4_ n5_ n6_; clear hb hbox hg; have hnb5 := NB129_130.out; have hnc5 := NB130_129.out; obtain ⟨hcz6_0, hcz6_1, hcz6_2, hcz6_3, hcz6_4, hcz6_5, hfz6_0, hfz6_1, hfz6_2, hfz6_3, hfz6_4, hfz6_5⟩ := cells6 (show w4.heap[gb129]? = some (.cells #[.int .i64 a0_0, .int .i64 a0_1, .slice A0_2 l0_2.length c0_2, .int .i64 a0_3, .bool a0_4, .bool a0_5] _ (0, 0)) from BK129.out)) | ((with_reducible refine gate_callee (f := 82) rfl ?_); refine goesL_ (some 5) rfl rfl Tryd.func82 (by kernel_rfl) rfl #[.slice A0_2 l0_2.length c0_2] rfl ag_ ?_; (with_reducible refine (slices_Clone_shutter_api_Cell_shutter_api_Cell.calls _ _ l0_2 t131 _ ?side1 ?side2 A2.out).mono ?_); (case side1 => repeat (first | exact (Kd.C_below HR0_2.out HB.out) | (with_reducible apply pC))); (case side2 => exact HC0_2.out); rintro e w7 ⟨v132, rfl, ho0, hb⟩; refine ⟨_, rfl, ?_⟩; have n0_ := Aside0.mk (Kd.R_lower ho0 (below_size bl_)); have n1_ := Aside0.mk (blk_below (g := gb129) (o := .cells #[.int .i64 a0_0, .int .i64 a0_1, .slice A0_2 l0_2.length c0_2, .int .i64 a0_3, .bool a0_4, .bool a0_5] 24 (0, 0)) (by (with_reducible repeat apply pK); exact BK129.out) hb); have n2_ := Aside0.mk (blk_below (g := gb130) (o := .cells #[.int .i64 0, .int .i64 0, .slice none 0 0, .int .i64 0, .bool false, .bool false] 24 (0, 0)) (by (with_reducible repeat apply pK); exact BK130.out) hb); have n3_ := Aside0.mk (below_step bl_ hb); clear BK129; clear BK130; clear HB; have HO133 := n0_; have BK129 := n1_; have BK130 := n2_; have HB := n3_; clear n0_ n1_ n2_ n3_; (try clear hb); (try clear hb2); (try clear hk); (try clear hi); (try clear ho0); obtain ⟨Ao8, co8, eo8⟩ := Kd.R_slice HO133.out; subst eo8; obtain ⟨hcz9_0, hcz9_1, hcz9_2, hcz9_3, hcz9_4, hcz9_5, hfz9_0, hfz9_1, hfz9_2, hfz9_3, hfz9_4, hfz9_5⟩ := cells6 (show w7.heap[gb129]? = some (.cells #[.int .i64 a0_0, .int .i64 a0_1, .slice A0_2 l0_2.length c0_2, .int .i64 a0_3, .bool a0_4, .bool a0_5] _ (0, 0)) from BK129.out); obtain ⟨hcz10_0, hcz10_1, hcz10_2, hcz10_3, hcz10_4, hcz10_5, hfz10_0, hfz10_1, hfz10_2, hfz10_3, hfz10_4, hfz10_5⟩ := cells6 (show w7.heap[gb130]? = some (.cells #[.int .i64 0, .int .i64 0, .slice none 0 0, .int .i64 0, .bool false, .bool false] _ (0, 0)) from BK130.out)))
 refine bodyPost_ret (results_cell_row rfl _ _ gb130 24 #[.int .i64 a0_0, .int .i64 a0_1, .slice Ao8 t131.length co8, .int .i64 a0_3, .bool a0_4, .bool a0_5] (0, 0) _ rfl (by (with_reducible repeat apply pK); refine blk_put (cs := #[.int .i64 a0_0, .int .i64 a0_1, .slice Ao8 t131.length co8, .int .i64 a0_3, .bool a0_4, .bool false]) ?_ 5 _ rfl; (with_reducible repeat apply pK); refine blk_put (cs := #[.int .i64 a0_0, .int .i64 a0_1, .slice Ao8 t131.length co8, .int .i64 a0_3, .bool false, .bool false]) ?_ 4 _ rfl; (with_reducible repeat apply pK); refine blk_put (cs := #[.int .i64 a0_0, .int .i64 a0_1, .slice Ao8 t131.length co8, .int .i64 0, .bool false, .bool false]) ?_ 3 _ rfl; (with_reducible repeat apply pK); refine blk_put (cs := #[.int .i64 a0_0, .int .i64 a0_1, .slice none 0 0, .int .i64 0, .bool false, .bool false]) ?_ 2 _ rfl; (with_reducible repeat apply pK); refine blk_put (cs := #[.int .i64 a0_0, .int .i64 0, .slice none 0 0, .int .i64 0, .bool false, .bool false]) ?_ 1 _ rfl; (with_reducible repeat apply pK); refine blk_put (cs := #[.int .i64 0, .int .i64 0, .slice none 0 0, .int .i64 0, .bool false, .bool false]) ?_ 0 _ rfl; (with_reducible repeat apply pK); refine blk_far ?_ NB130_129.out _; (with_reducible repeat apply pK); exact BK130.out) Tryd.underlying24 rfl (by kernel_rfl)) rfl ?_
 exact ⟨_, by first | rfl | (simp [errW_none, errW_some] <;> rfl) | (simp [*, errW_none, errW_some] <;> rfl), by (with_reducible repeat apply pR); exact Kd.R_mono (Kd.R_far (p := ⟨gb130, 5, none⟩) (Kd.R_far (p := ⟨gb130, 4, none⟩) (Kd.R_far (p := ⟨gb130, 3, none⟩) (Kd.R_far (p := ⟨gb130, 2, none⟩) (Kd.R_far (p := ⟨gb130, 1, none⟩) (Kd.R_far (p := ⟨gb130, 0, none⟩) (Kd.R_far (p := ⟨gb129, 2, none⟩) (Kd.R_types (Kd.R_types HO133.out BK129.out (by decide)) BK130.out (by decide)) (fun _ hk => hk.1.2) (.slice Ao8 t131.length co8)) (fun _ hk => hk.2) (.int .i64 a0_0)) (fun _ hk => hk.2) (.int .i64 a0_1)) (fun _ hk => hk.2) (.slice Ao8 t131.length co8)) (fun _ hk => hk.2) (.int .i64 a0_3)) (fun _ hk => hk.2) (.bool a0_4)) (fun _ hk => hk.2) (.bool a0_5)) (fun _ hk => trivial), bl_⟩

/-! ### edit_Deny: function 34 -/
section
theorem own_lt_ {α : Type} {d : Kd α} {e base k : Nat} {ok : Nat → Prop} {v : Value} {xs : List α} {w : World} (h : Kd.R d e w base ok v xs) (hk : some k = v.ownBlock) : k < w.heap.size := own_lt h.2.choose_spec.1 k hk.symm
theorem set_far_ {w w0 : World} {g i k : Nat} {u : Value} (hk : k ≠ g) (h : w.heap[k]? = w0.heap[k]?) : (w.setCell ⟨g, i, none⟩ u).heap[k]? = w0.heap[k]? := (Below.heap_setCell _ _ _ k hk).trans h
theorem off2_ {P : Prop} (h : P := by intro k hk; (with_reducible repeat refine set_far_ hk ?_); with_reducible rfl) : P := h
/-- edit.Deny: the screen, locked; the error is a spot at the cursor. -/
def edit_Deny.f (a0_0 : Int) (a0_1 : Int) (l0_2 : List (S35)) (a0_3 : Int) (a0_4 : Bool) (a0_5 : Bool) (a1_0 : Option Er) (l1_1 : List S164) : Option (Int × Int × (List (S35)) × Int × Bool × Bool × Option Er × List S164) :=
 if l0_2.length ≤ 16383 then (match a1_0 with | some (.num n) => some (a0_0, a0_1, l0_2, a0_3, true, a0_5, some Er.spot, [⟨a0_3, n⟩]) | _ => none) else none
set_option maxHeartbeats 8000000 in
set_option maxRecDepth 100000 in
theorem edit_Deny.calls (a0_0 : Int) (a0_1 : Int) (A0_2 : Option Addr) (c0_2 : Nat) (l0_2 : List (S35)) (a0_3 : Int) (a0_4 : Bool) (a0_5 : Bool) (a1_0 : Option Er) (A1_1 : Option Addr) (c1_1 : Nat) (l1_1 : List S164) (r1 : Int) (r2 : Int) (r3 : List (S35)) (r4 : Int) (r5 : Bool) (r6 : Bool) (r7 : Option Er) (r8 : List S164) (w : World) (hr0_2 : Kd.C k35 w A0_2 l0_2.length l0_2) (hc0_2 : l0_2.length ≤ c0_2) (hr1_1 : Kd.C k164 w A1_1 l1_1.length l1_1) (hc1_1 : l1_1.length ≤ c1_1) (h : edit_Deny.f a0_0 a0_1 l0_2 a0_3 a0_4 a0_5 a1_0 l1_1 = some (r1, r2, r3, r4, r5, r6, r7, r8)) :
  Calls Tryd.prog 34 #[.agg #[.int .i64 a0_0, .int .i64 a0_1, .slice A0_2 l0_2.length c0_2, .int .i64 a0_3, .bool a0_4, .bool a0_5], errW (.slice A1_1 l1_1.length c1_1) a1_0] w fun e w' => ∃ v2_ v7_ : Value, e = .returned (.tuple #[.agg #[.int .i64 r1, .int .i64 r2, v2_, .int .i64 r4, .bool r5, .bool r6], errW v7_ r7]) ∧ Kd.R k35 35 w' w.heap.size (fun k_ => (w.heap.size ≤ k_)) v2_ r3 ∧ Kd.V k164 164 w' w.heap.size (fun k_ => (w.heap.size ≤ k_) ∧ some k_ ≠ (v2_ : Value).ownBlock) v7_ r8 ∧ Below w.heap.size w w' := by
 unfold edit_Deny.f at h
 by_cases hn : l0_2.length ≤ 16383
 ·rw [if_pos hn] at h
  rcases a1_0 with _ | q
  ·cases h
  ·cases q with
   | spot => cases h
   | num n =>
    simp only [Option.some.injEq, Prod.mk.injEq] at h
    obtain ⟨rfl, rfl, rfl, rfl, rfl, rfl, rfl, rfl⟩ := h
    rw [errW_some, show (Er.num n).ty = ERNT from rfl, show (Er.num n).pay _ = .int .i64 n from rfl]
    have HR := Aside0.mk hr0_2
    have HL := Aside0.mk hc0_2
    have HC := Aside0.mk (show grid_Copy.f a0_0 a0_1 l0_2 a0_3 a0_4 a0_5 = some (a0_0, a0_1, l0_2, a0_3, a0_4, a0_5) by unfold grid_Copy.f slices_Clone_shutter_api_Cell_shutter_api_Cell.f; rw [if_pos hn]; rfl)
    have HB := Aside0.mk (Below.refl w.heap.size w)
    have hu := Tryd.underlying24
    have hu2 := Tryd.underlying79
    have hu3 := Tryd.underlying28
    clear hr0_2 hc0_2 hr1_1 hc1_1
    go_enter Tryd.func34, Tryd.ntmps34
    go_wp2_with (first
     | ((with_reducible refine gate_dst (N := 2) rfl ?_); refine box_event ?hg (N := 2) ?hd (cs := #[.int .i64 a0_0, .int .i64 a0_1, .slice A0_2 l0_2.length c0_2, .int .i64 a0_3, .bool a0_4, .bool a0_5]) (t := 24) ?hr ?_; (case hd => rfl); (case hg => rfl); (case hr => first | (go_simp; done) | (go_simp; rfl)); intro g1 hg w1 hbox hb; have n0_ := Aside0.mk (below_step bl_ hb); have n1_ := Aside0.mk hbox; have n2_ := Aside0.mk (le_new hg (below_size bl_) : w.heap.size ≤ g1); clear HB; have HB := n0_; have BK1 := n1_; have GE1 := n2_; clear n0_ n1_ n2_ hb hbox hg)
     | ((with_reducible refine gate_dst (N := 4) rfl ?_); refine box_event ?hg (N := 4) ?hd (cs := #[.int .i64 0, .int .i64 0, .slice none 0 0, .int .i64 0, .bool false, .bool false]) (t := 24) ?hr ?_; (case hd => rfl); (case hg => rfl); (case hr => first | (go_simp; done) | (go_simp; rfl)); intro g2 hg w2 hbox hb; have n0_ := Aside0.mk (blk_below (g := g1) (o := .cells #[.int .i64 a0_0, .int .i64 a0_1, .slice A0_2 l0_2.length c0_2, .int .i64 a0_3, .bool a0_4, .bool a0_5] 24 (0, 0)) BK1.out hb); have n1_ := Aside0.mk (below_step bl_ hb); have n2_ := Aside0.mk hbox; have n3_ := Aside0.mk (le_new hg (below_size bl_) : w.heap.size ≤ g2); have n5_ := Aside0.mk (by rw [hg]; exact Nat.ne_of_lt (blk_lt BK1.out) : g1 ≠ g2); clear BK1 HB; have BK1 := n0_; have HB := n1_; have BK2 := n2_; have GE2 := n3_; have NB := n5_; clear n0_ n1_ n2_ n3_ n5_ hb hbox hg; have hnb := NB.out; have hnc := NB.out.symm; obtain ⟨z0, z1, z2, z3, z4, z5, y0, y1, y2, y3, y4, y5⟩ := cells6 (show w2.heap[g1]? = some (.cells #[.int .i64 a0_0, .int .i64 a0_1, .slice A0_2 l0_2.length c0_2, .int .i64 a0_3, .bool a0_4, .bool a0_5] _ (0, 0)) from BK1.out))
     | ((with_reducible refine gate_callee (f := 61) rfl ?_); refine goesL_ (some 10) rfl rfl Tryd.func61 (by kernel_rfl) rfl #[.agg #[.int .i64 a0_0, .int .i64 a0_1, .slice A0_2 l0_2.length c0_2, .int .i64 a0_3, .bool a0_4, .bool a0_5]] rfl ag_ ?_; (with_reducible refine (grid_Copy.calls a0_0 a0_1 _ _ l0_2 a0_3 a0_4 a0_5 a0_0 a0_1 l0_2 a0_3 a0_4 a0_5 _ ?side1 ?side2 HC.out).mono ?_); (case side1 => exact Kd.C_below HR.out HB.out); (case side2 => exact HL.out); rintro e w3 ⟨v1, rfl, ho0, hb⟩; refine ⟨_, rfl, ?_⟩; have n0_ := Aside0.mk (Kd.R_lower ho0 (below_size bl_)); have n1_ := Aside0.mk (blk_below (g := g1) (o := .cells #[.int .i64 a0_0, .int .i64 a0_1, .slice A0_2 l0_2.length c0_2, .int .i64 a0_3, .bool a0_4, .bool a0_5] 24 (0, 0)) BK1.out hb); have n2_ := Aside0.mk (blk_below (g := g2) (o := .cells #[.int .i64 0, .int .i64 0, .slice none 0 0, .int .i64 0, .bool false, .bool false] 24 (0, 0)) BK2.out hb); have n3_ := Aside0.mk (below_step bl_ hb); clear BK1 BK2 HB ho0 hb; have HO := n0_; have BK1 := n1_; have BK2 := n2_; have HB := n3_; clear n0_ n1_ n2_ n3_; obtain ⟨x0, x1, x2, x3, x4, x5, q0, q1, q2, q3, q4, q5⟩ := cells6 (show w3.heap[g1]? = some (.cells #[.int .i64 a0_0, .int .i64 a0_1, .slice A0_2 l0_2.length c0_2, .int .i64 a0_3, .bool a0_4, .bool a0_5] _ (0, 0)) from BK1.out); obtain ⟨Ao, co, eo⟩ := Kd.R_slice HO.out; subst eo)
     | ((with_reducible refine gate_dst (N := 12) rfl ?_); obtain ⟨w5, hW⟩ : ∃ w5 : World, w5 = (((((((w3.setCell ⟨g1, 0, none⟩ (.int .i64 a0_0)).setCell ⟨g1, 1, none⟩ (.int .i64 a0_1)).setCell ⟨g1, 2, none⟩ (.slice Ao l0_2.length co)).setCell ⟨g1, 3, none⟩ (.int .i64 a0_3)).setCell ⟨g1, 4, none⟩ (.bool a0_4)).setCell ⟨g1, 5, none⟩ (.bool a0_5)).setCell ⟨g1, 4, none⟩ (.bool true)) := ⟨_, rfl⟩; rw [← hW]; have n0_ := Aside0.mk (show w5.heap[g1]? = some (.cells #[.int .i64 a0_0, .int .i64 a0_1, .slice Ao l0_2.length co, .int .i64 a0_3, .bool true, .bool a0_5] 24 (0, 0)) by (rw [hW]; refine blk_put (cs := #[.int .i64 a0_0, .int .i64 a0_1, .slice Ao l0_2.length co, .int .i64 a0_3, .bool a0_4, .bool a0_5]) ?_ 4 _ rfl; refine blk_put (cs := #[.int .i64 a0_0, .int .i64 a0_1, .slice Ao l0_2.length co, .int .i64 a0_3, .bool a0_4, .bool a0_5]) ?_ 5 _ rfl; refine blk_put (cs := #[.int .i64 a0_0, .int .i64 a0_1, .slice Ao l0_2.length co, .int .i64 a0_3, .bool a0_4, .bool a0_5]) ?_ 4 _ rfl; refine blk_put (cs := #[.int .i64 a0_0, .int .i64 a0_1, .slice Ao l0_2.length co, .int .i64 a0_3, .bool a0_4, .bool a0_5]) ?_ 3 _ rfl; refine blk_put (cs := #[.int .i64 a0_0, .int .i64 a0_1, .slice A0_2 l0_2.length c0_2, .int .i64 a0_3, .bool a0_4, .bool a0_5]) ?_ 2 _ rfl; refine blk_put (cs := #[.int .i64 a0_0, .int .i64 a0_1, .slice A0_2 l0_2.length c0_2, .int .i64 a0_3, .bool a0_4, .bool a0_5]) ?_ 1 _ rfl; refine blk_put (cs := #[.int .i64 a0_0, .int .i64 a0_1, .slice A0_2 l0_2.length c0_2, .int .i64 a0_3, .bool a0_4, .bool a0_5]) ?_ 0 _ rfl; exact BK1.out)); have n1_ := Aside0.mk (show w5.heap[g2]? = some (.cells #[.int .i64 0, .int .i64 0, .slice none 0 0, .int .i64 0, .bool false, .bool false] 24 (0, 0)) by (rw [hW]; exact blk_off BK2.out NB.out.symm off2_)); have n2_ := Aside0.mk (show Kd.R k35 35 w5 w.heap.size (fun _ => True) (.slice Ao l0_2.length co) l0_2 by (rw [hW]; exact R_off HO.out BK1.out (by decide) off2_)); have n3_ := Aside0.mk (show Below w.heap.size w w5 by (rw [hW]; exact bl_)); clear hW BK1 BK2 HO HB x0 x1 x2 x3 x4 x5 q0 q1 q2 q3 q4 q5; have BK1 := n0_; have BK2 := n1_; have HO := n2_; have HB := n3_; clear n0_ n1_ n2_ n3_; obtain ⟨x0, x1, x2, x3, x4, x5, q0, q1, q2, q3, q4, q5⟩ := cells6 (show w5.heap[g1]? = some (.cells #[.int .i64 a0_0, .int .i64 a0_1, .slice Ao l0_2.length co, .int .i64 a0_3, .bool true, .bool a0_5] _ (0, 0)) from BK1.out))
     | ((with_reducible refine gate_dst (N := 16) rfl ?_); refine box_event ?hg (N := 16) ?hd (cs := #[.int .i64 a0_3, .iface ERNT (.int .i64 n)]) (t := 79) ?hr ?_; (case hd => rfl); (case hg => rfl); (case hr => first | (go_simp; done) | (go_simp; rfl)); intro g3 hg w4 hbox hb; have n0_ := Aside0.mk (Kd.R_below HO.out hb); have n1_ := Aside0.mk (blk_below BK2.out hb); have n2_ := Aside0.mk (below_step bl_ hb); have n3_ := Aside0.mk hbox; have n4_ := Aside0.mk (le_new hg (below_size bl_) : w.heap.size ≤ g3); have n5_ := Aside0.mk (by rw [hg]; exact Nat.ne_of_lt (blk_lt BK2.out) : g2 ≠ g3); have n6_ := Aside0.mk (by rw [hg]; exact fun h_ => Nat.lt_irrefl _ (own_lt_ HO.out h_) : some g3 ≠ (Value.slice Ao l0_2.length co).ownBlock); clear HO BK2 HB BK1; have HO := n0_; have BK2 := n1_; have HB := n2_; have BK3 := n3_; have GE3 := n4_; have NB3 := n5_; have NO := n6_; clear n0_ n1_ n2_ n3_ n4_ n5_ n6_ hb hbox hg; have hnd := NB3.out; obtain ⟨s0, s1, s2, s3, s4, s5, p0, p1, p2, p3, p4, p5⟩ := cells6 (show w4.heap[g2]? = some (.cells #[.int .i64 0, .int .i64 0, .slice none 0 0, .int .i64 0, .bool false, .bool false] _ (0, 0)) from BK2.out)))
    refine bodyPost_ret (results_ct rfl _ _ g2 24 #[.int .i64 a0_0, .int .i64 a0_1, .slice Ao l0_2.length co, .int .i64 a0_3, .bool true, .bool a0_5] (0, 0) _ rfl (by first | (refine blk_put (cs := #[.int .i64 a0_0, .int .i64 a0_1, .slice Ao l0_2.length co, .int .i64 a0_3, .bool true, .bool false]) ?_ 5 _ rfl; refine blk_put (cs := #[.int .i64 a0_0, .int .i64 a0_1, .slice Ao l0_2.length co, .int .i64 a0_3, .bool false, .bool false]) ?_ 4 _ rfl; refine blk_put (cs := #[.int .i64 a0_0, .int .i64 a0_1, .slice Ao l0_2.length co, .int .i64 0, .bool false, .bool false]) ?_ 3 _ rfl; refine blk_put (cs := #[.int .i64 a0_0, .int .i64 a0_1, .slice none 0 0, .int .i64 0, .bool false, .bool false]) ?_ 2 _ rfl; refine blk_put (cs := #[.int .i64 a0_0, .int .i64 0, .slice none 0 0, .int .i64 0, .bool false, .bool false]) ?_ 1 _ rfl; refine blk_put (cs := #[.int .i64 0, .int .i64 0, .slice none 0 0, .int .i64 0, .bool false, .bool false]) ?_ 0 _ rfl; exact BK2.out)) Tryd.underlying24 rfl (by kernel_rfl)) rfl ?_
    exact ⟨_, .slice (some ⟨g3, 0, none⟩) 1 1, rfl, Kd.R_reok rfl (R_off HO.out BK2.out (by decide) off2_) (fun k_ e_ => Kd.R_base (R_off HO.out BK2.out (by decide) off2_) k_ e_), spot_V (blk_off BK3.out NB3.out.symm off2_) ⟨GE3.out, NO.out⟩, bl_⟩
 ·rw [if_neg hn] at h; cases h
end

/-! ### edit_Modify: function 36 -/
def edit_Modify.f (a0_0 : Int) (a0_1 : Int) (l0_2 : List (S35)) (a0_3 : Int) (a0_4 : Bool) (a0_5 : Bool) (a1 : Int) : Option (Int × Int × (List (S35)) × Int × Bool × Bool) := (grid_Copy.f a0_0 a0_1 l0_2 a0_3 a0_4 a0_5).bind fun bt136 => ((field_Begin.f bt136.1 bt136.2.1 bt136.2.2.1 bt136.2.2.2.1 bt136.2.2.2.2.1 bt136.2.2.2.2.2 a1).bind fun t144 => (if t144 ≥ 0 then (if 0 ≤ t144 then (if t144 < (bt136.2.2.1.length : Int) then (some (bt136.1, bt136.2.1, (bt136.2.2.1.set (t144 : Int).toNat (⟨(rd_T35 bt136.2.2.1 t144).f0, (⟨(rd_T35 bt136.2.2.1 t144).f1.f0, (rd_T35 bt136.2.2.1 t144).f1.f1, (rd_T35 bt136.2.2.1 t144).f1.f2, true⟩ : S33), (rd_T35 bt136.2.2.1 t144).f2⟩ : S35)), bt136.2.2.2.1, bt136.2.2.2.2.1, bt136.2.2.2.2.2)) else (none)) else (none)) else (some (bt136.1, bt136.2.1, bt136.2.2.1, bt136.2.2.2.1, bt136.2.2.2.2.1, bt136.2.2.2.2.2))))
set_option maxHeartbeats 8000000 in
set_option maxRecDepth 100000 in
theorem edit_Modify.calls (a0_0 : Int) (a0_1 : Int) (A0_2 : Option Addr) (c0_2 : Nat) (l0_2 : List (S35)) (a0_3 : Int) (a0_4 : Bool) (a0_5 : Bool) (a1 : Int) (r1 : Int) (r2 : Int) (r3 : List (S35)) (r4 : Int) (r5 : Bool) (r6 : Bool) (w : World) (hr0_2 : Kd.C k35 w A0_2 l0_2.length l0_2) (hc0_2 : l0_2.length ≤ c0_2) (h : edit_Modify.f a0_0 a0_1 l0_2 a0_3 a0_4 a0_5 a1 = some (r1, r2, r3, r4, r5, r6)) :
  Calls Tryd.prog 36 #[.agg #[.int .i64 a0_0, .int .i64 a0_1, .slice A0_2 l0_2.length c0_2, .int .i64 a0_3, .bool a0_4, .bool a0_5], .int .i64 a1] w fun e w' => ∃ v2_ : Value, e = .returned (.agg #[.int .i64 r1, .int .i64 r2, v2_, .int .i64 r4, .bool r5, .bool r6]) ∧ Kd.R k35 35 w' w.heap.size (fun _ => True) v2_ r3 ∧ Below w.heap.size w w' := by
 have hu24 := Tryd.underlying24
 have HR0_2 := Aside0.mk hr0_2
 have HC0_2 := Aside0.mk hc0_2
 clear hr0_2 hc0_2
 have HB := Aside0.mk (Below.refl w.heap.size w)
 have H : ((grid_Copy.f a0_0 a0_1 l0_2 a0_3 a0_4 a0_5).bind fun bt136 => ((field_Begin.f bt136.1 bt136.2.1 bt136.2.2.1 bt136.2.2.2.1 bt136.2.2.2.2.1 bt136.2.2.2.2.2 a1).bind fun t144 => (if t144 ≥ 0 then (if 0 ≤ t144 then (if t144 < (bt136.2.2.1.length : Int) then (some (bt136.1, bt136.2.1, (bt136.2.2.1.set (t144 : Int).toNat (⟨(rd_T35 bt136.2.2.1 t144).f0, (⟨(rd_T35 bt136.2.2.1 t144).f1.f0, (rd_T35 bt136.2.2.1 t144).f1.f1, (rd_T35 bt136.2.2.1 t144).f1.f2, true⟩ : S33), (rd_T35 bt136.2.2.1 t144).f2⟩ : S35)), bt136.2.2.2.1, bt136.2.2.2.2.1, bt136.2.2.2.2.2)) else (none)) else (none)) else (some (bt136.1, bt136.2.1, bt136.2.2.1, bt136.2.2.2.1, bt136.2.2.2.2.1, bt136.2.2.2.2.2))))) = some (r1, r2, r3, r4, r5, r6) := h
 clear h
 replace H := Option.bind_eq_some_iff.mp H
 obtain ⟨⟨t136, t137, t138, t141, t142, t143⟩, A30, H⟩ := H
 replace H : ((field_Begin.f t136 t137 t138 t141 t142 t143 a1).bind fun t144 => (if t144 ≥ 0 then (if 0 ≤ t144 then (if t144 < (t138.length : Int) then (some (t136, t137, (t138.set (t144 : Int).toNat (⟨(rd_T35 t138 t144).f0, (⟨(rd_T35 t138 t144).f1.f0, (rd_T35 t138 t144).f1.f1, (rd_T35 t138 t144).f1.f2, true⟩ : S33), (rd_T35 t138 t144).f2⟩ : S35)), t141, t142, t143)) else (none)) else (none)) else (some (t136, t137, t138, t141, t142, t143)))) = some (r1, r2, r3, r4, r5, r6) := H
 have A3 := Aside0.mk A30
 clear A30
 replace H := Option.bind_eq_some_iff.mp H
 obtain ⟨t144, A40, H⟩ := H
 replace H : (if t144 ≥ 0 then (if 0 ≤ t144 then (if t144 < (t138.length : Int) then (some (t136, t137, (t138.set (t144 : Int).toNat (⟨(rd_T35 t138 t144).f0, (⟨(rd_T35 t138 t144).f1.f0, (rd_T35 t138 t144).f1.f1, (rd_T35 t138 t144).f1.f2, true⟩ : S33), (rd_T35 t138 t144).f2⟩ : S35)), t141, t142, t143)) else (none)) else (none)) else (some (t136, t137, t138, t141, t142, t143))) = some (r1, r2, r3, r4, r5, r6) := H
 have A4 := Aside0.mk A40
 clear A40
 by_cases c5 : t144 ≥ 0
 ·rw [if_pos c5] at H
  have c5b0 : decide (0 ≤ t144) = true := decide_eq_true c5
  clear c5
  by_cases c6 : 0 ≤ t144
  ·rw [if_pos c6] at H
   have c6b0 : decide (0 ≤ t144) = true := decide_eq_true c6
   clear c6
   by_cases c7 : t144 < (t138.length : Int)
   ·rw [if_pos c7] at H
    have c7b0 : decide (t144 < (t138.length : Int)) = true := decide_eq_true c7
    clear c7
    obtain ⟨y145, hy145⟩ : ∃ y_ : List (S35), y_ = (t138.set (t144 : Int).toNat (⟨(rd_T35 t138 t144).f0, (⟨(rd_T35 t138 t144).f1.f0, (rd_T35 t138 t144).f1.f1, (rd_T35 t138 t144).f1.f2, true⟩ : S33), (rd_T35 t138 t144).f2⟩ : S35)) := ⟨_, rfl⟩
    replace H : (some (t136, t137, y145, t141, t142, t143)) = some (r1, r2, r3, r4, r5, r6) := by first | (rw [hy145]; with_reducible exact H) | (have H2_ := (Option.bind_some _ _).symm.trans H; rw [hy145]; with_reducible exact H2_) | (have H2_ := (Option.bind_some _ _).symm.trans H; with_reducible exact H2_) | with_reducible exact H | (rw [hy145]; exact H) | exact H
    have Ny145 := Aside0.mk hy145
    clear hy145
    simp only [Option.some.injEq, Prod.mk.injEq] at H
    obtain ⟨rfl, rfl, rfl, rfl, rfl, rfl⟩ := H
    go_enter Tryd.func36, Tryd.ntmps36
    go_wp2_with (first | ((with_reducible refine gate_dst (N := 2) rfl ?_); refine box_event ?hg (N := 2) ?hd (cs := #[.int .i64 a0_0, .int .i64 a0_1, .slice A0_2 l0_2.length c0_2, .int .i64 a0_3, .bool a0_4, .bool a0_5]) (t := 24) ?hr ?_; (case hd => rfl); (case hg => rfl); (case hr => first | (go_simp; done) | (go_simp; rfl)); intro gb134 hg w9 hbox hb; have n0_ := Aside0.mk (below_step bl_ hb); have n1_ := Aside0.mk (hbox); have n2_ := Aside0.mk ((le_new hg (below_size bl_) : w.heap.size ≤ gb134)); have n3_ := Aside0.mk ((le_new hg (below_size bl_) : w.heap.size ≤ gb134)); clear HB; have HB := n0_; have BK134 := n1_; have GW134 := n2_; have GE134 := n3_; clear n0_ n1_ n2_ n3_; clear hb hbox hg) | ((with_reducible refine gate_dst (N := 4) rfl ?_); refine box_event ?hg (N := 4) ?hd (cs := #[.int .i64 0, .int .i64 0, .slice none 0 0, .int .i64 0, .bool false, .bool false]) (t := 24) ?hr ?_; (case hd => rfl); (case hg => rfl); (case hr => first | (go_simp; done) | (go_simp; rfl)); intro gb135 hg w10 hbox hb; have n0_ := Aside0.mk (blk_below (g := gb134) (o := .cells #[.int .i64 a0_0, .int .i64 a0_1, .slice A0_2 l0_2.length c0_2, .int .i64 a0_3, .bool a0_4, .bool a0_5] 24 (0, 0)) (by (with_reducible repeat apply pK); exact BK134.out) hb); have n1_ := Aside0.mk (below_step bl_ hb); have n2_ := Aside0.mk (hbox); have n3_ := Aside0.mk ((le_new hg (below_size bl_) : w.heap.size ≤ gb135)); have n4_ := Aside0.mk ((le_new hg (below_size bl_) : w.heap.size ≤ gb135)); have n5_ := Aside0.mk ((by rw [hg]; exact Nat.ne_of_lt (blk_lt (g := gb134) (o := .cells #[.int .i64 a0_0, .int .i64 a0_1, .slice A0_2 l0_2.length c0_2, .int .i64 a0_3, .bool a0_4, .bool a0_5] 24 (0, 0)) (by (with_reducible repeat apply pK); exact BK134.out)) : gb134 ≠ gb135)); have n6_ := Aside0.mk ((by rw [hg]; exact Nat.ne_of_gt (blk_lt (g := gb134) (o := .cells #[.int .i64 a0_0, .int .i64 a0_1, .slice A0_2 l0_2.length c0_2, .int .i64 a0_3, .bool a0_4, .bool a0_5] 24 (0, 0)) (by (with_reducible repeat apply pK); exact BK134.out)) : gb135 ≠ gb134)); clear BK134; clear HB; have BK134 := n0_; have HB := n1_; have BK135 := n2_; have GW135 := n3_; have GE135 := n4_; have NB134_135 := n5_; have NB135_134 := n6_; clear n0_ n1_ n2_ n3_ n4_ n5_ n6_; clear hb hbox hg; have hnb11 := NB134_135.out; have hnc11 := NB135_134.out; obtain ⟨hcz12_0, hcz12_1, hcz12_2, hcz12_3, hcz12_4, hcz12_5, hfz12_0, hfz12_1, hfz12_2, hfz12_3, hfz12_4, hfz12_5⟩ := cells6 (show w10.heap[gb134]? = some (.cells #[.int .i64 a0_0, .int .i64 a0_1, .slice A0_2 l0_2.length c0_2, .int .i64 a0_3, .bool a0_4, .bool a0_5] _ (0, 0)) from BK134.out)) | ((with_reducible refine gate_callee (f := 61) rfl ?_); refine goesL_ (some 7) rfl rfl Tryd.func61 (by kernel_rfl) rfl #[.agg #[.int .i64 a0_0, .int .i64 a0_1, .slice A0_2 l0_2.length c0_2, .int .i64 a0_3, .bool a0_4, .bool a0_5]] rfl ag_ ?_; (with_reducible refine (grid_Copy.calls a0_0 a0_1 _ _ l0_2 a0_3 a0_4 a0_5 t136 t137 t138 t141 t142 t143 _ ?side1 ?side2 A3.out).mono ?_); (case side1 => repeat (first | exact (Kd.C_below HR0_2.out HB.out) | (with_reducible apply pC))); (case side2 => exact HC0_2.out); rintro e w13 ⟨v139, rfl, ho0, hb⟩; refine ⟨_, rfl, ?_⟩; have n0_ := Aside0.mk (Kd.R_lower ho0 (below_size bl_)); have n1_ := Aside0.mk (blk_below (g := gb134) (o := .cells #[.int .i64 a0_0, .int .i64 a0_1, .slice A0_2 l0_2.length c0_2, .int .i64 a0_3, .bool a0_4, .bool a0_5] 24 (0, 0)) (by (with_reducible repeat apply pK); exact BK134.out) hb); have n2_ := Aside0.mk (blk_below (g := gb135) (o := .cells #[.int .i64 0, .int .i64 0, .slice none 0 0, .int .i64 0, .bool false, .bool false] 24 (0, 0)) (by (with_reducible repeat apply pK); exact BK135.out) hb); have n3_ := Aside0.mk (below_step bl_ hb); clear BK134; clear BK135; clear HB; have HO140 := n0_; have BK134 := n1_; have BK135 := n2_; have HB := n3_; clear n0_ n1_ n2_ n3_; (try clear hb); (try clear hb2); (try clear hk); (try clear hi); (try clear ho0); obtain ⟨hcz14_0, hcz14_1, hcz14_2, hcz14_3, hcz14_4, hcz14_5, hfz14_0, hfz14_1, hfz14_2, hfz14_3, hfz14_4, hfz14_5⟩ := cells6 (show w13.heap[gb134]? = some (.cells #[.int .i64 a0_0, .int .i64 a0_1, .slice A0_2 l0_2.length c0_2, .int .i64 a0_3, .bool a0_4, .bool a0_5] _ (0, 0)) from BK134.out); obtain ⟨Ao15, co15, eo15⟩ := Kd.R_slice HO140.out; subst eo15) | ((with_reducible refine gate_callee (f := 62) rfl ?_); refine goesL_ (some 10) rfl rfl Tryd.func62 (by kernel_rfl) rfl #[.agg #[.int .i64 t136, .int .i64 t137, .slice Ao15 t138.length co15, .int .i64 t141, .bool t142, .bool t143], .int .i64 a1] rfl ag_ ?_; (with_reducible refine (field_Begin.calls t136 t137 _ _ t138 t141 t142 t143 a1 t144 _ ?side1 ?side2 A4.out).mono ?_); (case side1 => refine (Kd.R_reads' (e := 35) (base := w.heap.size) (ok := fun k_ => True) (n := t138.length) (c := co15) ?_).2.2; exact (by (with_reducible repeat apply pR); exact (Kd.R_mono (Kd.R_far (p := ⟨gb134, 5, none⟩) (Kd.R_far (p := ⟨gb134, 4, none⟩) (Kd.R_far (p := ⟨gb134, 3, none⟩) (Kd.R_far (p := ⟨gb134, 2, none⟩) (Kd.R_far (p := ⟨gb134, 1, none⟩) (Kd.R_far (p := ⟨gb134, 0, none⟩) (Kd.R_types HO140.out BK134.out (by decide)) (fun _ hk => hk.2) (.int .i64 t136)) (fun _ hk => hk.2) (.int .i64 t137)) (fun _ hk => hk.2) (.slice Ao15 t138.length co15)) (fun _ hk => hk.2) (.int .i64 t141)) (fun _ hk => hk.2) (.bool t142)) (fun _ hk => hk.2) (.bool t143)) (fun _ h_ => h_.1)))); (case side2 => exact (Kd.R_reads' HO140.out).2.1); rintro e w16 ⟨rfl, hb⟩; refine ⟨_, rfl, ?_⟩; have n0_ := Aside0.mk (Kd.R_below (by (with_reducible repeat apply pR); exact (Kd.R_mono (Kd.R_far (p := ⟨gb134, 5, none⟩) (Kd.R_far (p := ⟨gb134, 4, none⟩) (Kd.R_far (p := ⟨gb134, 3, none⟩) (Kd.R_far (p := ⟨gb134, 2, none⟩) (Kd.R_far (p := ⟨gb134, 1, none⟩) (Kd.R_far (p := ⟨gb134, 0, none⟩) (Kd.R_types HO140.out BK134.out (by decide)) (fun _ hk => hk.2) (.int .i64 t136)) (fun _ hk => hk.2) (.int .i64 t137)) (fun _ hk => hk.2) (.slice Ao15 t138.length co15)) (fun _ hk => hk.2) (.int .i64 t141)) (fun _ hk => hk.2) (.bool t142)) (fun _ hk => hk.2) (.bool t143)) (fun _ h_ => h_.1))) hb); have n1_ := Aside0.mk (blk_below (g := gb134) (o := .cells #[.int .i64 t136, .int .i64 t137, .slice Ao15 t138.length co15, .int .i64 t141, .bool t142, .bool t143] 24 (0, 0)) (by (with_reducible repeat apply pK); refine blk_put (cs := #[.int .i64 t136, .int .i64 t137, .slice Ao15 t138.length co15, .int .i64 t141, .bool t142, .bool a0_5]) ?_ 5 _ rfl; (with_reducible repeat apply pK); refine blk_put (cs := #[.int .i64 t136, .int .i64 t137, .slice Ao15 t138.length co15, .int .i64 t141, .bool a0_4, .bool a0_5]) ?_ 4 _ rfl; (with_reducible repeat apply pK); refine blk_put (cs := #[.int .i64 t136, .int .i64 t137, .slice Ao15 t138.length co15, .int .i64 a0_3, .bool a0_4, .bool a0_5]) ?_ 3 _ rfl; (with_reducible repeat apply pK); refine blk_put (cs := #[.int .i64 t136, .int .i64 t137, .slice A0_2 l0_2.length c0_2, .int .i64 a0_3, .bool a0_4, .bool a0_5]) ?_ 2 _ rfl; (with_reducible repeat apply pK); refine blk_put (cs := #[.int .i64 t136, .int .i64 a0_1, .slice A0_2 l0_2.length c0_2, .int .i64 a0_3, .bool a0_4, .bool a0_5]) ?_ 1 _ rfl; (with_reducible repeat apply pK); refine blk_put (cs := #[.int .i64 a0_0, .int .i64 a0_1, .slice A0_2 l0_2.length c0_2, .int .i64 a0_3, .bool a0_4, .bool a0_5]) ?_ 0 _ rfl; (with_reducible repeat apply pK); exact BK134.out) hb); have n2_ := Aside0.mk (blk_below (g := gb135) (o := .cells #[.int .i64 0, .int .i64 0, .slice none 0 0, .int .i64 0, .bool false, .bool false] 24 (0, 0)) (by (with_reducible repeat apply pK); refine blk_far ?_ NB135_134.out _; (with_reducible repeat apply pK); refine blk_far ?_ NB135_134.out _; (with_reducible repeat apply pK); refine blk_far ?_ NB135_134.out _; (with_reducible repeat apply pK); refine blk_far ?_ NB135_134.out _; (with_reducible repeat apply pK); refine blk_far ?_ NB135_134.out _; (with_reducible repeat apply pK); refine blk_far ?_ NB135_134.out _; (with_reducible repeat apply pK); exact BK135.out) hb); have n3_ := Aside0.mk (below_step bl_ hb); clear HO140; clear BK134; clear BK135; clear HB; have HO140 := n0_; have BK134 := n1_; have BK135 := n2_; have HB := n3_; clear n0_ n1_ n2_ n3_; (try clear hb); (try clear hb2); (try clear hk); (try clear hi); obtain ⟨hcz17_0, hcz17_1, hcz17_2, hcz17_3, hcz17_4, hcz17_5, hfz17_0, hfz17_1, hfz17_2, hfz17_3, hfz17_4, hfz17_5⟩ := cells6 (show w16.heap[gb134]? = some (.cells #[.int .i64 t136, .int .i64 t137, .slice Ao15 t138.length co15, .int .i64 t141, .bool t142, .bool t143] _ (0, 0)) from BK134.out); have p8 : 0 ≤ (t144 : Int) := of_decide_eq_true (by first | (with_reducible assumption) | assumption); have q8 : (t144 : Int) < ((t138.length : Int) : Int) := of_decide_eq_true (by first | (with_reducible assumption) | assumption); obtain ⟨go8, co8, eo8, gb8, gl8, cl8, HG8⟩ := Kd.R_form HO140.out (by omega); (first | cases eo8 | (injection eo8 with ea_ en_ ec_; (first | subst ea_ | (injection ea_ with ea_; subst ea_)); subst ec_; clear en_)); have GB8 := Aside0.mk gb8; have GG8 := Aside0.mk HG8; clear gb8 gl8 HG8; obtain ⟨ce8, hcl8, hM8, hcc8, hfr8⟩ := Kd.R_elem HO140.out z35 (t144 : Int) p8 q8; obtain rfl := k35_openM hM8; have hx8_0 : w16.cell? ⟨go8, (t144 : Int).toNat * 6, none⟩ = some (.bool ((rd_T35 t138 t144).f0)) := hcc8 0 _ rfl; have hx8_1 : w16.cell? ⟨go8, (t144 : Int).toNat * 6 + 1, none⟩ = some (.bool ((rd_T35 t138 t144).f1.f0)) := hcc8 1 _ rfl; have hx8_2 : w16.cell? ⟨go8, (t144 : Int).toNat * 6 + 2, none⟩ = some (.bool ((rd_T35 t138 t144).f1.f1)) := hcc8 2 _ rfl; have hx8_3 : w16.cell? ⟨go8, (t144 : Int).toNat * 6 + 3, none⟩ = some (.int .i64 ((rd_T35 t138 t144).f1.f2)) := hcc8 3 _ rfl; have hx8_4 : w16.cell? ⟨go8, (t144 : Int).toNat * 6 + 4, none⟩ = some (.bool ((rd_T35 t138 t144).f1.f3)) := hcc8 4 _ rfl; have hx8_5 : w16.cell? ⟨go8, (t144 : Int).toNat * 6 + 5, none⟩ = some (.int .u8 ((rd_T35 t138 t144).f2)) := hcc8 5 _ rfl; have hf8_0 : w16.frozen? ⟨go8, (t144 : Int).toNat * 6, none⟩ = false := hfr8 0; have hf8_1 : w16.frozen? ⟨go8, (t144 : Int).toNat * 6 + 1, none⟩ = false := hfr8 1; have hf8_2 : w16.frozen? ⟨go8, (t144 : Int).toNat * 6 + 2, none⟩ = false := hfr8 2; have hf8_3 : w16.frozen? ⟨go8, (t144 : Int).toNat * 6 + 3, none⟩ = false := hfr8 3; have hf8_4 : w16.frozen? ⟨go8, (t144 : Int).toNat * 6 + 4, none⟩ = false := hfr8 4; have hf8_5 : w16.frozen? ⟨go8, (t144 : Int).toNat * 6 + 5, none⟩ = false := hfr8 5; clear hcl8 hcc8 hfr8 hM8; replace p8 := eq_true p8; replace q8 := eq_true q8; have HX18 := Aside0.mk (show Kd.R k35 35 w16 w.heap.size (fun _ => True) (.slice (some ⟨go8, 0, none⟩) t138.length co15) t138 from (by (with_reducible repeat apply pR); exact HO140.out)); obtain ⟨ce18, hcl18, hM18, hcc18, hfr18⟩ := Kd.R_elem HX18.out z35 (t144 : Int) (of_decide_eq_true (by first | (with_reducible assumption) | assumption)) (by have h_ : (t144 : Int) < ((t138.length : Int) : Int) := of_decide_eq_true (by first | (with_reducible assumption) | assumption); first | exact h_ | (have e_ := (Kd.R_reads' HO140.out).1; omega) | simpa using h_); obtain rfl := k35_openM hM18; have HP18 := Kd.R_seg HX18.out (t144 : Int) (of_decide_eq_true (by first | (with_reducible assumption) | assumption)) (by have h_ : (t144 : Int) < ((t138.length : Int) : Int) := of_decide_eq_true (by first | (with_reducible assumption) | assumption); first | exact h_ | (have e_ := (Kd.R_reads' HO140.out).1; omega) | simpa using h_) (seg := [.bool true]) (j := 4) hcl18 hcc18 (show 5 ≤ 6 from by decide) (x' := (⟨(rd_T35 t138 t144).f0, (⟨(rd_T35 t138 t144).f1.f0, (rd_T35 t138 t144).f1.f1, (rd_T35 t138 t144).f1.f2, true⟩ : S33), (rd_T35 t138 t144).f2⟩ : S35)) (k35_mkM _ _ _ (⟨(rd_T35 t138 t144).f0, (⟨(rd_T35 t138 t144).f1.f0, (rd_T35 t138 t144).f1.f1, (rd_T35 t138 t144).f1.f2, true⟩ : S33), (rd_T35 t138 t144).f2⟩ : S35) ) (fun _ hk => hk); have hx18_4 := hcc18 4 _ rfl; (try simp only [show (k35).sz = 6 from rfl, Nat.mul_one, Nat.add_zero] at hx18_4); have hf18_4 := hfr18 4; (try simp only [show (k35).sz = 6 from rfl, Nat.mul_one, Nat.add_zero] at hf18_4); clear hcl18 hcc18 hfr18 hM18) | ((with_reducible refine gate_store (t := 4) (p := 18) rfl ?_); refine store_event (t := 4) (p := 18) (v := ?vo_w19) (w1 := (w16.setCell ⟨go8, (t144 : Int).toNat * 6 + 4, none⟩ (.bool true))) ?hg ?ho ?hn ?hr ?_; (case ho => rfl); (case hg => rfl); (case hn => rfl); (case hr => first | (go_simp; done) | (go_simp; rfl)); intro w19 hw; have hg : w16.grownBy w19 (some go8) := (by rw [hw]; exact HP18.2); have hp_ : Kd.R k35 35 w19 w.heap.size (fun _ => True) (.slice (some ⟨go8, 0, none⟩) t138.length co15) y145 := (by rw [hw, Ny145.out]; exact HP18.1); clear HP18; have n0_ := Aside0.mk (blk_grown (g := gb134) (o := .cells #[.int .i64 t136, .int .i64 t137, .slice (some ⟨go8, 0, none⟩) t138.length co15, .int .i64 t141, .bool t142, .bool t143] 24 (0, 0)) (by (with_reducible repeat apply pK); exact BK134.out) hg (Kd.R_ne HO140.out BK134.out (by decide))); have n1_ := Aside0.mk (blk_grown (g := gb135) (o := .cells #[.int .i64 0, .int .i64 0, .slice none 0 0, .int .i64 0, .bool false, .bool false] 24 (0, 0)) (by (with_reducible repeat apply pK); exact BK135.out) hg (Kd.R_ne HO140.out BK135.out (by decide))); have n2_ := Aside0.mk (hp_); have n3_ := Aside0.mk ((by rw [hw]; exact below_set (HB.out) GB8.out : Below w.heap.size w w19)); clear BK134; clear BK135; clear HO140; clear HB; have BK134 := n0_; have BK135 := n1_; have HO140 := n2_; have HB := n3_; clear n0_ n1_ n2_ n3_; clear hg hw hp_; obtain ⟨hcz20_0, hcz20_1, hcz20_2, hcz20_3, hcz20_4, hcz20_5, hfz20_0, hfz20_1, hfz20_2, hfz20_3, hfz20_4, hfz20_5⟩ := cells6 (show w19.heap[gb134]? = some (.cells #[.int .i64 t136, .int .i64 t137, .slice (some ⟨go8, 0, none⟩) t138.length co15, .int .i64 t141, .bool t142, .bool t143] _ (0, 0)) from BK134.out); obtain ⟨hcz21_0, hcz21_1, hcz21_2, hcz21_3, hcz21_4, hcz21_5, hfz21_0, hfz21_1, hfz21_2, hfz21_3, hfz21_4, hfz21_5⟩ := cells6 (show w19.heap[gb135]? = some (.cells #[.int .i64 0, .int .i64 0, .slice none 0 0, .int .i64 0, .bool false, .bool false] _ (0, 0)) from BK135.out)))
    refine bodyPost_ret (results_cell_row rfl _ _ gb135 24 #[.int .i64 t136, .int .i64 t137, .slice (some ⟨go8, 0, none⟩) t138.length co15, .int .i64 t141, .bool t142, .bool t143] (0, 0) _ rfl (by (with_reducible repeat apply pK); refine blk_put (cs := #[.int .i64 t136, .int .i64 t137, .slice (some ⟨go8, 0, none⟩) t138.length co15, .int .i64 t141, .bool t142, .bool false]) ?_ 5 _ rfl; (with_reducible repeat apply pK); refine blk_put (cs := #[.int .i64 t136, .int .i64 t137, .slice (some ⟨go8, 0, none⟩) t138.length co15, .int .i64 t141, .bool false, .bool false]) ?_ 4 _ rfl; (with_reducible repeat apply pK); refine blk_put (cs := #[.int .i64 t136, .int .i64 t137, .slice (some ⟨go8, 0, none⟩) t138.length co15, .int .i64 0, .bool false, .bool false]) ?_ 3 _ rfl; (with_reducible repeat apply pK); refine blk_put (cs := #[.int .i64 t136, .int .i64 t137, .slice none 0 0, .int .i64 0, .bool false, .bool false]) ?_ 2 _ rfl; (with_reducible repeat apply pK); refine blk_put (cs := #[.int .i64 t136, .int .i64 0, .slice none 0 0, .int .i64 0, .bool false, .bool false]) ?_ 1 _ rfl; (with_reducible repeat apply pK); refine blk_put (cs := #[.int .i64 0, .int .i64 0, .slice none 0 0, .int .i64 0, .bool false, .bool false]) ?_ 0 _ rfl; (with_reducible repeat apply pK); exact BK135.out) Tryd.underlying24 rfl (by kernel_rfl)) rfl ?_
    exact ⟨_, by first | rfl | (simp [errW_none, errW_some] <;> rfl) | (simp [*, errW_none, errW_some] <;> rfl), by (with_reducible repeat apply pR); exact Kd.R_mono (Kd.R_far (p := ⟨gb135, 5, none⟩) (Kd.R_far (p := ⟨gb135, 4, none⟩) (Kd.R_far (p := ⟨gb135, 3, none⟩) (Kd.R_far (p := ⟨gb135, 2, none⟩) (Kd.R_far (p := ⟨gb135, 1, none⟩) (Kd.R_far (p := ⟨gb135, 0, none⟩) (Kd.R_types HO140.out BK135.out (by decide)) (fun _ hk => hk.2) (.int .i64 t136)) (fun _ hk => hk.2) (.int .i64 t137)) (fun _ hk => hk.2) (.slice (some ⟨go8, 0, none⟩) t138.length co15)) (fun _ hk => hk.2) (.int .i64 t141)) (fun _ hk => hk.2) (.bool t142)) (fun _ hk => hk.2) (.bool t143)) (fun _ hk => trivial), bl_⟩
   ·rw [if_neg c7] at H
    exact absurd H (by simp)
  ·rw [if_neg c6] at H
   exact absurd H (by simp)
 ·rw [if_neg c5] at H
  have c5b0 : decide (0 ≤ t144) = false := decide_eq_false c5
  clear c5
  simp only [Option.some.injEq, Prod.mk.injEq] at H
  obtain ⟨rfl, rfl, rfl, rfl, rfl, rfl⟩ := H
  go_enter Tryd.func36, Tryd.ntmps36
  go_wp2_with (first | ((with_reducible refine gate_dst (N := 2) rfl ?_); refine box_event ?hg (N := 2) ?hd (cs := #[.int .i64 a0_0, .int .i64 a0_1, .slice A0_2 l0_2.length c0_2, .int .i64 a0_3, .bool a0_4, .bool a0_5]) (t := 24) ?hr ?_; (case hd => rfl); (case hg => rfl); (case hr => first | (go_simp; done) | (go_simp; rfl)); intro gb134 hg w22 hbox hb; have n0_ := Aside0.mk (below_step bl_ hb); have n1_ := Aside0.mk (hbox); have n2_ := Aside0.mk ((le_new hg (below_size bl_) : w.heap.size ≤ gb134)); have n3_ := Aside0.mk ((le_new hg (below_size bl_) : w.heap.size ≤ gb134)); clear HB; have HB := n0_; have BK134 := n1_; have GW134 := n2_; have GE134 := n3_; clear n0_ n1_ n2_ n3_; clear hb hbox hg) | ((with_reducible refine gate_dst (N := 4) rfl ?_); refine box_event ?hg (N := 4) ?hd (cs := #[.int .i64 0, .int .i64 0, .slice none 0 0, .int .i64 0, .bool false, .bool false]) (t := 24) ?hr ?_; (case hd => rfl); (case hg => rfl); (case hr => first | (go_simp; done) | (go_simp; rfl)); intro gb135 hg w23 hbox hb; have n0_ := Aside0.mk (blk_below (g := gb134) (o := .cells #[.int .i64 a0_0, .int .i64 a0_1, .slice A0_2 l0_2.length c0_2, .int .i64 a0_3, .bool a0_4, .bool a0_5] 24 (0, 0)) (by (with_reducible repeat apply pK); exact BK134.out) hb); have n1_ := Aside0.mk (below_step bl_ hb); have n2_ := Aside0.mk (hbox); have n3_ := Aside0.mk ((le_new hg (below_size bl_) : w.heap.size ≤ gb135)); have n4_ := Aside0.mk ((le_new hg (below_size bl_) : w.heap.size ≤ gb135)); have n5_ := Aside0.mk ((by rw [hg]; exact Nat.ne_of_lt (blk_lt (g := gb134) (o := .cells #[.int .i64 a0_0, .int .i64 a0_1, .slice A0_2 l0_2.length c0_2, .int .i64 a0_3, .bool a0_4, .bool a0_5] 24 (0, 0)) (by (with_reducible repeat apply pK); exact BK134.out)) : gb134 ≠ gb135)); have n6_ := Aside0.mk ((by rw [hg]; exact Nat.ne_of_gt (blk_lt (g := gb134) (o := .cells #[.int .i64 a0_0, .int .i64 a0_1, .slice A0_2 l0_2.length c0_2, .int .i64 a0_3, .bool a0_4, .bool a0_5] 24 (0, 0)) (by (with_reducible repeat apply pK); exact BK134.out)) : gb135 ≠ gb134)); clear BK134; clear HB; have BK134 := n0_; have HB := n1_; have BK135 := n2_; have GW135 := n3_; have GE135 := n4_; have NB134_135 := n5_; have NB135_134 := n6_; clear n0_ n1_ n2_ n3_ n4_ n5_ n6_; clear hb hbox hg; have hnb24 := NB134_135.out; have hnc24 := NB135_134.out; obtain ⟨hcz25_0, hcz25_1, hcz25_2, hcz25_3, hcz25_4, hcz25_5, hfz25_0, hfz25_1, hfz25_2, hfz25_3, hfz25_4, hfz25_5⟩ := cells6 (show w23.heap[gb134]? = some (.cells #[.int .i64 a0_0, .int .i64 a0_1, .slice A0_2 l0_2.length c0_2, .int .i64 a0_3, .bool a0_4, .bool a0_5] _ (0, 0)) from BK134.out)) | ((with_reducible refine gate_callee (f := 61) rfl ?_); refine goesL_ (some 7) rfl rfl Tryd.func61 (by kernel_rfl) rfl #[.agg #[.int .i64 a0_0, .int .i64 a0_1, .slice A0_2 l0_2.length c0_2, .int .i64 a0_3, .bool a0_4, .bool a0_5]] rfl ag_ ?_; (with_reducible refine (grid_Copy.calls a0_0 a0_1 _ _ l0_2 a0_3 a0_4 a0_5 t136 t137 t138 t141 t142 t143 _ ?side1 ?side2 A3.out).mono ?_); (case side1 => repeat (first | exact (Kd.C_below HR0_2.out HB.out) | (with_reducible apply pC))); (case side2 => exact HC0_2.out); rintro e w26 ⟨v139, rfl, ho0, hb⟩; refine ⟨_, rfl, ?_⟩; have n0_ := Aside0.mk (Kd.R_lower ho0 (below_size bl_)); have n1_ := Aside0.mk (blk_below (g := gb134) (o := .cells #[.int .i64 a0_0, .int .i64 a0_1, .slice A0_2 l0_2.length c0_2, .int .i64 a0_3, .bool a0_4, .bool a0_5] 24 (0, 0)) (by (with_reducible repeat apply pK); exact BK134.out) hb); have n2_ := Aside0.mk (blk_below (g := gb135) (o := .cells #[.int .i64 0, .int .i64 0, .slice none 0 0, .int .i64 0, .bool false, .bool false] 24 (0, 0)) (by (with_reducible repeat apply pK); exact BK135.out) hb); have n3_ := Aside0.mk (below_step bl_ hb); clear BK134; clear BK135; clear HB; have HO140 := n0_; have BK134 := n1_; have BK135 := n2_; have HB := n3_; clear n0_ n1_ n2_ n3_; (try clear hb); (try clear hb2); (try clear hk); (try clear hi); (try clear ho0); obtain ⟨hcz27_0, hcz27_1, hcz27_2, hcz27_3, hcz27_4, hcz27_5, hfz27_0, hfz27_1, hfz27_2, hfz27_3, hfz27_4, hfz27_5⟩ := cells6 (show w26.heap[gb134]? = some (.cells #[.int .i64 a0_0, .int .i64 a0_1, .slice A0_2 l0_2.length c0_2, .int .i64 a0_3, .bool a0_4, .bool a0_5] _ (0, 0)) from BK134.out); obtain ⟨Ao28, co28, eo28⟩ := Kd.R_slice HO140.out; subst eo28) | ((with_reducible refine gate_callee (f := 62) rfl ?_); refine goesL_ (some 10) rfl rfl Tryd.func62 (by kernel_rfl) rfl #[.agg #[.int .i64 t136, .int .i64 t137, .slice Ao28 t138.length co28, .int .i64 t141, .bool t142, .bool t143], .int .i64 a1] rfl ag_ ?_; (with_reducible refine (field_Begin.calls t136 t137 _ _ t138 t141 t142 t143 a1 t144 _ ?side1 ?side2 A4.out).mono ?_); (case side1 => refine (Kd.R_reads' (e := 35) (base := w.heap.size) (ok := fun k_ => True) (n := t138.length) (c := co28) ?_).2.2; exact (by (with_reducible repeat apply pR); exact (Kd.R_mono (Kd.R_far (p := ⟨gb134, 5, none⟩) (Kd.R_far (p := ⟨gb134, 4, none⟩) (Kd.R_far (p := ⟨gb134, 3, none⟩) (Kd.R_far (p := ⟨gb134, 2, none⟩) (Kd.R_far (p := ⟨gb134, 1, none⟩) (Kd.R_far (p := ⟨gb134, 0, none⟩) (Kd.R_types HO140.out BK134.out (by decide)) (fun _ hk => hk.2) (.int .i64 t136)) (fun _ hk => hk.2) (.int .i64 t137)) (fun _ hk => hk.2) (.slice Ao28 t138.length co28)) (fun _ hk => hk.2) (.int .i64 t141)) (fun _ hk => hk.2) (.bool t142)) (fun _ hk => hk.2) (.bool t143)) (fun _ h_ => h_.1)))); (case side2 => exact (Kd.R_reads' HO140.out).2.1); rintro e w29 ⟨rfl, hb⟩; refine ⟨_, rfl, ?_⟩; have n0_ := Aside0.mk (Kd.R_below (by (with_reducible repeat apply pR); exact (Kd.R_mono (Kd.R_far (p := ⟨gb134, 5, none⟩) (Kd.R_far (p := ⟨gb134, 4, none⟩) (Kd.R_far (p := ⟨gb134, 3, none⟩) (Kd.R_far (p := ⟨gb134, 2, none⟩) (Kd.R_far (p := ⟨gb134, 1, none⟩) (Kd.R_far (p := ⟨gb134, 0, none⟩) (Kd.R_types HO140.out BK134.out (by decide)) (fun _ hk => hk.2) (.int .i64 t136)) (fun _ hk => hk.2) (.int .i64 t137)) (fun _ hk => hk.2) (.slice Ao28 t138.length co28)) (fun _ hk => hk.2) (.int .i64 t141)) (fun _ hk => hk.2) (.bool t142)) (fun _ hk => hk.2) (.bool t143)) (fun _ h_ => h_.1))) hb); have n1_ := Aside0.mk (blk_below (g := gb134) (o := .cells #[.int .i64 t136, .int .i64 t137, .slice Ao28 t138.length co28, .int .i64 t141, .bool t142, .bool t143] 24 (0, 0)) (by (with_reducible repeat apply pK); refine blk_put (cs := #[.int .i64 t136, .int .i64 t137, .slice Ao28 t138.length co28, .int .i64 t141, .bool t142, .bool a0_5]) ?_ 5 _ rfl; (with_reducible repeat apply pK); refine blk_put (cs := #[.int .i64 t136, .int .i64 t137, .slice Ao28 t138.length co28, .int .i64 t141, .bool a0_4, .bool a0_5]) ?_ 4 _ rfl; (with_reducible repeat apply pK); refine blk_put (cs := #[.int .i64 t136, .int .i64 t137, .slice Ao28 t138.length co28, .int .i64 a0_3, .bool a0_4, .bool a0_5]) ?_ 3 _ rfl; (with_reducible repeat apply pK); refine blk_put (cs := #[.int .i64 t136, .int .i64 t137, .slice A0_2 l0_2.length c0_2, .int .i64 a0_3, .bool a0_4, .bool a0_5]) ?_ 2 _ rfl; (with_reducible repeat apply pK); refine blk_put (cs := #[.int .i64 t136, .int .i64 a0_1, .slice A0_2 l0_2.length c0_2, .int .i64 a0_3, .bool a0_4, .bool a0_5]) ?_ 1 _ rfl; (with_reducible repeat apply pK); refine blk_put (cs := #[.int .i64 a0_0, .int .i64 a0_1, .slice A0_2 l0_2.length c0_2, .int .i64 a0_3, .bool a0_4, .bool a0_5]) ?_ 0 _ rfl; (with_reducible repeat apply pK); exact BK134.out) hb); have n2_ := Aside0.mk (blk_below (g := gb135) (o := .cells #[.int .i64 0, .int .i64 0, .slice none 0 0, .int .i64 0, .bool false, .bool false] 24 (0, 0)) (by (with_reducible repeat apply pK); refine blk_far ?_ NB135_134.out _; (with_reducible repeat apply pK); refine blk_far ?_ NB135_134.out _; (with_reducible repeat apply pK); refine blk_far ?_ NB135_134.out _; (with_reducible repeat apply pK); refine blk_far ?_ NB135_134.out _; (with_reducible repeat apply pK); refine blk_far ?_ NB135_134.out _; (with_reducible repeat apply pK); refine blk_far ?_ NB135_134.out _; (with_reducible repeat apply pK); exact BK135.out) hb); have n3_ := Aside0.mk (below_step bl_ hb); clear HO140; clear BK134; clear BK135; clear HB; have HO140 := n0_; have BK134 := n1_; have BK135 := n2_; have HB := n3_; clear n0_ n1_ n2_ n3_; (try clear hb); (try clear hb2); (try clear hk); (try clear hi); obtain ⟨hcz30_0, hcz30_1, hcz30_2, hcz30_3, hcz30_4, hcz30_5, hfz30_0, hfz30_1, hfz30_2, hfz30_3, hfz30_4, hfz30_5⟩ := cells6 (show w29.heap[gb134]? = some (.cells #[.int .i64 t136, .int .i64 t137, .slice Ao28 t138.length co28, .int .i64 t141, .bool t142, .bool t143] _ (0, 0)) from BK134.out); obtain ⟨hcz31_0, hcz31_1, hcz31_2, hcz31_3, hcz31_4, hcz31_5, hfz31_0, hfz31_1, hfz31_2, hfz31_3, hfz31_4, hfz31_5⟩ := cells6 (show w29.heap[gb135]? = some (.cells #[.int .i64 0, .int .i64 0, .slice none 0 0, .int .i64 0, .bool false, .bool false] _ (0, 0)) from BK135.out)))
  refine bodyPost_ret (results_cell_row rfl _ _ gb135 24 #[.int .i64 t136, .int .i64 t137, .slice Ao28 t138.length co28, .int .i64 t141, .bool t142, .bool t143] (0, 0) _ rfl (by (with_reducible repeat apply pK); refine blk_put (cs := #[.int .i64 t136, .int .i64 t137, .slice Ao28 t138.length co28, .int .i64 t141, .bool t142, .bool false]) ?_ 5 _ rfl; (with_reducible repeat apply pK); refine blk_put (cs := #[.int .i64 t136, .int .i64 t137, .slice Ao28 t138.length co28, .int .i64 t141, .bool false, .bool false]) ?_ 4 _ rfl; (with_reducible repeat apply pK); refine blk_put (cs := #[.int .i64 t136, .int .i64 t137, .slice Ao28 t138.length co28, .int .i64 0, .bool false, .bool false]) ?_ 3 _ rfl; (with_reducible repeat apply pK); refine blk_put (cs := #[.int .i64 t136, .int .i64 t137, .slice none 0 0, .int .i64 0, .bool false, .bool false]) ?_ 2 _ rfl; (with_reducible repeat apply pK); refine blk_put (cs := #[.int .i64 t136, .int .i64 0, .slice none 0 0, .int .i64 0, .bool false, .bool false]) ?_ 1 _ rfl; (with_reducible repeat apply pK); refine blk_put (cs := #[.int .i64 0, .int .i64 0, .slice none 0 0, .int .i64 0, .bool false, .bool false]) ?_ 0 _ rfl; (with_reducible repeat apply pK); exact BK135.out) Tryd.underlying24 rfl (by kernel_rfl)) rfl ?_
  exact ⟨_, by first | rfl | (simp [errW_none, errW_some] <;> rfl) | (simp [*, errW_none, errW_some] <;> rfl), by (with_reducible repeat apply pR); exact Kd.R_mono (Kd.R_far (p := ⟨gb135, 5, none⟩) (Kd.R_far (p := ⟨gb135, 4, none⟩) (Kd.R_far (p := ⟨gb135, 3, none⟩) (Kd.R_far (p := ⟨gb135, 2, none⟩) (Kd.R_far (p := ⟨gb135, 1, none⟩) (Kd.R_far (p := ⟨gb135, 0, none⟩) (Kd.R_types HO140.out BK135.out (by decide)) (fun _ hk => hk.2) (.int .i64 t136)) (fun _ hk => hk.2) (.int .i64 t137)) (fun _ hk => hk.2) (.slice Ao28 t138.length co28)) (fun _ hk => hk.2) (.int .i64 t141)) (fun _ hk => hk.2) (.bool t142)) (fun _ hk => hk.2) (.bool t143)) (fun _ hk => trivial), bl_⟩

/-! ### attr_Char: function 53 -/
def attr_Char.f (a0 : Int) : Option (Bool) := if a0 = 0 then (some true) else (if a0 = 28 then (some true) else (if a0 = 30 then (some true) else (if a0 ≥ 64 then (some (a0 != 255)) else (some false))))
set_option maxHeartbeats 8000000 in
set_option maxRecDepth 100000 in
theorem attr_Char.calls (a0 : Int) (r : Bool) (w : World) (h : attr_Char.f a0 = some r) :
  Calls Tryd.prog 53 #[.int .u8 a0] w fun e w' => e = .returned (.bool r) ∧ Drawn0 w w' := by
 have H : (if a0 = 0 then (some true) else (if a0 = 28 then (some true) else (if a0 = 30 then (some true) else (if a0 ≥ 64 then (some (a0 != 255)) else (some false))))) = some r := h
 clear h
 by_cases c2 : a0 = 0
 ·rw [if_pos c2] at H
  have c2b0 : (a0 == 0) = true := beq_iff_eq.mpr c2
  have c2b1 : (a0 != 0) = false := bne_eq_false_iff_eq.mpr c2
  clear c2
  obtain rfl := Option.some.inj H
  go_enter Tryd.func53, Tryd.ntmps53
  go_wp2
  go_ret
  exact ⟨by first | rfl | (simp; done) | (simp [*]; done), by repeat (first | exact Drawn0.refl _ | apply Drawn0.step)⟩
 ·rw [if_neg c2] at H
  have c2b0 : (a0 == 0) = false := beq_eq_false_iff_ne.mpr c2
  have c2b1 : (a0 != 0) = true := bne_iff_ne.mpr c2
  by_cases c3 : a0 = 28
  ·rw [if_pos c3] at H
   have c3b0 : (a0 == 28) = true := beq_iff_eq.mpr c3
   have c3b1 : (a0 != 28) = false := bne_eq_false_iff_eq.mpr c3
   clear c3
   obtain rfl := Option.some.inj H
   go_enter Tryd.func53, Tryd.ntmps53
   go_wp2
   go_ret
   exact ⟨by first | rfl | (simp; done) | (simp [*]; done), by repeat (first | exact Drawn0.refl _ | apply Drawn0.step)⟩
  ·rw [if_neg c3] at H
   have c3b0 : (a0 == 28) = false := beq_eq_false_iff_ne.mpr c3
   have c3b1 : (a0 != 28) = true := bne_iff_ne.mpr c3
   by_cases c4 : a0 = 30
   ·rw [if_pos c4] at H
    have c4b0 : (a0 == 30) = true := beq_iff_eq.mpr c4
    have c4b1 : (a0 != 30) = false := bne_eq_false_iff_eq.mpr c4
    clear c4
    obtain rfl := Option.some.inj H
    go_enter Tryd.func53, Tryd.ntmps53
    go_wp2
    go_ret
    exact ⟨by first | rfl | (simp; done) | (simp [*]; done), by repeat (first | exact Drawn0.refl _ | apply Drawn0.step)⟩
   ·rw [if_neg c4] at H
    have c4b0 : (a0 == 30) = false := beq_eq_false_iff_ne.mpr c4
    have c4b1 : (a0 != 30) = true := bne_iff_ne.mpr c4
    by_cases c5 : a0 ≥ 64
    ·rw [if_pos c5] at H
     have c5b0 : decide (64 ≤ a0) = true := decide_eq_true c5
     clear c5
     obtain rfl := Option.some.inj H
     go_enter Tryd.func53, Tryd.ntmps53
     go_wp2
     go_ret
     exact ⟨by first | rfl | (simp; done) | (simp [*]; done), by repeat (first | exact Drawn0.refl _ | apply Drawn0.step)⟩
    ·rw [if_neg c5] at H
     have c5b0 : decide (64 ≤ a0) = false := decide_eq_false c5
     clear c5
     obtain rfl := Option.some.inj H
     go_enter Tryd.func53, Tryd.ntmps53
     go_wp2
     go_ret
     exact ⟨by first | rfl | (simp; done) | (simp [*]; done), by repeat (first | exact Drawn0.refl _ | apply Drawn0.step)⟩

/-! ### edit_Digit: function 38 -/
def edit_Digit.f (a0 : Int) : Option (Bool) := if a0 ≥ 240 then (if a0 ≤ 249 then (some true) else (if a0 = 96 then (some true) else (some (a0 == 75)))) else (if a0 = 96 then (some true) else (some (a0 == 75)))
set_option maxHeartbeats 8000000 in
set_option maxRecDepth 100000 in
theorem edit_Digit.calls (a0 : Int) (r : Bool) (w : World) (h : edit_Digit.f a0 = some r) :
  Calls Tryd.prog 38 #[.int .u8 a0] w fun e w' => e = .returned (.bool r) ∧ Drawn0 w w' := by
 have H : (if a0 ≥ 240 then (if a0 ≤ 249 then (some true) else (if a0 = 96 then (some true) else (some (a0 == 75)))) else (if a0 = 96 then (some true) else (some (a0 == 75)))) = some r := h
 clear h
 by_cases c2 : a0 ≥ 240
 ·rw [if_pos c2] at H
  have c2b0 : decide (240 ≤ a0) = true := decide_eq_true c2
  clear c2
  by_cases c3 : a0 ≤ 249
  ·rw [if_pos c3] at H
   have c3b0 : decide (a0 ≤ 249) = true := decide_eq_true c3
   clear c3
   obtain rfl := Option.some.inj H
   go_enter Tryd.func38, Tryd.ntmps38
   go_wp2
   go_ret
   exact ⟨by first | rfl | (simp; done) | (simp [*]; done), by repeat (first | exact Drawn0.refl _ | apply Drawn0.step)⟩
  ·rw [if_neg c3] at H
   have c3b0 : decide (a0 ≤ 249) = false := decide_eq_false c3
   clear c3
   by_cases c4 : a0 = 96
   ·rw [if_pos c4] at H
    have c4b0 : (a0 == 96) = true := beq_iff_eq.mpr c4
    have c4b1 : (a0 != 96) = false := bne_eq_false_iff_eq.mpr c4
    clear c4
    obtain rfl := Option.some.inj H
    go_enter Tryd.func38, Tryd.ntmps38
    go_wp2
    go_ret
    exact ⟨by first | rfl | (simp; done) | (simp [*]; done), by repeat (first | exact Drawn0.refl _ | apply Drawn0.step)⟩
   ·rw [if_neg c4] at H
    have c4b0 : (a0 == 96) = false := beq_eq_false_iff_ne.mpr c4
    have c4b1 : (a0 != 96) = true := bne_iff_ne.mpr c4
    obtain rfl := Option.some.inj H
    go_enter Tryd.func38, Tryd.ntmps38
    go_wp2
    go_ret
    exact ⟨by first | rfl | (simp; done) | (simp [*]; done), by repeat (first | exact Drawn0.refl _ | apply Drawn0.step)⟩
 ·rw [if_neg c2] at H
  have c2b0 : decide (240 ≤ a0) = false := decide_eq_false c2
  clear c2
  by_cases c5 : a0 = 96
  ·rw [if_pos c5] at H
   have c5b0 : (a0 == 96) = true := beq_iff_eq.mpr c5
   have c5b1 : (a0 != 96) = false := bne_eq_false_iff_eq.mpr c5
   clear c5
   obtain rfl := Option.some.inj H
   go_enter Tryd.func38, Tryd.ntmps38
   go_wp2
   go_ret
   exact ⟨by first | rfl | (simp; done) | (simp [*]; done), by repeat (first | exact Drawn0.refl _ | apply Drawn0.step)⟩
  ·rw [if_neg c5] at H
   have c5b0 : (a0 == 96) = false := beq_eq_false_iff_ne.mpr c5
   have c5b1 : (a0 != 96) = true := bne_iff_ne.mpr c5
   obtain rfl := Option.some.inj H
   go_enter Tryd.func38, Tryd.ntmps38
   go_wp2
   go_ret
   exact ⟨by first | rfl | (simp; done) | (simp [*]; done), by repeat (first | exact Drawn0.refl _ | apply Drawn0.step)⟩

/-! ### edit_fits: function 54 -/
def edit_fits.j0 : Nat → Int → Bool → Int → Int → List (S35) → Int → Bool → Bool → Option (Option Er × (List (S164)))
 | 0, _, _, _, _, _, _, _, _ => none
 | k + 1, x1, x12, x147000, x147001, x147002, x147003, x147004, x147005 => if x12 = true then (some (none, ([] : List (S164)))) else ((field_Of.f x147000 x147001 x147002 x147003 x147004 x147005 x147003).bind fun bt148 => (if bt148.2.1 = true then ((edit_Digit.f x1).bind fun t152 => (if t152 = true then (some (none, ([] : List (S164)))) else (some (some (Er.num 9), ([] : List (S164)))))) else (some (none, ([] : List (S164))))))
def edit_fits.f (k : Nat) (a0_0 : Int) (a0_1 : Int) (l0_2 : List (S35)) (a0_3 : Int) (a0_4 : Bool) (a0_5 : Bool) (a1 : Int) : Option (Option Er × (List (S164))) := (field_Open.f a0_0 a0_1 l0_2 a0_3 a0_4 a0_5 a0_3).bind fun t147 => (if t147 = true then (if a1 = 28 then (edit_fits.j0 k a1 true a0_0 a0_1 l0_2 a0_3 a0_4 a0_5) else (edit_fits.j0 k a1 (a1 == 30) a0_0 a0_1 l0_2 a0_3 a0_4 a0_5)) else (some (some (Er.num 8), ([] : List (S164)))))
theorem edit_fits.mono_l : ∀ k, (∀ y0 y1 y2 y3 y4 y5 y6 y7, LeO (edit_fits.j0 k y0 y1 y2 y3 y4 y5 y6 y7) (edit_fits.j0 (k + 1) y0 y1 y2 y3 y4 y5 y6 y7))
 | 0 => fun _ _ _ _ _ _ _ _ r h => by simp [edit_fits.j0] at h
 | k + 1 => by
  have ih0 := edit_fits.mono_l k
  ·intro y0 y1 y2 y3 y4 y5 y6 y7
   unfold edit_fits.j0
   repeat' first
   | (with_reducible exact ih0 _ _ _ _ _ _ _ _)
   | (with_reducible exact LeO.refl _)
   | (with_reducible exact LeO.none _)
   | (with_reducible refine LeO.ite ?_ ?_)
   | (with_reducible refine LeO.bind ?_ (fun _ => ?_))
   | exact ih0 _ _ _ _ _ _ _ _
   | exact LeO.none _
   | refine LeO.ite ?_ ?_
   | refine LeO.bind ?_ (fun _ => ?_)
theorem edit_fits.mono : ∀ a0 a1 a2 a3 a4 a5 a6 k, LeO (edit_fits.f k a0 a1 a2 a3 a4 a5 a6) (edit_fits.f (k + 1) a0 a1 a2 a3 a4 a5 a6) := by
 intro a0 a1 a2 a3 a4 a5 a6 k
 have ih0 := edit_fits.mono_l k
 unfold edit_fits.f
 repeat' first
   | (with_reducible exact ih0 _ _ _ _ _ _ _ _)
   | (with_reducible exact LeO.refl _)
   | (with_reducible exact LeO.none _)
   | (with_reducible refine LeO.ite ?_ ?_)
   | (with_reducible refine LeO.bind ?_ (fun _ => ?_))
   | exact ih0 _ _ _ _ _ _ _ _
   | exact LeO.none _
   | refine LeO.ite ?_ ?_
   | refine LeO.bind ?_ (fun _ => ?_)
set_option maxHeartbeats 8000000 in
set_option maxRecDepth 100000 in
theorem edit_fits.calls (k : Nat) (a0_0 : Int) (a0_1 : Int) (A0_2 : Option Addr) (c0_2 : Nat) (l0_2 : List (S35)) (a0_3 : Int) (a0_4 : Bool) (a0_5 : Bool) (a1 : Int) (r1 : Option Er) (r2 : List (S164)) (w : World) (hr0_2 : Kd.C k35 w A0_2 l0_2.length l0_2) (hc0_2 : l0_2.length ≤ c0_2) (h : edit_fits.f k a0_0 a0_1 l0_2 a0_3 a0_4 a0_5 a1 = some (r1, r2)) :
  Calls Tryd.prog 54 #[.agg #[.int .i64 a0_0, .int .i64 a0_1, .slice A0_2 l0_2.length c0_2, .int .i64 a0_3, .bool a0_4, .bool a0_5], .int .u8 a1] w fun e w' => ∃ v1_ : Value, e = .returned (errW v1_ r1) ∧ Kd.V k164 164 w' w.heap.size (fun k_ => (w.heap.size ≤ k_)) v1_ r2 ∧ Below w.heap.size w w' := by
 have hu24 := Tryd.underlying24
 have hu33 := Tryd.underlying33
 have hu28 := Tryd.underlying28
 have hu52 := Tryd.underlying52
 have HR0_2 := Aside0.mk hr0_2
 have HC0_2 := Aside0.mk hc0_2
 clear hr0_2 hc0_2
 have HB := Aside0.mk (Below.refl w.heap.size w)
 have H : ((field_Open.f a0_0 a0_1 l0_2 a0_3 a0_4 a0_5 a0_3).bind fun t147 => (if t147 = true then (if a1 = 28 then (edit_fits.j0 k a1 true a0_0 a0_1 l0_2 a0_3 a0_4 a0_5) else (edit_fits.j0 k a1 (a1 == 30) a0_0 a0_1 l0_2 a0_3 a0_4 a0_5)) else (some (some (Er.num 8), ([] : List (S164)))))) = some (r1, r2) := h
 clear h
 replace H := Option.bind_eq_some_iff.mp H
 obtain ⟨t147, A30, H⟩ := H
 replace H : (if t147 = true then (if a1 = 28 then (edit_fits.j0 k a1 true a0_0 a0_1 l0_2 a0_3 a0_4 a0_5) else (edit_fits.j0 k a1 (a1 == 30) a0_0 a0_1 l0_2 a0_3 a0_4 a0_5)) else (some (some (Er.num 8), ([] : List (S164))))) = some (r1, r2) := H
 have A3 := Aside0.mk A30
 clear A30
 by_cases c4 : t147 = true
 ·subst c4
  have H1 : (if a1 = 28 then (edit_fits.j0 k a1 true a0_0 a0_1 l0_2 a0_3 a0_4 a0_5) else (edit_fits.j0 k a1 (a1 == 30) a0_0 a0_1 l0_2 a0_3 a0_4 a0_5)) = some (r1, r2) := by rw [if_pos rfl] at H; exact H
  clear H
  have H := H1
  clear H1
  have HC5 := Aside0.mk H
  clear H
  go_enter Tryd.func54, Tryd.ntmps54
  go_upto_region 3 with (first | ((with_reducible refine gate_dst (N := 2) rfl ?_); refine box_event ?hg (N := 2) ?hd (cs := #[.int .i64 a0_0, .int .i64 a0_1, .slice A0_2 l0_2.length c0_2, .int .i64 a0_3, .bool a0_4, .bool a0_5]) (t := 24) ?hr ?_; (case hd => rfl); (case hg => rfl); (case hr => first | (go_simp; done) | (go_simp; rfl)); intro gb146 hg w6 hbox hb; have n0_ := Aside0.mk (below_step bl_ hb); have n1_ := Aside0.mk (hbox); have n2_ := Aside0.mk ((le_new hg (below_size bl_) : w.heap.size ≤ gb146)); have n3_ := Aside0.mk ((le_new hg (below_size bl_) : w.heap.size ≤ gb146)); clear HB; have HB := n0_; have BK146 := n1_; have GW146 := n2_; have GE146 := n3_; clear n0_ n1_ n2_ n3_; clear hb hbox hg; obtain ⟨hcz7_0, hcz7_1, hcz7_2, hcz7_3, hcz7_4, hcz7_5, hfz7_0, hfz7_1, hfz7_2, hfz7_3, hfz7_4, hfz7_5⟩ := cells6 (show w6.heap[gb146]? = some (.cells #[.int .i64 a0_0, .int .i64 a0_1, .slice A0_2 l0_2.length c0_2, .int .i64 a0_3, .bool a0_4, .bool a0_5] _ (0, 0)) from BK146.out)) | ((with_reducible refine gate_callee (f := 44) rfl ?_); refine goesL_ (some 9) rfl rfl Tryd.func44 (by kernel_rfl) rfl #[.agg #[.int .i64 a0_0, .int .i64 a0_1, .slice A0_2 l0_2.length c0_2, .int .i64 a0_3, .bool a0_4, .bool a0_5], .int .i64 a0_3] rfl ag_ ?_; (with_reducible refine (field_Open.calls a0_0 a0_1 _ _ l0_2 a0_3 a0_4 a0_5 a0_3 true _ ?side1 ?side2 A3.out).mono ?_); (case side1 => repeat (first | exact (Kd.C_below HR0_2.out HB.out) | (with_reducible apply pC))); (case side2 => exact HC0_2.out); rintro e w8 ⟨rfl, hb⟩; refine ⟨_, rfl, ?_⟩; have n0_ := Aside0.mk (blk_below (g := gb146) (o := .cells #[.int .i64 a0_0, .int .i64 a0_1, .slice A0_2 l0_2.length c0_2, .int .i64 a0_3, .bool a0_4, .bool a0_5] 24 (0, 0)) (by (with_reducible repeat apply pK); exact BK146.out) hb); have n1_ := Aside0.mk (below_step bl_ hb); clear BK146; clear HB; have BK146 := n0_; have HB := n1_; clear n0_ n1_; (try clear hb); (try clear hb2); (try clear hk); (try clear hi)))
  (try simp only [Act.put, List.setIfInBounds_toArray, List.set_cons_zero, List.set_cons_succ])
  go_cut [12] (fun v12 wc => ∃ (kq : Nat) (x12_4 : Bool), v12 = .bool x12_4 ∧ Aside0 (edit_fits.j0 kq a1 x12_4 a0_0 a0_1 l0_2 a0_3 a0_4 a0_5 = some (r1, r2)) ∧ Aside0 (kq ≤ k) ∧ Aside0 (wc.heap[gb146]? = some (.cells #[.int .i64 a0_0, .int .i64 a0_1, (.slice A0_2 l0_2.length c0_2), .int .i64 a0_3, .bool a0_4, .bool a0_5] 24 (0, 0))) ∧ Aside0 (Below w.heap.size w wc))
  case first =>
   have H := HC5.out
   clear HC5
   by_cases c9 : a1 = 28
   ·rw [if_pos c9] at H
    have c9b0 : (a1 == 28) = true := beq_iff_eq.mpr c9
    have c9b1 : (a1 != 28) = false := bne_eq_false_iff_eq.mpr c9
    clear c9
    (first | rw [c9b0] | (simp only [i64_w, i32_w]; rw [c9b0]) | skip)
    have H' := Aside0.mk H
    clear H
    go_wp2
    go_meet
    case rel => exact ⟨_, (true), (by first | rfl | (simp; done) | (simp [*]; done)), H', ⟨by first | omega | exact Nat.le_refl _⟩, ⟨by (with_reducible repeat apply pK); exact BK146.out⟩, ⟨bl_⟩⟩
   ·rw [if_neg c9] at H
    have c9b0 : (a1 == 28) = false := beq_eq_false_iff_ne.mpr c9
    have c9b1 : (a1 != 28) = true := bne_iff_ne.mpr c9
    (first | rw [c9b0] | (simp only [i64_w, i32_w]; rw [c9b0]) | skip)
    have H' := Aside0.mk H
    clear H
    go_wp2
    go_meet
    case rel => exact ⟨_, ((a1 == 30)), (by first | rfl | (simp; done) | (simp [*]; done)), H', ⟨by first | omega | exact Nat.le_refl _⟩, ⟨by (with_reducible repeat apply pK); exact BK146.out⟩, ⟨bl_⟩⟩
  case rest =>
   clear HC5
   try clear p2
   try clear c4
   try clear c5
   try clear c9
   try clear c9b0
   try clear c9b1
   try clear hcz7_0
   try clear hcz7_1
   try clear hcz7_2
   try clear hcz7_3
   try clear hcz7_4
   try clear hcz7_5
   try clear hfz7_0
   try clear hfz7_1
   try clear hfz7_2
   try clear hfz7_3
   try clear hfz7_4
   try clear hfz7_5
   obtain ⟨kq, x12_4, rfl, HA, HJ4, BK146, HB⟩ := hcut
   cases kq with
   | zero => exact absurd HA.out (by simp [edit_fits.j0])
   | succ kj4 =>
    have H := HA.out
    clear HA
    simp only [edit_fits.j0] at H
    by_cases c10 : x12_4 = true
    ·subst c10
     have H1 : (some (none, ([] : List (S164)))) = some (r1, r2) := by rw [if_pos rfl] at H; exact H
     clear H
     have H := H1
     clear H1
     simp only [Option.some.injEq, Prod.mk.injEq] at H
     obtain ⟨rfl, rfl⟩ := H
     go_wp2
     go_ret
     exact ⟨_, by first | rfl | (simp [errW_none, errW_some] <;> rfl) | (simp [*, errW_none, errW_some] <;> rfl), Kd.R_V (by first | exact Kd.R_nil _ _ _ 0 _ | exact Kd.N_nil _ _ _ _ _ | exact Kd.V_nil _ _ _ _ _ | exact Kd.Q_nil _ _ _ _ _ | exact Kd.S_nil _ _ _ _ _), bl_⟩
    ·replace c10 := Bool.eq_false_iff.mpr c10
     subst c10
     have H1 : ((field_Of.f a0_0 a0_1 l0_2 a0_3 a0_4 a0_5 a0_3).bind fun bt148 => (if bt148.2.1 = true then ((edit_Digit.f a1).bind fun t152 => (if t152 = true then (some (none, ([] : List (S164)))) else (some (some (Er.num 9), ([] : List (S164)))))) else (some (none, ([] : List (S164)))))) = some (r1, r2) := by rw [if_neg (show ¬ (false = true) by decide)] at H; exact H
     clear H
     have H := H1
     clear H1
     replace H := Option.bind_eq_some_iff.mp H
     obtain ⟨⟨t148, t149, t150, t151⟩, A110, H⟩ := H
     replace H : (if t149 = true then ((edit_Digit.f a1).bind fun t152 => (if t152 = true then (some (none, ([] : List (S164)))) else (some (some (Er.num 9), ([] : List (S164)))))) else (some (none, ([] : List (S164))))) = some (r1, r2) := H
     have A11 := Aside0.mk A110
     clear A110
     by_cases c12 : t149 = true
     ·subst c12
      have H1 : ((edit_Digit.f a1).bind fun t152 => (if t152 = true then (some (none, ([] : List (S164)))) else (some (some (Er.num 9), ([] : List (S164)))))) = some (r1, r2) := by rw [if_pos rfl] at H; exact H
      clear H
      have H := H1
      clear H1
      replace H := Option.bind_eq_some_iff.mp H
      obtain ⟨t152, A130, H⟩ := H
      replace H : (if t152 = true then (some (none, ([] : List (S164)))) else (some (some (Er.num 9), ([] : List (S164))))) = some (r1, r2) := H
      have A13 := Aside0.mk A130
      clear A130
      by_cases c14 : t152 = true
      ·subst c14
       have H1 : (some (none, ([] : List (S164)))) = some (r1, r2) := by rw [if_pos rfl] at H; exact H
       clear H
       have H := H1
       clear H1
       simp only [Option.some.injEq, Prod.mk.injEq] at H
       obtain ⟨rfl, rfl⟩ := H
       obtain ⟨hcz15_0, hcz15_1, hcz15_2, hcz15_3, hcz15_4, hcz15_5, hfz15_0, hfz15_1, hfz15_2, hfz15_3, hfz15_4, hfz15_5⟩ := cells6 (show wc.heap[gb146]? = some (.cells #[.int .i64 a0_0, .int .i64 a0_1, .slice A0_2 l0_2.length c0_2, .int .i64 a0_3, .bool a0_4, .bool a0_5] _ (0, 0)) from BK146.out)
       go_wp2_with (first | ((with_reducible refine gate_callee (f := 69) rfl ?_); refine goesL_ (some 23) rfl rfl Tryd.func69 (by kernel_rfl) rfl #[.agg #[.int .i64 a0_0, .int .i64 a0_1, .slice A0_2 l0_2.length c0_2, .int .i64 a0_3, .bool a0_4, .bool a0_5], .int .i64 a0_3] rfl ag_ ?_; (with_reducible refine (field_Of.calls a0_0 a0_1 _ _ l0_2 a0_3 a0_4 a0_5 a0_3 t148 true t150 t151 _ ?side1 ?side2 A11.out).mono ?_); (case side1 => repeat (first | exact (Kd.C_below HR0_2.out HB.out) | (with_reducible apply pC))); (case side2 => exact HC0_2.out); rintro e w16 ⟨rfl, hb⟩; refine ⟨_, rfl, ?_⟩; have n0_ := Aside0.mk (blk_below (g := gb146) (o := .cells #[.int .i64 a0_0, .int .i64 a0_1, .slice A0_2 l0_2.length c0_2, .int .i64 a0_3, .bool a0_4, .bool a0_5] 24 (0, 0)) (by (with_reducible repeat apply pK); exact BK146.out) hb); have n1_ := Aside0.mk (below_step bl_ hb); clear BK146; clear HB; have BK146 := n0_; have HB := n1_; clear n0_ n1_; (try clear hb); (try clear hb2); (try clear hk); (try clear hi)) | (go_at_call 38; (with_reducible refine (edit_Digit.calls a1 true _ A13.out).mono ?_); rintro e w' ⟨rfl, ⟨nd, rfl⟩⟩))
       go_ret
       exact ⟨_, by first | rfl | (simp [errW_none, errW_some] <;> rfl) | (simp [*, errW_none, errW_some] <;> rfl), Kd.R_V (by first | exact Kd.R_nil _ _ _ 0 _ | exact Kd.N_nil _ _ _ _ _ | exact Kd.V_nil _ _ _ _ _ | exact Kd.Q_nil _ _ _ _ _ | exact Kd.S_nil _ _ _ _ _), bl_⟩
      ·replace c14 := Bool.eq_false_iff.mpr c14
       subst c14
       have H1 : (some (some (Er.num 9), ([] : List (S164)))) = some (r1, r2) := by rw [if_neg (show ¬ (false = true) by decide)] at H; exact H
       clear H
       have H := H1
       clear H1
       simp only [Option.some.injEq, Prod.mk.injEq] at H
       obtain ⟨rfl, rfl⟩ := H
       obtain ⟨hcz17_0, hcz17_1, hcz17_2, hcz17_3, hcz17_4, hcz17_5, hfz17_0, hfz17_1, hfz17_2, hfz17_3, hfz17_4, hfz17_5⟩ := cells6 (show wc.heap[gb146]? = some (.cells #[.int .i64 a0_0, .int .i64 a0_1, .slice A0_2 l0_2.length c0_2, .int .i64 a0_3, .bool a0_4, .bool a0_5] _ (0, 0)) from BK146.out)
       go_wp2_with (first | ((with_reducible refine gate_callee (f := 69) rfl ?_); refine goesL_ (some 23) rfl rfl Tryd.func69 (by kernel_rfl) rfl #[.agg #[.int .i64 a0_0, .int .i64 a0_1, .slice A0_2 l0_2.length c0_2, .int .i64 a0_3, .bool a0_4, .bool a0_5], .int .i64 a0_3] rfl ag_ ?_; (with_reducible refine (field_Of.calls a0_0 a0_1 _ _ l0_2 a0_3 a0_4 a0_5 a0_3 t148 true t150 t151 _ ?side1 ?side2 A11.out).mono ?_); (case side1 => repeat (first | exact (Kd.C_below HR0_2.out HB.out) | (with_reducible apply pC))); (case side2 => exact HC0_2.out); rintro e w18 ⟨rfl, hb⟩; refine ⟨_, rfl, ?_⟩; have n0_ := Aside0.mk (blk_below (g := gb146) (o := .cells #[.int .i64 a0_0, .int .i64 a0_1, .slice A0_2 l0_2.length c0_2, .int .i64 a0_3, .bool a0_4, .bool a0_5] 24 (0, 0)) (by (with_reducible repeat apply pK); exact BK146.out) hb); have n1_ := Aside0.mk (below_step bl_ hb); clear BK146; clear HB; have BK146 := n0_; have HB := n1_; clear n0_ n1_; (try clear hb); (try clear hb2); (try clear hk); (try clear hi)) | (go_at_call 38; (with_reducible refine (edit_Digit.calls a1 false _ A13.out).mono ?_); rintro e w' ⟨rfl, ⟨nd, rfl⟩⟩))
       go_ret
       exact ⟨_, by first | rfl | (simp [errW_none, errW_some] <;> rfl) | (simp [*, errW_none, errW_some] <;> rfl), Kd.R_V (by first | exact Kd.R_nil _ _ _ 0 _ | exact Kd.N_nil _ _ _ _ _ | exact Kd.V_nil _ _ _ _ _ | exact Kd.Q_nil _ _ _ _ _ | exact Kd.S_nil _ _ _ _ _), bl_⟩
     ·replace c12 := Bool.eq_false_iff.mpr c12
      subst c12
      have H1 : (some (none, ([] : List (S164)))) = some (r1, r2) := by rw [if_neg (show ¬ (false = true) by decide)] at H; exact H
      clear H
      have H := H1
      clear H1
      simp only [Option.some.injEq, Prod.mk.injEq] at H
      obtain ⟨rfl, rfl⟩ := H
      obtain ⟨hcz19_0, hcz19_1, hcz19_2, hcz19_3, hcz19_4, hcz19_5, hfz19_0, hfz19_1, hfz19_2, hfz19_3, hfz19_4, hfz19_5⟩ := cells6 (show wc.heap[gb146]? = some (.cells #[.int .i64 a0_0, .int .i64 a0_1, .slice A0_2 l0_2.length c0_2, .int .i64 a0_3, .bool a0_4, .bool a0_5] _ (0, 0)) from BK146.out)
      go_wp2_with (first | ((with_reducible refine gate_callee (f := 69) rfl ?_); refine goesL_ (some 23) rfl rfl Tryd.func69 (by kernel_rfl) rfl #[.agg #[.int .i64 a0_0, .int .i64 a0_1, .slice A0_2 l0_2.length c0_2, .int .i64 a0_3, .bool a0_4, .bool a0_5], .int .i64 a0_3] rfl ag_ ?_; (with_reducible refine (field_Of.calls a0_0 a0_1 _ _ l0_2 a0_3 a0_4 a0_5 a0_3 t148 false t150 t151 _ ?side1 ?side2 A11.out).mono ?_); (case side1 => repeat (first | exact (Kd.C_below HR0_2.out HB.out) | (with_reducible apply pC))); (case side2 => exact HC0_2.out); rintro e w20 ⟨rfl, hb⟩; refine ⟨_, rfl, ?_⟩; have n0_ := Aside0.mk (blk_below (g := gb146) (o := .cells #[.int .i64 a0_0, .int .i64 a0_1, .slice A0_2 l0_2.length c0_2, .int .i64 a0_3, .bool a0_4, .bool a0_5] 24 (0, 0)) (by (with_reducible repeat apply pK); exact BK146.out) hb); have n1_ := Aside0.mk (below_step bl_ hb); clear BK146; clear HB; have BK146 := n0_; have HB := n1_; clear n0_ n1_; (try clear hb); (try clear hb2); (try clear hk); (try clear hi)))
      go_ret
      exact ⟨_, by first | rfl | (simp [errW_none, errW_some] <;> rfl) | (simp [*, errW_none, errW_some] <;> rfl), Kd.R_V (by first | exact Kd.R_nil _ _ _ 0 _ | exact Kd.N_nil _ _ _ _ _ | exact Kd.V_nil _ _ _ _ _ | exact Kd.Q_nil _ _ _ _ _ | exact Kd.S_nil _ _ _ _ _), bl_⟩
 ·replace c4 := Bool.eq_false_iff.mpr c4
  subst c4
  have H1 : (some (some (Er.num 8), ([] : List (S164)))) = some (r1, r2) := by rw [if_neg (show ¬ (false = true) by decide)] at H; exact H
  clear H
  have H := H1
  clear H1
  simp only [Option.some.injEq, Prod.mk.injEq] at H
  obtain ⟨rfl, rfl⟩ := H
  go_enter Tryd.func54, Tryd.ntmps54
  go_wp2_with (first | ((with_reducible refine gate_dst (N := 2) rfl ?_); refine box_event ?hg (N := 2) ?hd (cs := #[.int .i64 a0_0, .int .i64 a0_1, .slice A0_2 l0_2.length c0_2, .int .i64 a0_3, .bool a0_4, .bool a0_5]) (t := 24) ?hr ?_; (case hd => rfl); (case hg => rfl); (case hr => first | (go_simp; done) | (go_simp; rfl)); intro gb146 hg w21 hbox hb; have n0_ := Aside0.mk (below_step bl_ hb); have n1_ := Aside0.mk (hbox); have n2_ := Aside0.mk ((le_new hg (below_size bl_) : w.heap.size ≤ gb146)); have n3_ := Aside0.mk ((le_new hg (below_size bl_) : w.heap.size ≤ gb146)); clear HB; have HB := n0_; have BK146 := n1_; have GW146 := n2_; have GE146 := n3_; clear n0_ n1_ n2_ n3_; clear hb hbox hg; obtain ⟨hcz22_0, hcz22_1, hcz22_2, hcz22_3, hcz22_4, hcz22_5, hfz22_0, hfz22_1, hfz22_2, hfz22_3, hfz22_4, hfz22_5⟩ := cells6 (show w21.heap[gb146]? = some (.cells #[.int .i64 a0_0, .int .i64 a0_1, .slice A0_2 l0_2.length c0_2, .int .i64 a0_3, .bool a0_4, .bool a0_5] _ (0, 0)) from BK146.out)) | ((with_reducible refine gate_callee (f := 44) rfl ?_); refine goesL_ (some 9) rfl rfl Tryd.func44 (by kernel_rfl) rfl #[.agg #[.int .i64 a0_0, .int .i64 a0_1, .slice A0_2 l0_2.length c0_2, .int .i64 a0_3, .bool a0_4, .bool a0_5], .int .i64 a0_3] rfl ag_ ?_; (with_reducible refine (field_Open.calls a0_0 a0_1 _ _ l0_2 a0_3 a0_4 a0_5 a0_3 false _ ?side1 ?side2 A3.out).mono ?_); (case side1 => repeat (first | exact (Kd.C_below HR0_2.out HB.out) | (with_reducible apply pC))); (case side2 => exact HC0_2.out); rintro e w23 ⟨rfl, hb⟩; refine ⟨_, rfl, ?_⟩; have n0_ := Aside0.mk (blk_below (g := gb146) (o := .cells #[.int .i64 a0_0, .int .i64 a0_1, .slice A0_2 l0_2.length c0_2, .int .i64 a0_3, .bool a0_4, .bool a0_5] 24 (0, 0)) (by (with_reducible repeat apply pK); exact BK146.out) hb); have n1_ := Aside0.mk (below_step bl_ hb); clear BK146; clear HB; have BK146 := n0_; have HB := n1_; clear n0_ n1_; (try clear hb); (try clear hb2); (try clear hk); (try clear hi)))
  go_ret
  exact ⟨_, by first | rfl | (simp [errW_none, errW_some] <;> rfl) | (simp [*, errW_none, errW_some] <;> rfl), Kd.R_V (by first | exact Kd.R_nil _ _ _ 0 _ | exact Kd.N_nil _ _ _ _ _ | exact Kd.V_nil _ _ _ _ _ | exact Kd.Q_nil _ _ _ _ _ | exact Kd.S_nil _ _ _ _ _), bl_⟩

-- NOT PRINTED: function 78 (slices_IndexFunc_int_int)

end Go.Proofs.YtggecanpjkpkiaaDoor.P
