/- Printed walks of the law's functions, joined by joinpx.py: each function as a plain Lean function, and that Go's code comes to its answer. -/
import Derived.Test.YtggecanpjkpkiaaDoorJKeysKeeps1
import Derived.Test.YtggecanpjkpkiaaDoorPx3
import Derived.Test.YtggecanpjkpkiaaDoorJKeysKeeps3
namespace Go.Proofs.YtggecanpjkpkiaaDoor.P
open Go.RowKit Go.Proofs.YtggecanpjkpkiaaDoorW.PrintWords Go.Proofs.YtggecanpjkpkiaaDoorW.PrintLast Go.Proofs.YtggecanpjkpkiaaDoorW.PrintMore
attribute [local go_sem] max2_int min2_int max_two min_two max_three min_three max_four min_four
attribute [local go_sem] Instr.field asAgg
set_option linter.unusedVariables false
set_option linter.unusedSimpArgs false
set_option maxHeartbeats 8000000
set_option maxRecDepth 100000
section
open Go.Shelf
attribute [local go_sem] Oper.semAt_some
def takeW (p : Int → Bool) (g : Nat → Int) : Nat → Nat → List Int
 | 0, _ => []
 | c + 1, s => if p (g s) = true then [] else g s :: takeW p g c (s + 1)
theorem uptoI_front {α : Type} (f : Nat → α) (k : Nat) : uptoI f (k + 1) = f 0 :: uptoI (fun j => f (j + 1)) k := by
 simp [uptoI, List.range_succ_eq_map, Function.comp_def]
theorem takeW_eq (p : Int → Bool) (g : Nat → Int) : ∀ c s k, k ≤ c → (∀ i, i < k → p (g (s + i)) = false) → (k = c ∨ p (g (s + k)) = true) → takeW p g c s = uptoI (fun j => g (s + j)) k
 | 0, s, k, d, b, a => by
  obtain rfl : k = 0 := by omega
  rfl
 | c + 1, s, k, d, b, a => by
  unfold takeW
  rcases k with _ | k
  ·rcases a with a | a
   ·omega
   ·rw [if_pos (by simpa using a)]; rfl
  ·rw [if_neg (by have := b 0 (by omega); simp at this; rw [this]; decide), uptoI_front]
   have := takeW_eq p g c (s + 1) k (by omega) (fun i hi => by have := b (i + 1) (by omega); rw [show s + 1 + i = s + (i + 1) by omega]; exact this) (by
    rcases a with a | a
    ·left; omega
    ·right; rw [show s + 1 + k = s + (k + 1) by omega]; exact a)
   rw [this]
   simp only [Nat.add_zero]
   congr 1
   congr 1
   funext j
   rw [show s + 1 + j = s + (j + 1) by omega]
def cellsI (l : List S35) (a : Int) : List Int := if beginI l a < 0 then uptoI (fun j => (j : Int)) l.length else takeW (isF l) (wayI l.length (beginI l a) 1) l.length 0
theorem Cells_none (r c : Int) (A : Option Addr) (cp : Nat) (l : List S35) (cu : Int) (lo ins : Bool) (a : Int) (w : World) (hr : Kd.C k35 w A l.length l) (hc : l.length ≤ cp) (hn : l.length ≤ 16383) (u : 0 ≤ a) (x : a < l.length) (hb : beginI l a = -1) :
  CallsIn Fence.wide 5 Tryd.prog 50 #[.agg #[.int .i64 r, .int .i64 c, .slice A l.length cp, .int .i64 cu, .bool lo, .bool ins], .int .i64 a] w fun e w' => ∃ v : Value, e = .returned v ∧ Kd.R (Kd.int .i64) 3 w' w.heap.size (fun _ => True) v (cellsI l a) ∧ Below w.heap.size w w' := by
 have hE : cellsI l a = uptoI (fun j => (j : Int)) l.length := by rw [cellsI, hb]; rfl
 rw [hE]
 have hBg := Z (fun W hr => field_Begin.calls r c A cp l cu lo ins a (-1) W hr hc (by unfold field_Begin.f; rw [if_pos hn, if_pos u, if_pos x, hb]))
 clear hE hb
 have HR := Z hr
 clear hr
 obtain ⟨i0, hi, q, s, t⟩ := info_parts infoInt
 have y := Tryd.underlying24
 refine callsIn_of_wp Tryd.func50 rfl trivial ?_ rfl
 simp only [Tryd.ntmps50, List.size_toArray, List.length_cons, List.length_nil, Nat.reduceAdd, Nat.reduceSub, Array.replicate_succ, Array.replicate_zero, List.push_toArray, List.append_toArray, List.nil_append, List.cons_append]
 have d : Below w.heap.size w ((w.alloc (.cells #[.int .i64 r, .int .i64 c, .slice A l.length cp, .int .i64 cu, .bool lo, .bool ins] 24)).alloc (.cells #[.slice none 0 0] 41)) := below_alloc (below_alloc (Below.refl _ _) _) _
 have k1 := blk_alloc (blk_new w (.cells #[.int .i64 r, .int .i64 c, .slice A l.length cp, .int .i64 cu, .bool lo, .bool ins] 24)) (.cells #[.slice none 0 0] 41)
 have k2 := Boxed.new (w.alloc (.cells #[.int .i64 r, .int .i64 c, .slice A l.length cp, .int .i64 cu, .bool lo, .bool ins] 24)) 41 (.slice none 0 0)
 simp only [World.size_alloc] at k2
 gi_wp2_with (refine ⟨trivial, ?_⟩; gi_at_call 62; refine (callsIn_wide.2 (hBg.out _ (Kd.C_below HR.out d))).mono ?_; rintro e w1 ⟨rfl, b⟩; have g := below_step d b; have hS := blk_below k1 b; have hO : Boxed w1 (w.heap.size + 1) 41 (.slice none 0 0) := blk_below k2 b; clear b k1 k2; have z := (blk_cell hS 2).trans rfl)
 gi_loopw [17] (fun i wr => ∃ k : Nat, k ≤ l.length ∧ i = .int .i64 k ∧ Aside0 (∃ v, Boxed wr (w.heap.size + 1) 41 v ∧ wr.ownsRow w.heap.size 3 1 v k ((uptoI (fun j => (j : Int)) k).map (Value.int .i64))) ∧ Aside0 (Below w.heap.size w wr))
  (fun i _ => l.length - (intOf i).toNat)
 case atStart => exact ⟨0, Nat.zero_le _, rfl, ⟨_, hO, World.ownsRow_nil _ _ _ _⟩, ⟨g⟩⟩
 case round =>
  clear hO g hS z
  obtain ⟨k, hk, rfl, ⟨v, hv, hrow⟩, ⟨hB⟩⟩ := hrel
  by_cases hlt : k < l.length
  ·have o := hv.cell
   gi_wp2_with (gi_at_builtin; refine wpListIn_append_own _ rfl _ _ 41 rfl w.heap.size 3 i0 (.int .i64 0) 1 8 Tryd.underlying41 hi q s t rfl (by decide) _ _ _ rfl (hrow.alloc _) ⟨wr.heap.size, 0, none⟩ 1 1 [.int .i64 (k : Int)] rfl rfl (cell_one_new _ _ _) (by simp [Value.oneCell']) (by simp only [maxLen]; omega) (by omega) (by have := hB.size; simp; omega) ?_; intro v' w1 hown' hgrow _; obtain ⟨g', cap', rfl⟩ := ownsRow_succ hown'; obtain ⟨h, p, n, E, m⟩ := hv.appended (by decide) hrow hB.size (Nat.le_succ _) hown' hgrow; have B := h.cell; have D := h.frozen; clear hgrow hown')
   go_roundw
   case rel => exact ⟨k + 1, by omega, by go_num, ⟨_, p, by rw [uptoI_succ]; simpa using n⟩, ⟨hB.trans m⟩⟩
   case measure => simp [intOf]; omega
  ·obtain rfl : k = l.length := by omega
   have o := hv.cell
   gi_wp2
   go_ret
   exact ⟨v, rfl, Kd.R_of_own (by rw [uptoI_length]; exact hrow) (fun _ _ => trivial), hB⟩
theorem ownsRow_mono {w : World} {base base' : Nat} {e : TypeId} {size : Nat} {v : Value} {n : Nat} {xs : List Value} (h : w.ownsRow base e size v n xs) (hb : base' ≤ base) : w.ownsRow base' e size v n xs := by
 refine ⟨h.1, ?_⟩
 rcases h.2 with b | ⟨g, cap, cur, a, c, r⟩
 ·exact .inl b
 ·exact .inr ⟨g, cap, cur, a, by omega, r⟩
theorem ownsRow_far {w : World} {base k : Nat} {e : TypeId} {size : Nat} {v : Value} {n : Nat} {xs : List Value} (h : w.ownsRow base e size v n xs) (hk : k < base) : some k ≠ v.ownBlock := by
 rcases h.2 with ⟨rfl, _⟩ | ⟨g, cap, cur, rfl, a, r⟩
 ·simp [Value.ownBlock]
 ·intro he; have : k = g := by simpa [Value.ownBlock] using he
  omega
theorem appended_far {W w1 : World} {base B k : Nat} {e : TypeId} {size n : Nat} {v v' : Value} {xs : List Value} {tmp : Obj} (hrow : W.ownsRow base e size v n xs) (hgrow : (W.alloc tmp).grownBy w1 v.ownBlock) (hk : k < base) (hkW : k < W.heap.size) (hkB : k ≠ B) : (w1.setCell ⟨B, 0, none⟩ v').heap[k]? = W.heap[k]? :=
 (Below.heap_setCell _ _ _ k hkB).trans ((hgrow.block k (by simp; omega) (ownsRow_far hrow hk)).trans (Below.heap_alloc _ _ _ hkW))
theorem appended_keep3 {W w1 : World} {base B a b b3 : Nat} {e : TypeId} {size n : Nat} {v v' : Value} {xs : List Value} {tmp : Obj} (hrow : W.ownsRow base e size v n xs) (hgrow : (W.alloc tmp).grownBy w1 v.ownBlock) (hbW : base ≤ W.heap.size) (c : a < base) (d : b < base) (f : b3 < base) (k1 : a ≠ B) (k2 : b ≠ B) (k3 : b3 ≠ B) : Keep3 a b b3 W (w1.setCell ⟨B, 0, none⟩ v') :=
 ⟨by have := hgrow.size; simp [World.setCell] at this ⊢; omega, appended_far hrow hgrow c (by omega) k1, appended_far hrow hgrow d (by omega) k2, appended_far hrow hgrow f (by omega) k3⟩
theorem Cells_loop (r c : Int) (A : Option Addr) (cp : Nat) (l : List S35) (cu : Int) (lo ins : Bool) (a b : Int) (w : World) (hr : Kd.C k35 w A l.length l) (hc : l.length ≤ cp) (hn : l.length ≤ 16383) (L : 0 ≤ a) (M : a < l.length) (hb : beginI l a = b) (q : 0 ≤ b) (d : b < l.length) :
  CallsIn Fence.wide 5 Tryd.prog 50 #[.agg #[.int .i64 r, .int .i64 c, .slice A l.length cp, .int .i64 cu, .bool lo, .bool ins], .int .i64 a] w fun e w' => ∃ v : Value, e = .returned v ∧ Kd.R (Kd.int .i64) 3 w' w.heap.size (fun _ => True) v (cellsI l a) ∧ Below w.heap.size w w' := by
 have hpos : 0 < l.length := by omega
 have hE : cellsI l a = takeW (isF l) (wayI l.length b 1) l.length 0 := by rw [cellsI, hb, if_neg (by omega)]
 rw [hE]
 have hBg := Z (fun W hr => field_Begin.calls r c A cp l cu lo ins a b W hr hc (by unfold field_Begin.f; rw [if_pos hn, if_pos L, if_pos M, hb]))
 clear hE hb
 have HR := Z hr
 clear hr
 obtain ⟨i0, hi, z, E, F⟩ := info_parts infoInt
 have N := Tryd.underlying24
 have O := Tryd.underlying35
 have hbd : decide (b < 0) = false := decide_eq_false (by omega)
 refine callsIn_of_wp_marks Tryd.func50 rfl trivial ?_ rfl
 simp only [Tryd.ntmps50, List.size_toArray, List.length_cons, List.length_nil, Nat.reduceAdd, Nat.reduceSub, Array.replicate_succ, Array.replicate_zero, List.push_toArray, List.append_toArray, List.nil_append, List.cons_append]
 have h : Below w.heap.size w ((w.alloc (.cells #[.int .i64 r, .int .i64 c, .slice A l.length cp, .int .i64 cu, .bool lo, .bool ins] 24)).alloc (.cells #[.slice none 0 0] 41)) := below_alloc (below_alloc (Below.refl _ _) _) _
 have k1 := blk_alloc (blk_new w (.cells #[.int .i64 r, .int .i64 c, .slice A l.length cp, .int .i64 cu, .bool lo, .bool ins] 24)) (.cells #[.slice none 0 0] 41)
 have k2 := Boxed.new (w.alloc (.cells #[.int .i64 r, .int .i64 c, .slice A l.length cp, .int .i64 cu, .bool lo, .bool ins] 24)) 41 (.slice none 0 0)
 simp only [World.size_alloc] at k2
 gi_wp2_with (first
  | (refine ⟨trivial, ?_⟩; gi_at_call 62; refine (callsIn_wide.2 (hBg.out _ (Kd.C_below HR.out h))).mono ?_; rintro e w1 ⟨rfl, d⟩; have m := below_step h d; have hS := blk_below k1 d; have hO : Boxed w1 (w.heap.size + 1) 41 (.slice none 0 0) := blk_below k2 d; clear d k1 k2; have X := (blk_cell hS 0).trans rfl; have Y := (blk_cell hS 1).trans rfl; have P := (blk_cell hS 2).trans rfl; have s3 := (blk_cell hS 3).trans rfl; have s4 := (blk_cell hS 4).trans rfl; have s5 := (blk_cell hS 5).trans rfl)
  | (refine ⟨trivial, ?_⟩; gi_at_call 75; refine (callsIn_wide.2 (Round_exact r c _ _ cp cu lo ins b 1 _)).mono ?_; rintro e w' ⟨rfl, rfl⟩))
 have j1 := blk_new w1 (.cells #[.int .i64 r, .int .i64 c, .slice A l.length cp, .int .i64 cu, .bool lo, .bool ins] 24)
 have G := blk_new (w1.alloc (.cells #[.int .i64 r, .int .i64 c, .slice A l.length cp, .int .i64 cu, .bool lo, .bool ins] 24)) (.cells #[.int .i64 b] 3)
 have j3 := blk_new ((w1.alloc (.cells #[.int .i64 r, .int .i64 c, .slice A l.length cp, .int .i64 cu, .bool lo, .bool ins] 24)).alloc (.cells #[.int .i64 b] 3)) (.cells #[.int .i64 1] 3)
 simp only [World.size_alloc] at G j3
 have hBx : Below w.heap.size w (((w1.alloc (.cells #[.int .i64 r, .int .i64 c, .slice A l.length cp, .int .i64 cu, .bool lo, .bool ins] 24)).alloc (.cells #[.int .i64 b] 3)).alloc (.cells #[.int .i64 1] 3)) := below_alloc (below_alloc (below_alloc m _) _) _
 have V := m.size
 have Q : w.heap.size + 2 ≤ w1.heap.size := by have := blk_lt hO; omega
 refine wpIn_rangeFunc_ownG rfl (by omega) (gf := 93) (lb := #[.pointer (some ⟨w1.heap.size, 0, none⟩), .pointer (some ⟨w1.heap.size + 1, 0, none⟩), .pointer (some ⟨w1.heap.size + 1 + 1, 0, none⟩)]) rfl trivial (enters_of Tryd.func93 (by kernel_rfl) rfl)
  (round_stops 4 (by omega) w1.heap.size (w1.heap.size + 1) (w1.heap.size + 1 + 1) r c A l.length cp cu lo ins b 1 hpos hn q d _ (blk_alloc (blk_alloc j1 _) _) (blk_alloc G _) j3) Keep3.trans (Keep3.put (by simp; omega) (by simp) (by simp)) (Below.refl _ _) (fun _ => rfl)
  (fun pre W => W.heap[w.heap.size]? = some (.cells #[.int .i64 r, .int .i64 c, .slice A l.length cp, .int .i64 cu, .bool lo, .bool ins] 24 (0, 0)) ∧ ((∃ v, Boxed W (w.heap.size + 1) 41 v ∧ W.ownsRow (w1.heap.size + 3) 3 1 v pre.length (pre.map fun x => Value.int .i64 x.1) ∧ ((∀ x ∈ pre, isF l x.1 = false) ∧ True)) ∧ (w1.heap.size + 3 ≤ W.heap.size ∧ Below w.heap.size w W)))
  (fun c' pre W => (∃ v, Boxed W (w.heap.size + 1) 41 v ∧ W.ownsRow (w1.heap.size + 3) 3 1 v pre.dropLast.length (pre.dropLast.map fun x => Value.int .i64 x.1) ∧ (c' = .exit 2 ∧ ∃ ini last, pre = ini ++ [last] ∧ (∀ x ∈ ini, isF l x.1 = false) ∧ isF l last.1 = true)) ∧ Below w.heap.size w W)
  (OwnFrom.and (Own.from (fun s A B row hs hg hr => (grownBy_keeps_cells hg hr hs rfl).trans hs) _) (OwnFrom.and (Own.from (holdsRow_own (w1.heap.size + 3) (w.heap.size + 1) 41 3 1 (fun pre : List (Rng l.length) => pre.length) (fun pre => pre.map fun x => Value.int .i64 x.1) (fun pre v => (∀ x ∈ pre, isF l x.1 = false) ∧ True)) _) (OwnFrom.and (fun s A B row hs hg _ => Nat.le_trans hs hg.size) (ownFrom_below (Nat.le_refl _) (by simp; omega)))))
  (fun c' => OwnFrom.and (Own.from (holdsRow_own (w1.heap.size + 3) (w.heap.size + 1) 41 3 1 (fun pre : List (Rng l.length) => pre.dropLast.length) (fun pre => pre.dropLast.map fun x => Value.int .i64 x.1) (fun pre v => c' = .exit 2 ∧ ∃ ini last, pre = ini ++ [last] ∧ (∀ x ∈ ini, isF l x.1 = false) ∧ isF l last.1 = true)) _) (ownFrom_below (Nat.le_refl _) (by simp; omega)))
  ⟨blk_alloc (blk_alloc (blk_alloc hS _) _) _, ⟨_, blk_alloc (blk_alloc (blk_alloc hO _) _) _, World.ownsRow_nil _ _ _ _, by simp⟩, by simp, hBx⟩
  (fun x => { tmps := #[.agg #[.int .i64 r, .int .i64 c, .slice A l.length cp, .int .i64 cu, .bool lo, .bool ins], .int .i64 a, .pointer (some ⟨w.heap.size, 0, none⟩), undef, .slice none 0 0, .pointer (some ⟨w.heap.size + 1, 0, none⟩), .int .i64 b, undef, .int .i64 x.1, .agg #[.int .i64 r, .int .i64 c, .slice A l.length cp, .int .i64 cu, .bool lo, .bool ins], .int .i64 a, .int .i64 b, .int .i64 b, .bool false, undef, undef, undef, undef, undef, undef, undef, undef, undef, undef, undef, undef, .agg #[.int .i64 r, .int .i64 c, .slice A l.length cp, .int .i64 cu, .bool lo, .bool ins], .int .i64 b, .func (.func 93) #[] #[.pointer (some ⟨w1.heap.size, 0, none⟩), .pointer (some ⟨w1.heap.size + 1, 0, none⟩), .pointer (some ⟨w1.heap.size + 1 + 1, 0, none⟩)], .int .i64 x.1, undef, undef, undef, undef, undef, undef, undef, undef, undef, undef, undef], defers := [] }) ?assign ?body ?done ?stop
 case assign =>
  intro l x W K hK
  gi_wp2
  exact hK
 case body =>
  rintro lp pre x W ⟨hS, ⟨v, hv, hrow, hp, _⟩, hbW, hB⟩ hlt
  have hr := HR.out
  obtain ⟨ad', e', hcx, hltx⟩ := cell_f0 hr x.1 x.2.1 x.2.2
  subst e'
  have hcW := (hB.cell hltx).trans hcx
  have P := (blk_cell hS 2).trans rfl
  have x0 := x.2.1
  have x1 := x.2.2
  have o := hv.cell
  cases hfx : isF l x.1 with
  | true =>
   rw [hfx] at hcW
   gi_wp2
   exact ⟨KeepsFrom.refl _ _, ⟨v, hv, by simpa using hrow, rfl, pre, x, rfl, hp, hfx⟩, hB⟩
  | false =>
   rw [hfx] at hcW
   gi_wp2_with (gi_at_builtin; refine wpListIn_append_own _ rfl _ _ 41 rfl (w1.heap.size + 3) 3 i0 (.int .i64 0) 1 8 Tryd.underlying41 hi z E F rfl (by decide) _ _ _ rfl (hrow.alloc _) ⟨W.heap.size, 0, none⟩ 1 1 [.int .i64 x.1] rfl rfl (cell_one_new _ _ _) (by simp [Value.oneCell']) (by simp only [maxLen]; omega) (by omega) (by simp; omega) ?_; intro v' w2 hown' hgrow _; obtain ⟨g', cap', rfl⟩ := ownsRow_succ hown'; obtain ⟨g, u, U, t, n⟩ := hv.appended (by decide) (ownsRow_mono hrow (by omega)) hB.size (Nat.le_succ _) (ownsRow_mono hown' (by omega)) hgrow; have S := g.cell; have T := g.frozen)
   exact ⟨t.from _, appended_keep3 hrow hgrow hbW (by omega) (by omega) (by omega) (by omega) (by omega) (by omega), (appended_far hrow hgrow (by omega) (by omega) (by omega)).trans hS, ⟨_, u, by have := hown'.kept (grownBy_setCell' w2 (w.heap.size + 1) (.slice (some ⟨g', 0, none⟩) (pre.length + 1) cap')) (.inr (g.not_row (by decide) hown').symm); simpa using this, fun y hy => (List.mem_append.1 hy).elim (hp y) (fun e => by simp at e; subst e; exact hfx), trivial⟩, by have := n.size; omega, hB.trans n⟩
 case done =>
  rintro D ys W hD rfl ⟨hS, ⟨v, hv, hrow, hp, _⟩, hbW, hB⟩ hK
  have o := hv.cell
  gi_wp2
  refine ⟨by simp, .inl ⟨_, _, rfl, run_takeDeferred hK, ?_⟩⟩
  have hT := takeW_eq (isF l) (wayI l.length b 1) l.length 0 l.length (Nat.le_refl _) (fun i hi => by rw [Nat.zero_add]; exact hp _ (mem_uptoI (wayS hpos b 1) l.length i hi)) (.inl rfl)
  simp only [Nat.zero_add] at hT
  have p : (uptoI (wayS hpos b 1) l.length).map (fun x => Value.int .i64 x.1) = (uptoI (wayI l.length b 1) l.length).map (Value.int .i64) := by simp [uptoI, wayS]
  rw [p, uptoI_length] at hrow
  refine ⟨_, results_tmp rfl _ _ _, v, rfl, ?_, hB.trans (belowK_b (w := w) (Nat.le_refl _) W D _ _ (by simp at hD; omega) hK rfl rfl)⟩
  rw [hT]
  exact Kd.R_of_own (by rw [uptoI_length]; exact ownsRow_putObj (ownsRow_mono hrow (by omega)) _ hK rfl) (fun _ _ => trivial)
 case stop =>
  rintro D c' pre W hD ⟨k, hk, rfl⟩ ⟨⟨v, hv, hrow, rfl, ini, last, p, H, I⟩, hB⟩ hK
  have o := hv.cell
  gi_wp2
  refine ⟨by simp, .inl ⟨_, _, rfl, run_takeDeferred hK, ?_⟩⟩
  obtain ⟨j, rfl, rfl, rfl⟩ := uptoI_last _ _ _ _ p
  have hT := takeW_eq (isF l) (wayI l.length b 1) l.length 0 j (by omega) (fun i hi => by rw [Nat.zero_add]; exact H _ (mem_uptoI (wayS hpos b 1) j i hi)) (.inr (by rw [Nat.zero_add]; exact I))
  simp only [Nat.zero_add] at hT
  have J : (uptoI (wayS hpos b 1) j).map (fun x => Value.int .i64 x.1) = (uptoI (wayI l.length b 1) j).map (Value.int .i64) := by simp [uptoI, wayS]
  rw [uptoI_succ, List.dropLast_concat, J, uptoI_length] at hrow
  refine ⟨_, results_tmp rfl _ _ _, v, rfl, ?_, hB.trans (belowK_b (w := w) (Nat.le_refl _) W D _ _ (by simp at hD; omega) hK rfl rfl)⟩
  rw [hT]
  exact Kd.R_of_own (by rw [uptoI_length]; exact ownsRow_putObj (ownsRow_mono hrow (by omega)) _ hK rfl) (fun _ _ => trivial)
def field_Cells.f (b : Int) (c : Int) (a : List (S35)) (d : Int) (e : Bool) (g : Bool) (a1 : Int) : Option (List Int) := if a.length ≤ 16383 then (if 0 ≤ a1 then (if a1 < (a.length : Int) then (some (cellsI a a1)) else (none)) else (none)) else (none)
theorem field_Cells.calls (c : Int) (d : Int) (b : Option Addr) (k : Nat) (a : List (S35)) (g : Int) (i : Bool) (j : Bool) (a1 : Int) (r : List Int) (w : World) (m : Kd.C k35 w b a.length a) (l : a.length ≤ k) (h : field_Cells.f c d a g i j a1 = some r) :
  Calls Tryd.prog 50 #[.agg #[.int .i64 c, .int .i64 d, .slice b a.length k, .int .i64 g, .bool i, .bool j], .int .i64 a1] w fun e w' => ∃ n : Value, e = .returned (n) ∧ Kd.R (Kd.int .i64) 3 w' w.heap.size (fun _ => True) n r ∧ Below w.heap.size w w' := by
 obtain ⟨hn, o, p, rfl⟩ := guard3 h
 rcases begin_range a a1 (by omega) with hb | ⟨q, s, _⟩
 ·exact callsIn_wide.1 (Cells_none c d b k a g i j a1 w m l hn o p hb)
 ·exact callsIn_wide.1 (Cells_loop c d b k a g i j a1 _ w m l hn o p rfl q s)
end
def slices_Index_int_int.l0 : Nat → List Int → Int → Int → Int → Option (Int)
 | 0, _, _, _, _ => none
 | k + 1, b, c, d, a => if a < d then (if 0 ≤ a then (if a < (b.length : Int) then (if c = (rd b a) then (some a) else (slices_Index_int_int.l0 k b c d (wrap64 (a + 1)))) else (none)) else (none)) else (some (-1))
def slices_Index_int_int.f (k : Nat) (l0 : List Int) (a1 : Int) : Option (Int) := slices_Index_int_int.l0 k l0 a1 (l0.length : Int) 0
theorem slices_Index_int_int.mono_l : ∀ k, (∀ b c d e, LeO (slices_Index_int_int.l0 k b c d e) (slices_Index_int_int.l0 (k + 1) b c d e))
 | 0 => fun _ _ _ _ r h => by simp [slices_Index_int_int.l0] at h
 | k + 1 => by
  have a := slices_Index_int_int.mono_l k
  ·intro b c d e
   unfold slices_Index_int_int.l0
   repeat' first
   | (with_reducible exact a _ _ _ _)
   | (with_reducible exact LeO.refl _)
   | (with_reducible exact LeO.none _)
   | (with_reducible refine LeO.ite ?_ ?_)
   | (with_reducible refine LeO.bind ?_ (fun _ => ?_))
   | exact a _ _ _ _
   | exact LeO.none _
   | refine LeO.ite ?_ ?_
   | refine LeO.bind ?_ (fun _ => ?_)
theorem slices_Index_int_int.mono : ∀ a0 a1 k, LeO (slices_Index_int_int.f k a0 a1) (slices_Index_int_int.f (k + 1) a0 a1) := by
 intro a0 a1 k
 have a := slices_Index_int_int.mono_l k
 unfold slices_Index_int_int.f
 repeat' first
   | (with_reducible exact a _ _ _ _)
   | (with_reducible exact LeO.refl _)
   | (with_reducible exact LeO.none _)
   | (with_reducible refine LeO.ite ?_ ?_)
   | (with_reducible refine LeO.bind ?_ (fun _ => ?_))
   | exact a _ _ _ _
   | exact LeO.none _
   | refine LeO.ite ?_ ?_
   | refine LeO.bind ?_ (fun _ => ?_)
theorem slices_Index_int_int.calls (k : Nat) (q : Option Addr) (c0 : Nat) (l0 : List Int) (a1 : Int) (r : Int) (w : World) (hr0 : Kd.C (Kd.int .i64) w q l0.length l0) (m : l0.length ≤ c0) (h : slices_Index_int_int.f k l0 a1 = some r) :
  Calls Tryd.prog 51 #[.slice q l0.length c0, .int .i64 a1] w fun e w' => e = .returned (.int .i64 r) ∧ Drawn0 w w' := by
 have l := Z hr0
 have v := Z m
 clear hr0 m
 have H : (slices_Index_int_int.l0 k l0 a1 (l0.length : Int) 0) = some r := h
 clear h
 have H' := Z H
 clear H
 go_enter Tryd.func51, Tryd.ntmps51
 go_wp2
 go_loopg [8] k (fun kq u w' => ∃ (a : Int), u = .int .i64 a ∧ Aside0 (slices_Index_int_int.l0 kq l0 a1 (l0.length : Int) a = some r) ∧ Aside0 (kq ≤ k) ∧ Drawn0 w w')
 case atStart => exact ⟨(0), (dn_), H', ⟨Nat.le_refl _⟩, dr_⟩
 case round =>
  clear H'
  obtain ⟨a, rfl, HA, j, ⟨x, rfl⟩⟩ := hrel
  cases gk with
  | zero => exact absurd HA.out (by simp [slices_Index_int_int.l0])
  | succ k1 =>
   have H := HA.out
   clear HA
   simp only [slices_Index_int_int.l0] at H
   by_cases c3 : a < (l0.length : Int)
   ·rw [if_pos c3] at H
    have n : decide (a < (l0.length : Int)) = true := decide_eq_true c3
    clear c3
    by_cases c4 : 0 ≤ a
    ·rw [if_pos c4] at H
     have s : decide (0 ≤ a) = true := decide_eq_true c4
     clear c4
     by_cases c5 : a < (l0.length : Int)
     ·rw [if_pos c5] at H
      have t : decide (a < (l0.length : Int)) = true := decide_eq_true c5
      clear c5
      by_cases c6 : a1 = (rd l0 a)
      ·rw [if_pos c6] at H
       obtain ⟨o, p⟩ := eT_ c6
       clear c6
       obtain rfl := Option.some.inj H
       have b : 0 ≤ (a : Int) := od_
       have c : a < (l0.length : Int) := od_
       obtain ⟨i, d, g⟩ := Kd.at_int l.out a b c
       cases d
       replace b := eq_true b
       replace c := eq_true c
       go_wp2
       go_ret
       exact ⟨dn_, dr_⟩
      ·rw [if_neg c6] at H
       obtain ⟨o, p⟩ := eF_ c6
       have H' := Z H
       clear H
       have b : 0 ≤ (a : Int) := od_
       have c : a < (l0.length : Int) := od_
       obtain ⟨i, d, g⟩ := Kd.at_int l.out a b c
       cases d
       replace b := eq_true b
       replace c := eq_true c
       go_wp2
       go_roundg k1
       case measure => have := j.out; omega
       case rel => exact ⟨(wrap64 (a + 1)), (dn_), H', ⟨by have := j.out; omega⟩, dr_⟩
     ·rw [if_neg c5] at H
      exact absurd H (by simp)
    ·rw [if_neg c4] at H
     exact absurd H (by simp)
   ·rw [if_neg c3] at H
    have n : decide (a < (l0.length : Int)) = false := decide_eq_false c3
    clear c3
    obtain rfl := Option.some.inj H
    go_wp2
    go_ret
    exact ⟨dn_, dr_⟩
def edit_Line.f (k : Nat) (c : Int) (d : Int) (i : List (S35)) (e : Int) (g : Bool) (h : Bool) (a1 : Int) : Option (List Int) := (field_Open.f c d i e g h a1).bind fun j => (if j = true then ((field_Cells.f c d i e g h a1).bind fun a => ((slices_Index_int_int.f k a a1).bind fun b => (if 0 ≤ b then (if b ≤ (a.length : Int) then (some (a.drop (b : Int).toNat)) else (none)) else (none)))) else (some ([] : List Int)))
theorem edit_Line.mono : ∀ a0 a1 a b a4 c d k, LeO (edit_Line.f k a0 a1 a b a4 c d) (edit_Line.f (k + 1) a0 a1 a b a4 c d) := by
 intro a0 a1 a b a4 c d k
 unfold edit_Line.f
 repeat' first
   | (with_reducible exact slices_Index_int_int.mono _ _ _)
   | (with_reducible exact LeO.refl _)
   | (with_reducible exact LeO.none _)
   | (with_reducible refine LeO.ite ?_ ?_)
   | (with_reducible refine LeO.bind ?_ (fun _ => ?_))
   | exact slices_Index_int_int.mono _ _ _
   | exact LeO.none _
   | refine LeO.ite ?_ ?_
   | refine LeO.bind ?_ (fun _ => ?_)
theorem edit_Line.calls (k : Nat) (g : Int) (i : Int) (p : Option Addr) (q : Nat) (c : List (S35)) (j : Int) (l : Bool) (m : Bool) (a1 : Int) (r : List Int) (w : World) (R : Kd.C k35 w p c.length c) (M : c.length ≤ q) (h : edit_Line.f k g i c j l m a1 = some r) :
  Calls Tryd.prog 26 #[.agg #[.int .i64 g, .int .i64 i, .slice p c.length q, .int .i64 j, .bool l, .bool m], .int .i64 a1] w fun e w' => ∃ ah : Value, e = .returned (ah) ∧ Kd.Q (Kd.int .i64) 3 w' w.heap.size (fun _ => True) ah r ∧ Below w.heap.size w w' := by
 have a6 := Tryd.underlying24
 have E := Z R
 have D := Z M
 clear R M
 have HB := Z (Below.refl w.heap.size w)
 have H : ((field_Open.f g i c j l m a1).bind fun G => (if G = true then ((field_Cells.f g i c j l m a1).bind fun b => ((slices_Index_int_int.f k b a1).bind fun a => (if 0 ≤ a then (if a ≤ (b.length : Int) then (some (b.drop (a : Int).toNat)) else (none)) else (none)))) else (some ([] : List Int)))) = some r := h
 clear h
 replace H := Option.bind_eq_some_iff.mp H
 obtain ⟨G, ab, H⟩ := H
 replace H : (if G = true then ((field_Cells.f g i c j l m a1).bind fun b => ((slices_Index_int_int.f k b a1).bind fun a => (if 0 ≤ a then (if a ≤ (b.length : Int) then (some (b.drop (a : Int).toNat)) else (none)) else (none)))) else (some ([] : List Int))) = some r := H
 have A3 := Z ab
 clear ab
 by_cases c4 : G = true
 ·subst c4
  have H1 : ((field_Cells.f g i c j l m a1).bind fun b => ((slices_Index_int_int.f k b a1).bind fun a => (if 0 ≤ a then (if a ≤ (b.length : Int) then (some (b.drop (a : Int).toNat)) else (none)) else (none)))) = some r := by rw [if_pos rfl] at H; exact H
  clear H
  have H := H1
  clear H1
  replace H := Option.bind_eq_some_iff.mp H
  obtain ⟨b, ac, H⟩ := H
  replace H : ((slices_Index_int_int.f k b a1).bind fun a => (if 0 ≤ a then (if a ≤ (b.length : Int) then (some (b.drop (a : Int).toNat)) else (none)) else (none))) = some r := H
  have A5 := Z ac
  clear ac
  replace H := Option.bind_eq_some_iff.mp H
  obtain ⟨a, ad, H⟩ := H
  replace H : (if 0 ≤ a then (if a ≤ (b.length : Int) then (some (b.drop (a : Int).toNat)) else (none)) else (none)) = some r := H
  have A6 := Z ad
  clear ad
  by_cases c7 : 0 ≤ a
  ·rw [if_pos c7] at H
   have a2 := eq_true c7
   have a3 : decide (0 ≤ a) = true := decide_eq_true c7
   clear c7
   by_cases c8 : a ≤ (b.length : Int)
   ·rw [if_pos c8] at H
    have a4 := eq_true c8
    have a5 : decide (a ≤ (b.length : Int)) = true := decide_eq_true c8
    clear c8
    obtain ⟨B, v⟩ : ∃ y_ : List Int, y_ = (b.drop (a : Int).toNat) := ⟨_, rfl⟩
    replace H : (some B) = some r := by first | (rw [v]; with_reducible exact H) | (have T := (Option.bind_some _ _).symm.trans H; rw [v]; with_reducible exact T) | (have T := (Option.bind_some _ _).symm.trans H; with_reducible exact T) | with_reducible exact H | (rw [v]; exact H) | exact H
    have L := Z v
    clear v
    obtain rfl := Option.some.inj H
    go_enter Tryd.func26, Tryd.ntmps26
    go_wp2_with (first | ((with_reducible refine gate_dst (N := 2) rfl ?_); refine bx_ 2 24 #[.int .i64 g, .int .i64 i, .slice p c.length q, .int .i64 j, .bool l, .bool m] ?_; intro u hg w9 hbox hb; have d := Z (hbox); have X := Z (ln_ hg : w.heap.size ≤ u); have W := X; replace HB := bs_ hb; clear hb hbox hg; obtain ⟨aj, ak, al, am, an, ao, aD, aE, aF, aG, aH, aI⟩ := cells6 d.out) | ((with_reducible refine gate_callee (f := 44) rfl ?_); refine goesL_ (some 8) rfl rfl Tryd.func44 (by kernel_rfl) rfl #[.agg #[.int .i64 g, .int .i64 i, .slice p c.length q, .int .i64 j, .bool l, .bool m], .int .i64 a1] rfl ag_ ?_; (with_reducible refine (field_Open.calls g i _ _ c j l m a1 true _ ?side1 ?side2 A3.out).mono ?_); (case side1 => repeat (first | exact (Kd.C_below E.out HB.out) | (with_reducible apply pC))); (case side2 => exact D.out); rintro e a8 ⟨rfl, hb⟩; refine ⟨_, rfl, ?_⟩; replace d := kb' d hb; replace HB := bs_ hb; clear hb; obtain ⟨ap, aq, ar, au, av, aw, aJ, aK, aL, aM, aN, aO⟩ := cells6 d.out) | ((with_reducible refine gate_callee (f := 50) rfl ?_); refine goesL_ (some 12) rfl rfl Tryd.func50 (by kernel_rfl) rfl #[.agg #[.int .i64 g, .int .i64 i, .slice p c.length q, .int .i64 j, .bool l, .bool m], .int .i64 a1] rfl ag_ ?_; (with_reducible refine (field_Cells.calls g i _ _ c j l m a1 b _ ?side1 ?side2 A5.out).mono ?_); (case side1 => repeat (first | exact (Kd.C_below E.out HB.out) | (with_reducible apply pC))); (case side2 => exact D.out); rintro e aW ⟨a7, rfl, ag, hb⟩; refine ⟨_, rfl, ?_⟩; have s := Z (Kd.R_lower ag (below_size bl_)); replace d := kb' d hb; replace HB := bs_ hb; clear hb ag; obtain ⟨x, z, ai⟩ := Kd.R_slice s.out; subst ai) | ((with_reducible refine gate_callee (f := 51) rfl ?_); refine goesL_ (some 16) rfl rfl Tryd.func51 (by kernel_rfl) rfl #[.slice x b.length z, .int .i64 a1] rfl ag_ ?_; (with_reducible refine (slices_Index_int_int.calls k _ _ b a1 a _ ?side1 ?side2 A6.out).mono ?_); (case side1 => repeat (first | exact (Kd.R_reads' s.out).2.2 | (with_reducible apply pC))); (case side2 => exact (Kd.R_reads' s.out).2.1); rintro e w' ⟨rfl, ⟨nd, rfl⟩⟩; refine ⟨_, rfl, ?_⟩; have V : (a : Int) ≤ ((b.length : Int) : Int) := od_; obtain ⟨i015, O, _, S, _⟩ := info_parts info3; have U := cut_from (P := Tryd.prog) 41 3 .i64 Tryd.underlying41 O 1 S x b.length z a (od_) V; have A := Kd.Q_drop (k := (a : Int).toNat) (Kd.Q_of_R s.out) (by omega); obtain ⟨aa, F⟩ : ∃ A1, A1 = (if z = (a : Int).toNat then x else (x : Option Addr).map (·.add ((a : Int).toNat * 1))) := ⟨_, rfl⟩; obtain ⟨ae, J⟩ : ∃ c1, c1 = z - (a : Int).toNat := ⟨_, rfl⟩; have K : B.length = b.length - (a : Int).toNat := (by rw [L.out, List.length_drop]); rw [← L.out] at A; rw [← K, ← F, ← J] at U; replace A : Kd.Q (Kd.int .i64) 3 aW w.heap.size (fun _ => True) (.slice aa B.length ae) B := (by rw [F, J, K]; exact A); have a0 : Aside0 ((Value.slice aa B.length ae).ownBlock = (.slice x b.length z : Value).ownBlock) := ⟨by rw [F]; split <;> (cases (x : Option Addr) <;> first | rfl | (simp [Value.ownBlock, add_block]; done))⟩; clear K O S s F J; have Y := Z A; clear A; replace V := eq_true V))
    go_ret
    exact ⟨_, er_, by (with_reducible repeat (first | apply Kd.Q_alloc | apply Kd.Q_drewN | apply Kd.Q_drew)); exact Y.out, bl_⟩
   ·rw [if_neg c8] at H
    exact absurd H (by simp)
  ·rw [if_neg c7] at H
   exact absurd H (by simp)
 ·replace c4 := Bool.eq_false_iff.mpr c4
  subst c4
  have H1 : (some ([] : List Int)) = some r := by rw [if_neg (show ¬ (false = true) by decide)] at H; exact H
  clear H
  have H := H1
  clear H1
  obtain rfl := Option.some.inj H
  go_enter Tryd.func26, Tryd.ntmps26
  go_wp2_with (first | ((with_reducible refine gate_dst (N := 2) rfl ?_); refine bx_ 2 24 #[.int .i64 g, .int .i64 i, .slice p c.length q, .int .i64 j, .bool l, .bool m] ?_; intro u hg a9 hbox hb; have d := Z (hbox); have X := Z (ln_ hg : w.heap.size ≤ u); have W := X; replace HB := bs_ hb; clear hb hbox hg; obtain ⟨ax, ay, az, aA, aB, aC, aP, aQ, aR, aS, aT, aU⟩ := cells6 d.out) | ((with_reducible refine gate_callee (f := 44) rfl ?_); refine goesL_ (some 8) rfl rfl Tryd.func44 (by kernel_rfl) rfl #[.agg #[.int .i64 g, .int .i64 i, .slice p c.length q, .int .i64 j, .bool l, .bool m], .int .i64 a1] rfl ag_ ?_; (with_reducible refine (field_Open.calls g i _ _ c j l m a1 false _ ?side1 ?side2 A3.out).mono ?_); (case side1 => repeat (first | exact (Kd.C_below E.out HB.out) | (with_reducible apply pC))); (case side2 => exact D.out); rintro e ba ⟨rfl, hb⟩; refine ⟨_, rfl, ?_⟩; replace d := kb' d hb; replace HB := bs_ hb; clear hb))
  go_ret
  exact ⟨_, er_, Kd.Q_of_R (by first | exact Kd.R_nil _ _ _ _ _ | exact Kd.N_nil _ _ _ _ _ | exact Kd.V_nil _ _ _ _ _ | exact Kd.Q_nil _ _ _ _ _ | exact Kd.S_nil _ _ _ _ _), bl_⟩
section
def slices_Clone_shutter_api_Cell_shutter_api_Cell.f (l : List S35) : Option (List S35) := if l.length ≤ 16383 then some l else none
theorem slices_Clone_shutter_api_Cell_shutter_api_Cell.calls (g : Option Addr) (c0 : Nat) (l0 : List (S35)) (r : List (S35)) (w : World) (hr0 : Kd.C k35 w g l0.length l0) (o : l0.length ≤ c0) (h : slices_Clone_shutter_api_Cell_shutter_api_Cell.f l0 = some r) :
  Calls Tryd.prog 82 #[.slice g l0.length c0] w fun e w' => ∃ d : Value, e = .returned (d) ∧ Kd.R k35 35 w' w.heap.size (fun _ => True) d r ∧ Below w.heap.size w w' := by
 unfold slices_Clone_shutter_api_Cell_shutter_api_Cell.f at h
 by_cases hn : l0.length ≤ 16383
 ·rw [if_pos hn] at h
  obtain rfl := Option.some.inj h
  have HR := Z hr0
  clear h hr0
  rcases g with _ | ad
  ·have hl : l0 = [] := by
    rcases Nat.eq_zero_or_pos l0.length with i | i
    ·exact List.eq_nil_of_length_eq_zero i
    ·obtain ⟨ad, h, _⟩ := HR.out.2.2 i
     cases h
   subst hl
   have hE := fun (w : World) => Lib.run_eql_slice_nil (P := Tryd.prog) w 22 35 none 0 c0 0 0 Tryd.underlying22
   rw [List.length_nil]
   go_enter Tryd.func82, Tryd.ntmps82
   go_wp2
   go_ret
   exact ⟨_, rfl, Kd.R_nil _ _ _ _ _, Below.refl _ _⟩
  ·have HB := Z (Below.refl w.heap.size w)
   have hE := fun (w : World) => Lib.run_eql_slice_nil (P := Tryd.prog) w 22 35 (some ad) l0.length c0 0 0 Tryd.underlying22
   go_enter Tryd.func82, Tryd.ntmps82
   go_wp2_with (first
    | ((with_reducible refine gate_dst (N := 5) rfl ?_); refine Kd.R_lit k35 w.heap.size 35 ?hg (N := 5) ?hd (xs := ([] : List (S35))) (inner := []) (ok := fun _ => True) (okp := fun _ => True) ?hr ?hp (fun _ hk => hk) trivial (Below.refl _ _) (Nat.le_refl _) (by simp) ?_; (case hd => rfl); (case hg => rfl); (case hr => first | (go_simp; done) | (go_simp; rfl)); (case hp => exact (Reps.none _ _)); intro n w1 ho hb hg_ hnew_; clear hg_ hnew_; have HO := Z ho; have hB := Z hb; clear ho hb HB; have HB := hB; clear hB)
    | ((with_reducible refine gate_builtin (b := .append) (xs := #[.tmp 5, .tmp 6]) rfl ?_); at_builtin; refine Kd.R_append_rows k35 (w0 := w) w.heap.size rfl (.tmp 5) (.tmp 6) 22 35 (.agg #[(.bool false), (.bool false), (.bool false), (.int .i64 0), (.bool false), (.int .u8 0)]) 40 rfl Tryd.underlying22 info35 rfl (by decide) (by omega) n ([] : List S35) l0 _ _ _ (fun _ => True) (fun _ => False) rfl rfl ?aO ?aR (fun _ _ h => h) (fun _ h => h.elim) ?aF ?aB ?aS ?aL ?_; (case aR => repeat (first | exact (Kd.C_below HR.out HB.out) | (with_reducible apply pC))); (case aB => exact bl_); (case aF => exact (fun _ _ => trivial)); (case aO => exact (by (with_reducible repeat apply pR); exact HO.out)); (case aS => exact (below_size bl_)); (case aL => simp only [List.length_nil]; omega); intro p w2 c a m j; clear m j; have l := Z c; have k := Z a; clear c a))
   go_ret
   exact ⟨_, rfl, by have := l.out; rwa [List.nil_append] at this, k.out⟩
 ·rw [if_neg hn] at h
  cases h
end
def grid_Copy.f (a : Int) (b : Int) (g : List (S35)) (c : Int) (d : Bool) (e : Bool) : Option (Int × Int × (List (S35)) × Int × Bool × Bool) := (slices_Clone_shutter_api_Cell_shutter_api_Cell.f g).bind fun h => (some (a, b, h, c, d, e))
theorem grid_Copy.calls (b : Int) (d : Int) (x : Option Addr) (y : Nat) (j : List (S35)) (i : Int) (k : Bool) (m : Bool) (I : Int) (J : Int) (K : List (S35)) (L : Int) (M : Bool) (O : Bool) (w : World) (E : Kd.C k35 w x j.length j) (D : j.length ≤ y) (h : grid_Copy.f b d j i k m = some (I, J, K, L, M, O)) :
  Calls Tryd.prog 61 #[.agg #[.int .i64 b, .int .i64 d, .slice x j.length y, .int .i64 i, .bool k, .bool m]] w fun e w' => ∃ V : Value, e = .returned (.agg #[.int .i64 I, .int .i64 J, V, .int .i64 L, .bool M, .bool O]) ∧ Kd.R k35 35 w' w.heap.size (fun _ => True) V K ∧ Below w.heap.size w w' := by
 have aR := Tryd.underlying24
 have G := Z E
 have F := Z D
 clear E D
 have HB := Z (Below.refl w.heap.size w)
 have H : ((slices_Clone_shutter_api_Cell_shutter_api_Cell.f j).bind fun g => (some (b, d, g, i, k, m))) = some (I, J, K, L, M, O) := h
 clear h
 replace H := Option.bind_eq_some_iff.mp H
 obtain ⟨g, P, H⟩ := H
 replace H : (some (b, d, g, i, k, m)) = some (I, J, K, L, M, O) := H
 have A2 := Z P
 clear P
 simp only [Option.some.injEq, Prod.mk.injEq] at H
 obtain ⟨rfl, rfl, rfl, rfl, rfl, rfl⟩ := H
 go_enter Tryd.func61, Tryd.ntmps61
 go_wp2_with (first | ((with_reducible refine gate_dst (N := 1) rfl ?_); refine bx_ 1 24 #[.int .i64 b, .int .i64 d, .slice x j.length y, .int .i64 i, .bool k, .bool m] ?_; intro z hg w3 hbox hb; have a := Z (hbox); have aM := Z (ln_ hg : w.heap.size ≤ z); have aK := aM; replace HB := bs_ hb; clear hb hbox hg) | ((with_reducible refine gate_dst (N := 2) rfl ?_); refine bx_ 2 24 #[.int .i64 0, .int .i64 0, .slice none 0 0, .int .i64 0, .bool false, .bool false] ?_; intro c hg w4 hbox hb; have l := Z (hbox); have aN := Z (ln_ hg : w.heap.size ≤ c); have aL := aN; replace HB := bs_ hb; have A := nl' a hg; have n := ng' a hg; replace a := kb' a hb; clear hb hbox hg; have aP := A.out; have aQ := n.out; obtain ⟨ak, al, am, an, ao, ap, ay, az, aA, aB, aC, aD⟩ := cells6 a.out) | ((with_reducible refine gate_callee (f := 82) rfl ?_); refine goesL_ (some 5) rfl rfl Tryd.func82 (by kernel_rfl) rfl #[.slice x j.length y] rfl ag_ ?_; (with_reducible refine (slices_Clone_shutter_api_Cell_shutter_api_Cell.calls _ _ j g _ ?side1 ?side2 A2.out).mono ?_); (case side1 => repeat (first | exact (Kd.C_below G.out HB.out) | (with_reducible apply pC))); (case side2 => exact F.out); rintro e w7 ⟨aS, rfl, Q, hb⟩; refine ⟨_, rfl, ?_⟩; have B := Z (Kd.R_lower Q (below_size bl_)); replace a := kb' a hb; replace l := kb' l hb; replace HB := bs_ hb; clear hb Q; obtain ⟨u, v, aj⟩ := Kd.R_slice B.out; subst aj; obtain ⟨aq, ar, au, av, aw, ax, aE, aF, aG, aH, aI, aJ⟩ := cells6 a.out; obtain ⟨W, X, Y, aa, ab, ac, ad, ae, af, ag, ah, ai⟩ := cells6 l.out))
 refine bodyPost_ret (results_cell_row rfl _ _ c 24 #[.int .i64 b, .int .i64 d, .slice u g.length v, .int .i64 i, .bool k, .bool m] (0, 0) _ rfl (by (with_reducible repeat apply pK); refine blk_put (cs := #[.int .i64 b, .int .i64 d, .slice u g.length v, .int .i64 i, .bool k, .bool false]) ?_ 5 _ rfl; (with_reducible repeat apply pK); refine blk_put (cs := #[.int .i64 b, .int .i64 d, .slice u g.length v, .int .i64 i, .bool false, .bool false]) ?_ 4 _ rfl; (with_reducible repeat apply pK); refine blk_put (cs := #[.int .i64 b, .int .i64 d, .slice u g.length v, .int .i64 0, .bool false, .bool false]) ?_ 3 _ rfl; (with_reducible repeat apply pK); refine blk_put (cs := #[.int .i64 b, .int .i64 d, .slice none 0 0, .int .i64 0, .bool false, .bool false]) ?_ 2 _ rfl; (with_reducible repeat apply pK); refine blk_put (cs := #[.int .i64 b, .int .i64 0, .slice none 0 0, .int .i64 0, .bool false, .bool false]) ?_ 1 _ rfl; (with_reducible repeat apply pK); refine blk_put (cs := #[.int .i64 0, .int .i64 0, .slice none 0 0, .int .i64 0, .bool false, .bool false]) ?_ 0 _ rfl; (with_reducible repeat apply pK); refine blk_far ?_ n.out _; (with_reducible repeat apply pK); exact l.out) Tryd.underlying24 rfl (by kernel_rfl)) rfl ?_
 exact ⟨_, er_, by (with_reducible repeat apply pR); exact Kd.R_mono (f6R c (Kd.R_far (p := ⟨z, 2, none⟩) (Kd.R_types (Kd.R_types B.out a.out (by decide)) l.out (by decide)) (fun _ hk => hk.1.2) (.slice u g.length v)) (fun _ hk => hk.2)) (fun _ hk => trivial), bl_⟩
section
theorem own_lt_ {α : Type} {d : Kd α} {e base k : Nat} {ok : Nat → Prop} {v : Value} {xs : List α} {w : World} (h : Kd.R d e w base ok v xs) (hk : some k = v.ownBlock) : k < w.heap.size := own_lt h.2.choose_spec.1 k hk.symm
def edit_Deny.f (c : Int) (d : Int) (b : List (S35)) (a : Int) (h : Bool) (e : Bool) (g : Option Er) (i : List S164) : Option (Int × Int × (List (S35)) × Int × Bool × Bool × Option Er × List S164) :=
 if b.length ≤ 16383 then (match g with | some (.num n) => some (c, d, b, a, true, e, some Er.spot, [⟨a, n⟩]) | _ => none) else none
theorem edit_Deny.calls (b : Int) (c : Int) (s : Option Addr) (u : Nat) (a : List (S35)) (d : Int) (j : Bool) (i : Bool) (A : Option Er) (F : Option Addr) (G : Nat) (y : List S164) (r1 : Int) (r2 : Int) (r3 : List (S35)) (r4 : Int) (r5 : Bool) (r6 : Bool) (r7 : Option Er) (r8 : List S164) (w : World) (D : Kd.C k35 w s a.length a) (B : a.length ≤ u) (K : Kd.C k164 w F y.length y) (J : y.length ≤ G) (h : edit_Deny.f b c a d j i A y = some (r1, r2, r3, r4, r5, r6, r7, r8)) :
  Calls Tryd.prog 34 #[.agg #[.int .i64 b, .int .i64 c, .slice s a.length u, .int .i64 d, .bool j, .bool i], errW (.slice F y.length G) A] w fun e w' => ∃ H Q : Value, e = .returned (.tuple #[.agg #[.int .i64 r1, .int .i64 r2, H, .int .i64 r4, .bool r5, .bool r6], errW Q r7]) ∧ Kd.R k35 35 w' w.heap.size (fun k_ => (w.heap.size ≤ k_)) H r3 ∧ Kd.V k164 164 w' w.heap.size (fun k_ => (w.heap.size ≤ k_) ∧ some k_ ≠ (H : Value).ownBlock) Q r8 ∧ Below w.heap.size w w' := by
 unfold edit_Deny.f at h
 by_cases hn : a.length ≤ 16383
 ·rw [if_pos hn] at h
  rcases A with _ | q
  ·cases h
  ·cases q with
   | spot => cases h
   | num n =>
    simp only [Option.some.injEq, Prod.mk.injEq] at h
    obtain ⟨rfl, rfl, rfl, rfl, rfl, rfl, rfl, rfl⟩ := h
    rw [errW_some, show (Er.num n).ty = ERNT from rfl, show (Er.num n).pay _ = .int .i64 n from rfl]
    have HR := Z D
    have HL := Z B
    have HC := Z (show grid_Copy.f b c a d j i = some (b, c, a, d, j, i) by unfold grid_Copy.f slices_Clone_shutter_api_Cell_shutter_api_Cell.f; rw [if_pos hn]; rfl)
    have HB := Z (Below.refl w.heap.size w)
    have hu := Tryd.underlying24
    have ar := Tryd.underlying79
    have au := Tryd.underlying28
    clear D B K J
    go_enter Tryd.func34, Tryd.ntmps34
    go_wp2_with (first
     | ((with_reducible refine gate_dst (N := 2) rfl ?_); refine bx_ 2 24 #[.int .i64 b, .int .i64 c, .slice s a.length u, .int .i64 d, .bool j, .bool i] ?_; intro x hg w1 hbox hb; have m := bs_ hb; have p := Z hbox; have r := Z (le_new hg (below_size bl_) : w.heap.size ≤ x); clear HB; have HB := m; have k := p; have ap := r; clear m p r hb hbox hg)
     | ((with_reducible refine gate_dst (N := 4) rfl ?_); refine bx_ 4 24 #[.int .i64 0, .int .i64 0, .slice none 0 0, .int .i64 0, .bool false, .bool false] ?_; intro E hg w2 hbox hb; have m := Z (blk_below (g := x) (o := .cells #[.int .i64 b, .int .i64 c, .slice s a.length u, .int .i64 d, .bool j, .bool i] 24 (0, 0)) k.out hb); have p := bs_ hb; have r := Z hbox; have v := Z (le_new hg (below_size bl_) : w.heap.size ≤ E); have z := Z (by rw [hg]; exact Nat.ne_of_lt (blk_lt k.out) : x ≠ E); clear k HB; have k := m; have HB := p; have l := r; have aq := v; have NB := z; clear m p r v z hb hbox hg; have hnb := NB.out; have hnc := NB.out.symm; obtain ⟨z0, z1, z2, z3, z4, z5, y0, y1, y2, y3, y4, y5⟩ := cells6 k.out)
     | ((with_reducible refine gate_callee (f := 61) rfl ?_); refine goesL_ (some 10) rfl rfl Tryd.func61 (by kernel_rfl) rfl #[.agg #[.int .i64 b, .int .i64 c, .slice s a.length u, .int .i64 d, .bool j, .bool i]] rfl ag_ ?_; (with_reducible refine (grid_Copy.calls b c _ _ a d j i b c a d j i _ ?side1 ?side2 HC.out).mono ?_); (case side1 => exact Kd.C_below HR.out HB.out); (case side2 => exact HL.out); rintro e w3 ⟨v1, rfl, M, hb⟩; refine ⟨_, rfl, ?_⟩; have HO := Z (Kd.R_lower M (below_size bl_)); replace k := Z (blk_below (g := x) (o := .cells #[.int .i64 b, .int .i64 c, .slice s a.length u, .int .i64 d, .bool j, .bool i] 24 (0, 0)) k.out hb); replace l := Z (blk_below (g := E) (o := .cells #[.int .i64 0, .int .i64 0, .slice none 0 0, .int .i64 0, .bool false, .bool false] 24 (0, 0)) l.out hb); replace HB := bs_ hb; clear M hb; obtain ⟨x0, x1, x2, x3, x4, x5, U, W, X, Y, q4, q5⟩ := cells6 k.out; obtain ⟨Ao, co, eo⟩ := Kd.R_slice HO.out; subst eo)
     | ((with_reducible refine gate_dst (N := 12) rfl ?_); obtain ⟨w5, hW⟩ : ∃ w5 : World, w5 = (((((((w3.setCell ⟨x, 0, none⟩ (.int .i64 b)).setCell ⟨x, 1, none⟩ (.int .i64 c)).setCell ⟨x, 2, none⟩ (.slice Ao a.length co)).setCell ⟨x, 3, none⟩ (.int .i64 d)).setCell ⟨x, 4, none⟩ (.bool j)).setCell ⟨x, 5, none⟩ (.bool i)).setCell ⟨x, 4, none⟩ (.bool true)) := ⟨_, rfl⟩; rw [← hW]; replace l := Z (show w5.heap[E]? = some (.cells #[.int .i64 0, .int .i64 0, .slice none 0 0, .int .i64 0, .bool false, .bool false] 24 (0, 0)) by (rw [hW]; exact blk_off l.out NB.out.symm off2_)); replace HO := Z (show Kd.R k35 35 w5 w.heap.size (fun _ => True) (.slice Ao a.length co) a by (rw [hW]; exact R_off HO.out k.out (by decide) off2_)); replace k := Z (show w5.heap[x]? = some (.cells #[.int .i64 b, .int .i64 c, .slice Ao a.length co, .int .i64 d, .bool true, .bool i] 24 (0, 0)) by (rw [hW]; refine blk_put (cs := #[.int .i64 b, .int .i64 c, .slice Ao a.length co, .int .i64 d, .bool j, .bool i]) ?_ 4 _ rfl; refine blk_put (cs := #[.int .i64 b, .int .i64 c, .slice Ao a.length co, .int .i64 d, .bool j, .bool i]) ?_ 5 _ rfl; refine blk_put (cs := #[.int .i64 b, .int .i64 c, .slice Ao a.length co, .int .i64 d, .bool j, .bool i]) ?_ 4 _ rfl; refine blk_put (cs := #[.int .i64 b, .int .i64 c, .slice Ao a.length co, .int .i64 d, .bool j, .bool i]) ?_ 3 _ rfl; refine blk_put (cs := #[.int .i64 b, .int .i64 c, .slice s a.length u, .int .i64 d, .bool j, .bool i]) ?_ 2 _ rfl; refine blk_put (cs := #[.int .i64 b, .int .i64 c, .slice s a.length u, .int .i64 d, .bool j, .bool i]) ?_ 1 _ rfl; refine blk_put (cs := #[.int .i64 b, .int .i64 c, .slice s a.length u, .int .i64 d, .bool j, .bool i]) ?_ 0 _ rfl; exact k.out)); replace HB := Z (show Below w.heap.size w w5 by (rw [hW]; exact bl_)); clear hW x0 x1 x2 x3 x4 x5 U W X Y q4 q5; obtain ⟨x0, x1, x2, x3, x4, x5, U, W, X, Y, q4, q5⟩ := cells6 k.out)
     | ((with_reducible refine gate_dst (N := 16) rfl ?_); refine bx_ 16 79 #[.int .i64 d, .iface ERNT (.int .i64 n)] ?_; intro I hg w4 hbox hb; have m := Z (Kd.R_below HO.out hb); have p := Z (blk_below l.out hb); have r := bs_ hb; have v := Z hbox; have O := Z (le_new hg (below_size bl_) : w.heap.size ≤ I); have z := Z (by rw [hg]; exact Nat.ne_of_lt (blk_lt l.out) : E ≠ I); have P := Z (by rw [hg]; exact fun h_ => Nat.lt_irrefl _ (own_lt_ HO.out h_) : some I ≠ (Value.slice Ao a.length co).ownBlock); clear HO l HB k; have HO := m; have l := p; have HB := r; have S := v; have T := O; have L := z; have NO := P; clear m p r v O z P hb hbox hg; have hnd := L.out; obtain ⟨s0, s1, s2, s3, s4, s5, p0, p1, p2, p3, p4, p5⟩ := cells6 l.out))
    refine bodyPost_ret (results_ct rfl _ _ E 24 #[.int .i64 b, .int .i64 c, .slice Ao a.length co, .int .i64 d, .bool true, .bool i] (0, 0) _ rfl (by first | (refine blk_put (cs := #[.int .i64 b, .int .i64 c, .slice Ao a.length co, .int .i64 d, .bool true, .bool false]) ?_ 5 _ rfl; refine blk_put (cs := #[.int .i64 b, .int .i64 c, .slice Ao a.length co, .int .i64 d, .bool false, .bool false]) ?_ 4 _ rfl; refine blk_put (cs := #[.int .i64 b, .int .i64 c, .slice Ao a.length co, .int .i64 0, .bool false, .bool false]) ?_ 3 _ rfl; refine blk_put (cs := #[.int .i64 b, .int .i64 c, .slice none 0 0, .int .i64 0, .bool false, .bool false]) ?_ 2 _ rfl; refine blk_put (cs := #[.int .i64 b, .int .i64 0, .slice none 0 0, .int .i64 0, .bool false, .bool false]) ?_ 1 _ rfl; refine blk_put (cs := #[.int .i64 0, .int .i64 0, .slice none 0 0, .int .i64 0, .bool false, .bool false]) ?_ 0 _ rfl; exact l.out)) Tryd.underlying24 rfl (by kernel_rfl)) rfl ?_
    exact ⟨_, .slice (some ⟨I, 0, none⟩) 1 1, rfl, Kd.R_reok rfl (R_off HO.out l.out (by decide) off2_) (fun k_ e_ => Kd.R_base (R_off HO.out l.out (by decide) off2_) k_ e_), spot_V (blk_off S.out L.out.symm off2_) ⟨T.out, NO.out⟩, bl_⟩
 ·rw [if_neg hn] at h; cases h
end
def edit_Modify.f (c : Int) (d : Int) (i : List (S35)) (e : Int) (g : Bool) (h : Bool) (a1 : Int) : Option (Int × Int × (List (S35)) × Int × Bool × Bool) := (grid_Copy.f c d i e g h).bind fun a => ((field_Begin.f a.1 a.2.1 a.2.2.1 a.2.2.2.1 a.2.2.2.2.1 a.2.2.2.2.2 a1).bind fun b => (if b ≥ 0 then (if 0 ≤ b then (if b < (a.2.2.1.length : Int) then (some (a.1, a.2.1, (a.2.2.1.set (b : Int).toNat (⟨(rd_T35 a.2.2.1 b).f0, (⟨(rd_T35 a.2.2.1 b).f1.f0, (rd_T35 a.2.2.1 b).f1.f1, (rd_T35 a.2.2.1 b).f1.f2, true⟩ : S33), (rd_T35 a.2.2.1 b).f2⟩ : S35)), a.2.2.2.1, a.2.2.2.2.1, a.2.2.2.2.2)) else (none)) else (none)) else (some (a.1, a.2.1, a.2.2.1, a.2.2.2.1, a.2.2.2.2.1, a.2.2.2.2.2))))
theorem edit_Modify.calls (K : Int) (L : Int) (W : Option Addr) (Y : Nat) (G : List (S35)) (M : Int) (O : Bool) (P : Bool) (a1 : Int) (r1 : Int) (r2 : Int) (r3 : List (S35)) (r4 : Int) (r5 : Bool) (r6 : Bool) (w : World) (am : Kd.C k35 w W G.length G) (aj : G.length ≤ Y) (h : edit_Modify.f K L G M O P a1 = some (r1, r2, r3, r4, r5, r6)) :
  Calls Tryd.prog 36 #[.agg #[.int .i64 K, .int .i64 L, .slice W G.length Y, .int .i64 M, .bool O, .bool P], .int .i64 a1] w fun e w' => ∃ aO : Value, e = .returned (.agg #[.int .i64 r1, .int .i64 r2, aO, .int .i64 r4, .bool r5, .bool r6]) ∧ Kd.R k35 35 w' w.heap.size (fun _ => True) aO r3 ∧ Below w.heap.size w w' := by
 have c8 := Tryd.underlying24
 have ai := Z am
 have ah := Z aj
 clear am aj
 have HB := Z (Below.refl w.heap.size w)
 have H : ((grid_Copy.f K L G M O P).bind fun l => ((field_Begin.f l.1 l.2.1 l.2.2.1 l.2.2.2.1 l.2.2.2.2.1 l.2.2.2.2.2 a1).bind fun a => (if a ≥ 0 then (if 0 ≤ a then (if a < (l.2.2.1.length : Int) then (some (l.1, l.2.1, (l.2.2.1.set (a : Int).toNat (⟨(rd_T35 l.2.2.1 a).f0, (⟨(rd_T35 l.2.2.1 a).f1.f0, (rd_T35 l.2.2.1 a).f1.f1, (rd_T35 l.2.2.1 a).f1.f2, true⟩ : S33), (rd_T35 l.2.2.1 a).f2⟩ : S35)), l.2.2.2.1, l.2.2.2.2.1, l.2.2.2.2.2)) else (none)) else (none)) else (some (l.1, l.2.1, l.2.2.1, l.2.2.2.1, l.2.2.2.2.1, l.2.2.2.2.2))))) = some (r1, r2, r3, r4, r5, r6) := h
 clear h
 replace H := Option.bind_eq_some_iff.mp H
 obtain ⟨⟨r, s, b, u, x, y⟩, aI, H⟩ := H
 replace H : ((field_Begin.f r s b u x y a1).bind fun a => (if a ≥ 0 then (if 0 ≤ a then (if a < (b.length : Int) then (some (r, s, (b.set (a : Int).toNat (⟨(rd_T35 b a).f0, (⟨(rd_T35 b a).f1.f0, (rd_T35 b a).f1.f1, (rd_T35 b a).f1.f2, true⟩ : S33), (rd_T35 b a).f2⟩ : S35)), u, x, y)) else (none)) else (none)) else (some (r, s, b, u, x, y)))) = some (r1, r2, r3, r4, r5, r6) := H
 have A3 := Z aI
 clear aI
 replace H := Option.bind_eq_some_iff.mp H
 obtain ⟨a, aJ, H⟩ := H
 replace H : (if a ≥ 0 then (if 0 ≤ a then (if a < (b.length : Int) then (some (r, s, (b.set (a : Int).toNat (⟨(rd_T35 b a).f0, (⟨(rd_T35 b a).f1.f0, (rd_T35 b a).f1.f1, (rd_T35 b a).f1.f2, true⟩ : S33), (rd_T35 b a).f2⟩ : S35)), u, x, y)) else (none)) else (none)) else (some (r, s, b, u, x, y))) = some (r1, r2, r3, r4, r5, r6) := H
 have A4 := Z aJ
 clear aJ
 by_cases c5 : a ≥ 0
 ·rw [if_pos c5] at H
  have aP : decide (0 ≤ a) = true := decide_eq_true c5
  clear c5
  by_cases c6 : 0 ≤ a
  ·rw [if_pos c6] at H
   have c2 : decide (0 ≤ a) = true := decide_eq_true c6
   clear c6
   by_cases c7 : a < (b.length : Int)
   ·rw [if_pos c7] at H
    have c3 : decide (a < (b.length : Int)) = true := decide_eq_true c7
    clear c7
    obtain ⟨aC, V⟩ : ∃ y_ : List (S35), y_ = (b.set (a : Int).toNat (⟨(rd_T35 b a).f0, (⟨(rd_T35 b a).f1.f0, (rd_T35 b a).f1.f1, (rd_T35 b a).f1.f2, true⟩ : S33), (rd_T35 b a).f2⟩ : S35)) := ⟨_, rfl⟩
    replace H : (some (r, s, aC, u, x, y)) = some (r1, r2, r3, r4, r5, r6) := by first | (rw [V]; with_reducible exact H) | (have av := (Option.bind_some _ _).symm.trans H; rw [V]; with_reducible exact av) | (have av := (Option.bind_some _ _).symm.trans H; with_reducible exact av) | with_reducible exact H | (rw [V]; exact H) | exact H
    have aH := Z V
    clear V
    simp only [Option.some.injEq, Prod.mk.injEq] at H
    obtain ⟨rfl, rfl, rfl, rfl, rfl, rfl⟩ := H
    go_enter Tryd.func36, Tryd.ntmps36
    go_wp2_with (first | ((with_reducible refine gate_dst (N := 2) rfl ?_); refine bx_ 2 24 #[.int .i64 K, .int .i64 L, .slice W G.length Y, .int .i64 M, .bool O, .bool P] ?_; intro i hg w9 hbox hb; have d := Z (hbox); have aF := Z (ln_ hg : w.heap.size ≤ i); have aD := aF; replace HB := bs_ hb; clear hb hbox hg) | ((with_reducible refine gate_dst (N := 4) rfl ?_); refine bx_ 4 24 #[.int .i64 0, .int .i64 0, .slice none 0 0, .int .i64 0, .bool false, .bool false] ?_; intro q hg dd hbox hb; have m := Z (hbox); have aG := Z (ln_ hg : w.heap.size ≤ q); have aE := aG; replace HB := bs_ hb; have Q := nl' d hg; have F := ng' d hg; replace d := kb' d hb; clear hb hbox hg; have cS := Q.out; have cU := F.out; obtain ⟨aV, aW, aX, aY, aZ, a0, bP, bQ, bR, bS, bT, bU⟩ := cells6 d.out) | ((with_reducible refine gate_callee (f := 61) rfl ?_); refine goesL_ (some 7) rfl rfl Tryd.func61 (by kernel_rfl) rfl #[.agg #[.int .i64 K, .int .i64 L, .slice W G.length Y, .int .i64 M, .bool O, .bool P]] rfl ag_ ?_; (with_reducible refine (grid_Copy.calls K L _ _ G M O P r s b u x y _ ?side1 ?side2 A3.out).mono ?_); (case side1 => repeat (first | exact (Kd.C_below ai.out HB.out) | (with_reducible apply pC))); (case side2 => exact ah.out); rintro e de ⟨aU, rfl, ac, hb⟩; refine ⟨_, rfl, ?_⟩; have k := Z (Kd.R_lower ac (below_size bl_)); replace d := kb' d hb; replace m := kb' m hb; replace HB := bs_ hb; clear hb ac; obtain ⟨a2, a3, a4, a5, a6, a7, bV, bW, bX, bY, bZ, b0⟩ := cells6 d.out; obtain ⟨aa, J, aQ⟩ := Kd.R_slice k.out; subst aQ) | ((with_reducible refine gate_callee (f := 62) rfl ?_); refine goesL_ (some 10) rfl rfl Tryd.func62 (by kernel_rfl) rfl #[.agg #[.int .i64 r, .int .i64 s, .slice aa b.length J, .int .i64 u, .bool x, .bool y], .int .i64 a1] rfl ag_ ?_; (with_reducible refine (field_Begin.calls r s _ _ b u x y a1 a _ ?side1 ?side2 A4.out).mono ?_); (case side1 => refine (Kd.R_reads' (e := 35) (base := w.heap.size) (ok := fun k_ => True) (n := b.length) (c := J) ?_).2.2; exact (by (with_reducible repeat apply pR); exact (Kd.R_mono (f6R i (Kd.R_types k.out d.out (by decide)) (fun _ hk => hk.2)) (fun _ h_ => h_.1)))); (case side2 => exact (Kd.R_reads' k.out).2.1); rintro e I ⟨rfl, hb⟩; refine ⟨_, rfl, ?_⟩; replace k := Z (Kd.R_below (by (with_reducible repeat apply pR); exact (Kd.R_mono (f6R i (Kd.R_types k.out d.out (by decide)) (fun _ hk => hk.2)) (fun _ h_ => h_.1))) hb); replace d := Z (blk_below (g := i) (o := .cells #[.int .i64 r, .int .i64 s, .slice aa b.length J, .int .i64 u, .bool x, .bool y] 24 (0, 0)) (put6 d.out) hb); replace m := Z (blk_below (g := q) (o := .cells #[.int .i64 0, .int .i64 0, .slice none 0 0, .int .i64 0, .bool false, .bool false] 24 (0, 0)) (blk_off m.out F.out off2_) hb); replace HB := bs_ hb; clear hb; obtain ⟨a8, a9, ba, bb, bc, bd, b1, b2, b3, b4, b5, b6⟩ := cells6 d.out; have p8 : 0 ≤ (a : Int) := od_; have q8 : (a : Int) < ((b.length : Int) : Int) := od_; obtain ⟨E, dc, aL, aM, cL, db, aK⟩ := Kd.R_form k.out (by omega); (first | cases aL | (injection aL with ea_ en_ ec_; (first | subst ea_ | (injection ea_ with ea_; subst ea_)); subst ec_; clear en_)); have cK := Z aM; have c9 := Z aK; clear aM cL aK; obtain ⟨da, aS, aN, T, U⟩ := Kd.R_elem k.out z35 (a : Int) p8 q8; obtain rfl := k35_openM aN; have cW : I.cell? ⟨E, (a : Int).toNat * 6, none⟩ = some (.bool ((rd_T35 b a).f0)) := T 0 _ rfl; have cX : I.cell? ⟨E, (a : Int).toNat * 6 + 1, none⟩ = some (.bool ((rd_T35 b a).f1.f0)) := T 1 _ rfl; have cY : I.cell? ⟨E, (a : Int).toNat * 6 + 2, none⟩ = some (.bool ((rd_T35 b a).f1.f1)) := T 2 _ rfl; have cZ : I.cell? ⟨E, (a : Int).toNat * 6 + 3, none⟩ = some (.int .i64 ((rd_T35 b a).f1.f2)) := T 3 _ rfl; have c0 : I.cell? ⟨E, (a : Int).toNat * 6 + 4, none⟩ = some (.bool ((rd_T35 b a).f1.f3)) := T 4 _ rfl; have c1 : I.cell? ⟨E, (a : Int).toNat * 6 + 5, none⟩ = some (.int .u8 ((rd_T35 b a).f2)) := T 5 _ rfl; have cM : I.frozen? ⟨E, (a : Int).toNat * 6, none⟩ = false := U 0; have cN : I.frozen? ⟨E, (a : Int).toNat * 6 + 1, none⟩ = false := U 1; have cO : I.frozen? ⟨E, (a : Int).toNat * 6 + 2, none⟩ = false := U 2; have cP : I.frozen? ⟨E, (a : Int).toNat * 6 + 3, none⟩ = false := U 3; have cQ : I.frozen? ⟨E, (a : Int).toNat * 6 + 4, none⟩ = false := U 4; have cR : I.frozen? ⟨E, (a : Int).toNat * 6 + 5, none⟩ = false := U 5; clear aS T U aN; replace p8 := eq_true p8; replace q8 := eq_true q8; have aw := Z (show Kd.R k35 35 I w.heap.size (fun _ => True) (.slice (some ⟨E, 0, none⟩) b.length J) b from (by (with_reducible repeat apply pR); exact k.out)); obtain ⟨c4, ak, ax, ab, al⟩ := Kd.R_elem aw.out z35 (a : Int) (od_) (by have h_ : (a : Int) < ((b.length : Int) : Int) := od_; first | exact h_ | (have e_ := (Kd.R_reads' k.out).1; omega) | simpa using h_); obtain rfl := k35_openM ax; have ag := Kd.R_seg aw.out (a : Int) (od_) (by have h_ : (a : Int) < ((b.length : Int) : Int) := od_; first | exact h_ | (have e_ := (Kd.R_reads' k.out).1; omega) | simpa using h_) (seg := [.bool true]) (j := 4) ak ab (show 5 ≤ 6 from by decide) (x' := (⟨(rd_T35 b a).f0, (⟨(rd_T35 b a).f1.f0, (rd_T35 b a).f1.f1, (rd_T35 b a).f1.f2, true⟩ : S33), (rd_T35 b a).f2⟩ : S35)) (k35_mkM _ _ _ (⟨(rd_T35 b a).f0, (⟨(rd_T35 b a).f1.f0, (rd_T35 b a).f1.f1, (rd_T35 b a).f1.f2, true⟩ : S33), (rd_T35 b a).f2⟩ : S35) ) (fun _ hk => hk); have aA := ab 4 _ rfl; (try simp only [show (k35).sz = 6 from rfl, Nat.mul_one, Nat.add_zero] at aA); have az := al 4; (try simp only [show (k35).sz = 6 from rfl, Nat.mul_one, Nat.add_zero] at az); clear ak ab al ax) | ((with_reducible refine gate_store (t := 4) (p := 18) rfl ?_); refine sx_ 4 18 (I.setCell ⟨E, (a : Int).toNat * 6 + 4, none⟩ (.bool true)) ?_; intro aB hw; have hg : I.grownBy aB (some E) := (by rw [hw]; exact ag.2); have hp_ : Kd.R k35 35 aB w.heap.size (fun _ => True) (.slice (some ⟨E, 0, none⟩) b.length J) aC := (by rw [hw, aH.out]; exact ag.1); clear ag; replace d := Z (blk_grown (g := i) (o := .cells #[.int .i64 r, .int .i64 s, .slice (some ⟨E, 0, none⟩) b.length J, .int .i64 u, .bool x, .bool y] 24 (0, 0)) (vK d.out) hg (Kd.R_ne k.out d.out (by decide))); replace m := Z (blk_grown (g := q) (o := .cells #[.int .i64 0, .int .i64 0, .slice none 0 0, .int .i64 0, .bool false, .bool false] 24 (0, 0)) (vK m.out) hg (Kd.R_ne k.out m.out (by decide))); replace k := Z (hp_); replace HB := Z ((by rw [hw]; exact below_set (HB.out) cK.out : Below w.heap.size w aB)); clear hg hw hp_; obtain ⟨be, bf, bg, bh, bi, bj, b7, b8, b9, ca, cb, cc⟩ := cells6 d.out; obtain ⟨bk, bl, bm, bn, bo, bp, cd, ce, cf, cg, ch, ci⟩ := cells6 m.out))
    refine bodyPost_ret (results_cell_row rfl _ _ q 24 #[.int .i64 r, .int .i64 s, .slice (some ⟨E, 0, none⟩) b.length J, .int .i64 u, .bool x, .bool y] (0, 0) _ rfl (put6 m.out) Tryd.underlying24 rfl (by kernel_rfl)) rfl ?_
    exact ⟨_, er_, by (with_reducible repeat apply pR); exact Kd.R_mono (f6R q (Kd.R_types k.out m.out (by decide)) (fun _ hk => hk.2)) (fun _ hk => trivial), bl_⟩
   ·rw [if_neg c7] at H
    exact absurd H (by simp)
  ·rw [if_neg c6] at H
   exact absurd H (by simp)
 ·rw [if_neg c5] at H
  have aP : decide (0 ≤ a) = false := decide_eq_false c5
  clear c5
  simp only [Option.some.injEq, Prod.mk.injEq] at H
  obtain ⟨rfl, rfl, rfl, rfl, rfl, rfl⟩ := H
  go_enter Tryd.func36, Tryd.ntmps36
  go_wp2_with (first | ((with_reducible refine gate_dst (N := 2) rfl ?_); refine bx_ 2 24 #[.int .i64 K, .int .i64 L, .slice W G.length Y, .int .i64 M, .bool O, .bool P] ?_; intro i hg df hbox hb; have d := Z (hbox); have aF := Z (ln_ hg : w.heap.size ≤ i); have aD := aF; replace HB := bs_ hb; clear hb hbox hg) | ((with_reducible refine gate_dst (N := 4) rfl ?_); refine bx_ 4 24 #[.int .i64 0, .int .i64 0, .slice none 0 0, .int .i64 0, .bool false, .bool false] ?_; intro q hg dg hbox hb; have m := Z (hbox); have aG := Z (ln_ hg : w.heap.size ≤ q); have aE := aG; replace HB := bs_ hb; have Q := nl' d hg; have F := ng' d hg; replace d := kb' d hb; clear hb hbox hg; have cT := Q.out; have cV := F.out; obtain ⟨bq, br, bs, bt, bu, bv, cj, ck, cl, cm, cn, co⟩ := cells6 d.out) | ((with_reducible refine gate_callee (f := 61) rfl ?_); refine goesL_ (some 7) rfl rfl Tryd.func61 (by kernel_rfl) rfl #[.agg #[.int .i64 K, .int .i64 L, .slice W G.length Y, .int .i64 M, .bool O, .bool P]] rfl ag_ ?_; (with_reducible refine (grid_Copy.calls K L _ _ G M O P r s b u x y _ ?side1 ?side2 A3.out).mono ?_); (case side1 => repeat (first | exact (Kd.C_below ai.out HB.out) | (with_reducible apply pC))); (case side2 => exact ah.out); rintro e dh ⟨aU, rfl, ac, hb⟩; refine ⟨_, rfl, ?_⟩; have k := Z (Kd.R_lower ac (below_size bl_)); replace d := kb' d hb; replace m := kb' m hb; replace HB := bs_ hb; clear hb ac; obtain ⟨bw, bx, bz, bA, bB, bC, cp, cq, cr, ct, cu, cv⟩ := cells6 d.out; obtain ⟨X, S, aR⟩ := Kd.R_slice k.out; subst aR) | ((with_reducible refine gate_callee (f := 62) rfl ?_); refine goesL_ (some 10) rfl rfl Tryd.func62 (by kernel_rfl) rfl #[.agg #[.int .i64 r, .int .i64 s, .slice X b.length S, .int .i64 u, .bool x, .bool y], .int .i64 a1] rfl ag_ ?_; (with_reducible refine (field_Begin.calls r s _ _ b u x y a1 a _ ?side1 ?side2 A4.out).mono ?_); (case side1 => refine (Kd.R_reads' (e := 35) (base := w.heap.size) (ok := fun k_ => True) (n := b.length) (c := S) ?_).2.2; exact (by (with_reducible repeat apply pR); exact (Kd.R_mono (f6R i (Kd.R_types k.out d.out (by decide)) (fun _ hk => hk.2)) (fun _ h_ => h_.1)))); (case side2 => exact (Kd.R_reads' k.out).2.1); rintro e di ⟨rfl, hb⟩; refine ⟨_, rfl, ?_⟩; replace k := Z (Kd.R_below (by (with_reducible repeat apply pR); exact (Kd.R_mono (f6R i (Kd.R_types k.out d.out (by decide)) (fun _ hk => hk.2)) (fun _ h_ => h_.1))) hb); replace d := Z (blk_below (g := i) (o := .cells #[.int .i64 r, .int .i64 s, .slice X b.length S, .int .i64 u, .bool x, .bool y] 24 (0, 0)) (put6 d.out) hb); replace m := Z (blk_below (g := q) (o := .cells #[.int .i64 0, .int .i64 0, .slice none 0 0, .int .i64 0, .bool false, .bool false] 24 (0, 0)) (blk_off m.out F.out off2_) hb); replace HB := bs_ hb; clear hb; obtain ⟨bD, bE, bF, bG, bH, bI, cw, cx, cy, cz, cA, cB⟩ := cells6 d.out; obtain ⟨bJ, bK, bL, bM, bN, bO, cC, cD, cE, cF, cG, cH⟩ := cells6 m.out))
  refine bodyPost_ret (results_cell_row rfl _ _ q 24 #[.int .i64 r, .int .i64 s, .slice X b.length S, .int .i64 u, .bool x, .bool y] (0, 0) _ rfl (put6 m.out) Tryd.underlying24 rfl (by kernel_rfl)) rfl ?_
  exact ⟨_, er_, by (with_reducible repeat apply pR); exact Kd.R_mono (f6R q (Kd.R_types k.out m.out (by decide)) (fun _ hk => hk.2)) (fun _ hk => trivial), bl_⟩
def attr_Char.f (a0 : Int) : Option (Bool) := if a0 = 0 then (some true) else (if a0 = 28 then (some true) else (if a0 = 30 then (some true) else (if a0 ≥ 64 then (some (a0 != 255)) else (some false))))
theorem attr_Char.calls (a0 : Int) (r : Bool) (w : World) (h : attr_Char.f a0 = some r) :
  Calls Tryd.prog 53 #[.int .u8 a0] w fun e w' => e = .returned (.bool r) ∧ Drawn0 w w' := by
 have H : (if a0 = 0 then (some true) else (if a0 = 28 then (some true) else (if a0 = 30 then (some true) else (if a0 ≥ 64 then (some (a0 != 255)) else (some false))))) = some r := h
 clear h
 by_cases c2 : a0 = 0
 ·rw [if_pos c2] at H
  obtain ⟨a, b⟩ := eT_ c2
  clear c2
  obtain rfl := Option.some.inj H
  go_enter Tryd.func53, Tryd.ntmps53
  go_wp2
  go_ret
  exact ⟨dn_, dr_⟩
 ·rw [if_neg c2] at H
  obtain ⟨a, b⟩ := eF_ c2
  by_cases c3 : a0 = 28
  ·rw [if_pos c3] at H
   obtain ⟨c, d⟩ := eT_ c3
   clear c3
   obtain rfl := Option.some.inj H
   go_enter Tryd.func53, Tryd.ntmps53
   go_wp2
   go_ret
   exact ⟨dn_, dr_⟩
  ·rw [if_neg c3] at H
   obtain ⟨c, d⟩ := eF_ c3
   by_cases c4 : a0 = 30
   ·rw [if_pos c4] at H
    obtain ⟨g, i⟩ := eT_ c4
    clear c4
    obtain rfl := Option.some.inj H
    go_enter Tryd.func53, Tryd.ntmps53
    go_wp2
    go_ret
    exact ⟨dn_, dr_⟩
   ·rw [if_neg c4] at H
    obtain ⟨g, i⟩ := eF_ c4
    by_cases c5 : a0 ≥ 64
    ·rw [if_pos c5] at H
     have j : decide (64 ≤ a0) = true := decide_eq_true c5
     clear c5
     obtain rfl := Option.some.inj H
     go_enter Tryd.func53, Tryd.ntmps53
     go_wp2
     go_ret
     exact ⟨dn_, dr_⟩
    ·rw [if_neg c5] at H
     have j : decide (64 ≤ a0) = false := decide_eq_false c5
     clear c5
     obtain rfl := Option.some.inj H
     go_enter Tryd.func53, Tryd.ntmps53
     go_wp2
     go_ret
     exact ⟨dn_, dr_⟩
def edit_Digit.f (a0 : Int) : Option (Bool) := if a0 ≥ 240 then (if a0 ≤ 249 then (some true) else (if a0 = 96 then (some true) else (some (a0 == 75)))) else (if a0 = 96 then (some true) else (some (a0 == 75)))
theorem edit_Digit.calls (a0 : Int) (r : Bool) (w : World) (h : edit_Digit.f a0 = some r) :
  Calls Tryd.prog 38 #[.int .u8 a0] w fun e w' => e = .returned (.bool r) ∧ Drawn0 w w' := by
 have H : (if a0 ≥ 240 then (if a0 ≤ 249 then (some true) else (if a0 = 96 then (some true) else (some (a0 == 75)))) else (if a0 = 96 then (some true) else (some (a0 == 75)))) = some r := h
 clear h
 by_cases c2 : a0 ≥ 240
 ·rw [if_pos c2] at H
  have a : decide (240 ≤ a0) = true := decide_eq_true c2
  clear c2
  by_cases c3 : a0 ≤ 249
  ·rw [if_pos c3] at H
   have b : decide (a0 ≤ 249) = true := decide_eq_true c3
   clear c3
   obtain rfl := Option.some.inj H
   go_enter Tryd.func38, Tryd.ntmps38
   go_wp2
   go_ret
   exact ⟨dn_, dr_⟩
  ·rw [if_neg c3] at H
   have b : decide (a0 ≤ 249) = false := decide_eq_false c3
   clear c3
   by_cases c4 : a0 = 96
   ·rw [if_pos c4] at H
    obtain ⟨c, d⟩ := eT_ c4
    clear c4
    obtain rfl := Option.some.inj H
    go_enter Tryd.func38, Tryd.ntmps38
    go_wp2
    go_ret
    exact ⟨dn_, dr_⟩
   ·rw [if_neg c4] at H
    obtain ⟨c, d⟩ := eF_ c4
    obtain rfl := Option.some.inj H
    go_enter Tryd.func38, Tryd.ntmps38
    go_wp2
    go_ret
    exact ⟨dn_, dr_⟩
 ·rw [if_neg c2] at H
  have a : decide (240 ≤ a0) = false := decide_eq_false c2
  clear c2
  by_cases c5 : a0 = 96
  ·rw [if_pos c5] at H
   obtain ⟨g, i⟩ := eT_ c5
   clear c5
   obtain rfl := Option.some.inj H
   go_enter Tryd.func38, Tryd.ntmps38
   go_wp2
   go_ret
   exact ⟨dn_, dr_⟩
  ·rw [if_neg c5] at H
   obtain ⟨g, i⟩ := eF_ c5
   obtain rfl := Option.some.inj H
   go_enter Tryd.func38, Tryd.ntmps38
   go_wp2
   go_ret
   exact ⟨dn_, dr_⟩
def edit_fits.j0 : Nat → Int → Bool → Int → Int → List (S35) → Int → Bool → Bool → Option (Option Er × (List (S164)))
 | 0, _, _, _, _, _, _, _, _ => none
 | k + 1, j, x12, b, c, d, a, e, g => if x12 = true then (some (none, ([] : List (S164)))) else ((field_Of.f b c d a e g a).bind fun h => (if h.2.1 = true then ((edit_Digit.f j).bind fun i => (if i = true then (some (none, ([] : List (S164)))) else (some (some (Er.num 9), ([] : List (S164)))))) else (some (none, ([] : List (S164))))))
def edit_fits.f (k : Nat) (b : Int) (c : Int) (g : List (S35)) (a : Int) (d : Bool) (e : Bool) (a1 : Int) : Option (Option Er × (List (S164))) := (field_Open.f b c g a d e a).bind fun h => (if h = true then (if a1 = 28 then (edit_fits.j0 k a1 true b c g a d e) else (edit_fits.j0 k a1 (a1 == 30) b c g a d e)) else (some (some (Er.num 8), ([] : List (S164)))))
theorem edit_fits.mono_l : ∀ k, (∀ b c d e f g i j, LeO (edit_fits.j0 k b c d e f g i j) (edit_fits.j0 (k + 1) b c d e f g i j))
 | 0 => fun _ _ _ _ _ _ _ _ r h => by simp [edit_fits.j0] at h
 | k + 1 => by
  have a := edit_fits.mono_l k
  ·intro b c d e f g i j
   unfold edit_fits.j0
   repeat' first
   | (with_reducible exact a _ _ _ _ _ _ _ _)
   | (with_reducible exact LeO.refl _)
   | (with_reducible exact LeO.none _)
   | (with_reducible refine LeO.ite ?_ ?_)
   | (with_reducible refine LeO.bind ?_ (fun _ => ?_))
   | exact a _ _ _ _ _ _ _ _
   | exact LeO.none _
   | refine LeO.ite ?_ ?_
   | refine LeO.bind ?_ (fun _ => ?_)
theorem edit_fits.mono : ∀ a0 a1 b c a4 d e k, LeO (edit_fits.f k a0 a1 b c a4 d e) (edit_fits.f (k + 1) a0 a1 b c a4 d e) := by
 intro a0 a1 b c a4 d e k
 have a := edit_fits.mono_l k
 unfold edit_fits.f
 repeat' first
   | (with_reducible exact a _ _ _ _ _ _ _ _)
   | (with_reducible exact LeO.refl _)
   | (with_reducible exact LeO.none _)
   | (with_reducible refine LeO.ite ?_ ?_)
   | (with_reducible refine LeO.bind ?_ (fun _ => ?_))
   | exact a _ _ _ _ _ _ _ _
   | exact LeO.none _
   | refine LeO.ite ?_ ?_
   | refine LeO.bind ?_ (fun _ => ?_)
theorem edit_fits.calls (k : Nat) (d : Int) (g : Int) (n : Option Addr) (o : Nat) (c : List (S35)) (a : Int) (i : Bool) (j : Bool) (a1 : Int) (r : Option Er) (s : List (S164)) (w : World) (L : Kd.C k35 w n c.length c) (K : c.length ≤ o) (h : edit_fits.f k d g c a i j a1 = some (r, s)) :
  Calls Tryd.prog 54 #[.agg #[.int .i64 d, .int .i64 g, .slice n c.length o, .int .i64 a, .bool i, .bool j], .int .u8 a1] w fun e w' => ∃ am : Value, e = .returned (errW am r) ∧ Kd.V k164 164 w' w.heap.size (fun k_ => (w.heap.size ≤ k_)) am s ∧ Below w.heap.size w w' := by
 have be := Tryd.underlying24
 have bg := Tryd.underlying33
 have bf := Tryd.underlying28
 have bh := Tryd.underlying52
 have v := Z L
 have u := Z K
 clear L K
 have HB := Z (Below.refl w.heap.size w)
 have H : ((field_Open.f d g c a i j a).bind fun z => (if z = true then (if a1 = 28 then (edit_fits.j0 k a1 true d g c a i j) else (edit_fits.j0 k a1 (a1 == 30) d g c a i j)) else (some (some (Er.num 8), ([] : List (S164)))))) = some (r, s) := h
 clear h
 replace H := Option.bind_eq_some_iff.mp H
 obtain ⟨z, al, H⟩ := H
 replace H : (if z = true then (if a1 = 28 then (edit_fits.j0 k a1 true d g c a i j) else (edit_fits.j0 k a1 (a1 == 30) d g c a i j)) else (some (some (Er.num 8), ([] : List (S164))))) = some (r, s) := H
 have A3 := Z al
 clear al
 by_cases c4 : z = true
 ·subst c4
  have H1 : (if a1 = 28 then (edit_fits.j0 k a1 true d g c a i j) else (edit_fits.j0 k a1 (a1 == 30) d g c a i j)) = some (r, s) := by rw [if_pos rfl] at H; exact H
  clear H
  have H := H1
  clear H1
  have Q := Z H
  clear H
  go_enter Tryd.func54, Tryd.ntmps54
  go_upto_region 3 with (first | ((with_reducible refine gate_dst (N := 2) rfl ?_); refine bx_ 2 24 #[.int .i64 d, .int .i64 g, .slice n c.length o, .int .i64 a, .bool i, .bool j] ?_; intro q hg w6 hbox hb; have b := Z (hbox); have ai := Z (ln_ hg : w.heap.size ≤ q); have ah := ai; replace HB := bs_ hb; clear hb hbox hg; obtain ⟨S, T, U, W, X, Y, aa, ab, ac, ad, ae, af⟩ := cells6 b.out) | ((with_reducible refine gate_callee (f := 44) rfl ?_); refine goesL_ (some 9) rfl rfl Tryd.func44 (by kernel_rfl) rfl #[.agg #[.int .i64 d, .int .i64 g, .slice n c.length o, .int .i64 a, .bool i, .bool j], .int .i64 a] rfl ag_ ?_; (with_reducible refine (field_Open.calls d g _ _ c a i j a true _ ?side1 ?side2 A3.out).mono ?_); (case side1 => repeat (first | exact (Kd.C_below v.out HB.out) | (with_reducible apply pC))); (case side2 => exact u.out); rintro e w8 ⟨rfl, hb⟩; refine ⟨_, rfl, ?_⟩; replace b := kb' b hb; replace HB := bs_ hb; clear hb))
  (try simp only [Act.put, sA, sB, sC])
  go_cut [12] (fun bd wc => ∃ (kq : Nat) (y : Bool), bd = .bool y ∧ Aside0 (edit_fits.j0 kq a1 y d g c a i j = some (r, s)) ∧ Aside0 (kq ≤ k) ∧ Aside0 (wc.heap[q]? = some (.cells #[.int .i64 d, .int .i64 g, (.slice n c.length o), .int .i64 a, .bool i, .bool j] 24 (0, 0))) ∧ Aside0 (Below w.heap.size w wc))
  case first =>
   have H := Q.out
   clear Q
   by_cases c9 : a1 = 28
   ·rw [if_pos c9] at H
    obtain ⟨x, R⟩ := eT_ c9
    clear c9
    (first | rw [x] | (simp only [i64_w, i32_w]; rw [x]) | skip)
    have H' := Z H
    clear H
    go_wp2
    go_meet
    case rel => exact ⟨_, (true), (dn_), H', ⟨by first | omega | exact Nat.le_refl _⟩, ⟨vK b.out⟩, ⟨bl_⟩⟩
   ·rw [if_neg c9] at H
    obtain ⟨x, R⟩ := eF_ c9
    (first | rw [x] | (simp only [i64_w, i32_w]; rw [x]) | skip)
    have H' := Z H
    clear H
    go_wp2
    go_meet
    case rel => exact ⟨_, ((a1 == 30)), (dn_), H', ⟨by first | omega | exact Nat.le_refl _⟩, ⟨vK b.out⟩, ⟨bl_⟩⟩
  case rest =>
   clear Q
   clear S T U W X Y aa ab ac ad ae af
   obtain ⟨kq, y, rfl, HA, bi, b, HB⟩ := hcut
   cases kq with
   | zero => exact absurd HA.out (by simp [edit_fits.j0])
   | succ bj =>
    have H := HA.out
    clear HA
    simp only [edit_fits.j0] at H
    by_cases c10 : y = true
    ·subst c10
     have H1 : (some (none, ([] : List (S164)))) = some (r, s) := by rw [if_pos rfl] at H; exact H
     clear H
     have H := H1
     clear H1
     simp only [Option.some.injEq, Prod.mk.injEq] at H
     obtain ⟨rfl, rfl⟩ := H
     go_wp2
     go_ret
     exact ⟨_, er_, Kd.R_V (by first | exact Kd.R_nil _ _ _ 0 _ | exact Kd.N_nil _ _ _ _ _ | exact Kd.V_nil _ _ _ _ _ | exact Kd.Q_nil _ _ _ _ _ | exact Kd.S_nil _ _ _ _ _), bl_⟩
    ·replace c10 := Bool.eq_false_iff.mpr c10
     subst c10
     have H1 : ((field_Of.f d g c a i j a).bind fun aj => (if aj.2.1 = true then ((edit_Digit.f a1).bind fun p => (if p = true then (some (none, ([] : List (S164)))) else (some (some (Er.num 9), ([] : List (S164)))))) else (some (none, ([] : List (S164)))))) = some (r, s) := by rw [if_neg (show ¬ (false = true) by decide)] at H; exact H
     clear H
     have H := H1
     clear H1
     replace H := Option.bind_eq_some_iff.mp H
     obtain ⟨⟨D, ag, E, F⟩, O, H⟩ := H
     replace H : (if ag = true then ((edit_Digit.f a1).bind fun p => (if p = true then (some (none, ([] : List (S164)))) else (some (some (Er.num 9), ([] : List (S164)))))) else (some (none, ([] : List (S164))))) = some (r, s) := H
     have M := Z O
     clear O
     by_cases G : ag = true
     ·subst G
      have H1 : ((edit_Digit.f a1).bind fun p => (if p = true then (some (none, ([] : List (S164)))) else (some (some (Er.num 9), ([] : List (S164)))))) = some (r, s) := by rw [if_pos rfl] at H; exact H
      clear H
      have H := H1
      clear H1
      replace H := Option.bind_eq_some_iff.mp H
      obtain ⟨p, P, H⟩ := H
      replace H : (if p = true then (some (none, ([] : List (S164)))) else (some (some (Er.num 9), ([] : List (S164))))) = some (r, s) := H
      have ak := Z P
      clear P
      by_cases I : p = true
      ·subst I
       have H1 : (some (none, ([] : List (S164)))) = some (r, s) := by rw [if_pos rfl] at H; exact H
       clear H
       have H := H1
       clear H1
       simp only [Option.some.injEq, Prod.mk.injEq] at H
       obtain ⟨rfl, rfl⟩ := H
       obtain ⟨an, ao, ap, aq, ar, au, aN, aO, aP, aQ, aR, aS⟩ := cells6 b.out
       go_wp2_with (first | ((with_reducible refine gate_callee (f := 69) rfl ?_); refine goesL_ (some 23) rfl rfl Tryd.func69 (by kernel_rfl) rfl #[.agg #[.int .i64 d, .int .i64 g, .slice n c.length o, .int .i64 a, .bool i, .bool j], .int .i64 a] rfl ag_ ?_; (with_reducible refine (field_Of.calls d g _ _ c a i j a D true E F _ ?side1 ?side2 M.out).mono ?_); (case side1 => repeat (first | exact (Kd.C_below v.out HB.out) | (with_reducible apply pC))); (case side2 => exact u.out); rintro e bk ⟨rfl, hb⟩; refine ⟨_, rfl, ?_⟩; replace b := kb' b hb; replace HB := bs_ hb; clear hb) | (go_at_call 38; (with_reducible refine (edit_Digit.calls a1 true _ ak.out).mono ?_); rintro e w' ⟨rfl, ⟨nd, rfl⟩⟩))
       go_ret
       exact ⟨_, er_, Kd.R_V (by first | exact Kd.R_nil _ _ _ 0 _ | exact Kd.N_nil _ _ _ _ _ | exact Kd.V_nil _ _ _ _ _ | exact Kd.Q_nil _ _ _ _ _ | exact Kd.S_nil _ _ _ _ _), bl_⟩
      ·replace I := Bool.eq_false_iff.mpr I
       subst I
       have H1 : (some (some (Er.num 9), ([] : List (S164)))) = some (r, s) := by rw [if_neg (show ¬ (false = true) by decide)] at H; exact H
       clear H
       have H := H1
       clear H1
       simp only [Option.some.injEq, Prod.mk.injEq] at H
       obtain ⟨rfl, rfl⟩ := H
       obtain ⟨av, aw, ax, ay, az, aA, aT, aU, aV, aW, aX, aY⟩ := cells6 b.out
       go_wp2_with (first | ((with_reducible refine gate_callee (f := 69) rfl ?_); refine goesL_ (some 23) rfl rfl Tryd.func69 (by kernel_rfl) rfl #[.agg #[.int .i64 d, .int .i64 g, .slice n c.length o, .int .i64 a, .bool i, .bool j], .int .i64 a] rfl ag_ ?_; (with_reducible refine (field_Of.calls d g _ _ c a i j a D true E F _ ?side1 ?side2 M.out).mono ?_); (case side1 => repeat (first | exact (Kd.C_below v.out HB.out) | (with_reducible apply pC))); (case side2 => exact u.out); rintro e bl ⟨rfl, hb⟩; refine ⟨_, rfl, ?_⟩; replace b := kb' b hb; replace HB := bs_ hb; clear hb) | (go_at_call 38; (with_reducible refine (edit_Digit.calls a1 false _ ak.out).mono ?_); rintro e w' ⟨rfl, ⟨nd, rfl⟩⟩))
       go_ret
       exact ⟨_, er_, Kd.R_V (by first | exact Kd.R_nil _ _ _ 0 _ | exact Kd.N_nil _ _ _ _ _ | exact Kd.V_nil _ _ _ _ _ | exact Kd.Q_nil _ _ _ _ _ | exact Kd.S_nil _ _ _ _ _), bl_⟩
     ·replace G := Bool.eq_false_iff.mpr G
      subst G
      have H1 : (some (none, ([] : List (S164)))) = some (r, s) := by rw [if_neg (show ¬ (false = true) by decide)] at H; exact H
      clear H
      have H := H1
      clear H1
      simp only [Option.some.injEq, Prod.mk.injEq] at H
      obtain ⟨rfl, rfl⟩ := H
      obtain ⟨aB, aC, aD, aE, aF, aG, aZ, a0, a2, a3, a4, a5⟩ := cells6 b.out
      go_wp2_with (first | ((with_reducible refine gate_callee (f := 69) rfl ?_); refine goesL_ (some 23) rfl rfl Tryd.func69 (by kernel_rfl) rfl #[.agg #[.int .i64 d, .int .i64 g, .slice n c.length o, .int .i64 a, .bool i, .bool j], .int .i64 a] rfl ag_ ?_; (with_reducible refine (field_Of.calls d g _ _ c a i j a D false E F _ ?side1 ?side2 M.out).mono ?_); (case side1 => repeat (first | exact (Kd.C_below v.out HB.out) | (with_reducible apply pC))); (case side2 => exact u.out); rintro e bm ⟨rfl, hb⟩; refine ⟨_, rfl, ?_⟩; replace b := kb' b hb; replace HB := bs_ hb; clear hb))
      go_ret
      exact ⟨_, er_, Kd.R_V (by first | exact Kd.R_nil _ _ _ 0 _ | exact Kd.N_nil _ _ _ _ _ | exact Kd.V_nil _ _ _ _ _ | exact Kd.Q_nil _ _ _ _ _ | exact Kd.S_nil _ _ _ _ _), bl_⟩
 ·replace c4 := Bool.eq_false_iff.mpr c4
  subst c4
  have H1 : (some (some (Er.num 8), ([] : List (S164)))) = some (r, s) := by rw [if_neg (show ¬ (false = true) by decide)] at H; exact H
  clear H
  have H := H1
  clear H1
  simp only [Option.some.injEq, Prod.mk.injEq] at H
  obtain ⟨rfl, rfl⟩ := H
  go_enter Tryd.func54, Tryd.ntmps54
  go_wp2_with (first | ((with_reducible refine gate_dst (N := 2) rfl ?_); refine bx_ 2 24 #[.int .i64 d, .int .i64 g, .slice n c.length o, .int .i64 a, .bool i, .bool j] ?_; intro q hg bn hbox hb; have b := Z (hbox); have ai := Z (ln_ hg : w.heap.size ≤ q); have ah := ai; replace HB := bs_ hb; clear hb hbox hg; obtain ⟨aH, aI, aJ, aK, aL, aM, a6, a7, a8, a9, ba, bb⟩ := cells6 b.out) | ((with_reducible refine gate_callee (f := 44) rfl ?_); refine goesL_ (some 9) rfl rfl Tryd.func44 (by kernel_rfl) rfl #[.agg #[.int .i64 d, .int .i64 g, .slice n c.length o, .int .i64 a, .bool i, .bool j], .int .i64 a] rfl ag_ ?_; (with_reducible refine (field_Open.calls d g _ _ c a i j a false _ ?side1 ?side2 A3.out).mono ?_); (case side1 => repeat (first | exact (Kd.C_below v.out HB.out) | (with_reducible apply pC))); (case side2 => exact u.out); rintro e bo ⟨rfl, hb⟩; refine ⟨_, rfl, ?_⟩; replace b := kb' b hb; replace HB := bs_ hb; clear hb))
  go_ret
  exact ⟨_, er_, Kd.R_V (by first | exact Kd.R_nil _ _ _ 0 _ | exact Kd.N_nil _ _ _ _ _ | exact Kd.V_nil _ _ _ _ _ | exact Kd.Q_nil _ _ _ _ _ | exact Kd.S_nil _ _ _ _ _), bl_⟩
-- NOT PRINTED: function 78 (slices_IndexFunc_int_int)
def keys_set.j0 : Nat → Int → Bool → Int → Int → List (S35) → Int → Bool → Bool → Option (Int × Int × (List (S35)) × Int × Bool × Bool × Option Er × (List (S164)))
 | 0, _, _, _, _, _, _, _, _ => none
 | k + 1, i, x11, b, c, d, e, g, h => if x11 = true then (some (b, c, d, e, g, h, some (Er.num 7), ([] : List (S164)))) else ((grid_Copy.f b c d e g h).bind fun a => (if i = 16 then (some (a.1, a.2.1, a.2.2.1, a.2.2.2.1, false, (i == 15), none, ([] : List (S164)))) else (some (a.1, a.2.1, a.2.2.1, a.2.2.2.1, a.2.2.2.2.1, (i == 15), none, ([] : List (S164))))))
def keys_set.f (k : Nat) (b : Int) (c : Int) (g : List (S35)) (d : Int) (a : Bool) (e : Bool) (a1 : Int) : Option (Int × Int × (List (S35)) × Int × Bool × Bool × Option Er × (List (S164))) := if a1 = 15 then (keys_set.j0 k a1 a b c g d a e) else (keys_set.j0 k a1 false b c g d a e)
theorem keys_set.mono_l : ∀ k, (∀ b c d e f g i j, LeO (keys_set.j0 k b c d e f g i j) (keys_set.j0 (k + 1) b c d e f g i j))
 | 0 => fun _ _ _ _ _ _ _ _ r h => by simp [keys_set.j0] at h
 | k + 1 => by
  have a := keys_set.mono_l k
  ·intro b c d e f g i j
   unfold keys_set.j0
   repeat' first
   | (with_reducible exact a _ _ _ _ _ _ _ _)
   | (with_reducible exact LeO.refl _)
   | (with_reducible exact LeO.none _)
   | (with_reducible refine LeO.ite ?_ ?_)
   | (with_reducible refine LeO.bind ?_ (fun _ => ?_))
   | exact a _ _ _ _ _ _ _ _
   | exact LeO.none _
   | refine LeO.ite ?_ ?_
   | refine LeO.bind ?_ (fun _ => ?_)
theorem keys_set.mono : ∀ a0 a1 b c a4 d e k, LeO (keys_set.f k a0 a1 b c a4 d e) (keys_set.f (k + 1) a0 a1 b c a4 d e) := by
 intro a0 a1 b c a4 d e k
 have a := keys_set.mono_l k
 unfold keys_set.f
 repeat' first
   | (with_reducible exact a _ _ _ _ _ _ _ _)
   | (with_reducible exact LeO.refl _)
   | (with_reducible exact LeO.none _)
   | (with_reducible refine LeO.ite ?_ ?_)
   | (with_reducible refine LeO.bind ?_ (fun _ => ?_))
   | exact a _ _ _ _ _ _ _ _
   | exact LeO.none _
   | refine LeO.ite ?_ ?_
   | refine LeO.bind ?_ (fun _ => ?_)
theorem keys_set.calls (k : Nat) (E : Int) (F : Int) (Q : Nat → Prop) (C : Option Addr) (J : Nat) (n : List (S35)) (G : Int) (z : Bool) (I : Bool) (a1 : Int) (r1 : Int) (r2 : Int) (r3 : List (S35)) (r4 : Int) (r5 : Bool) (r6 : Bool) (r7 : Option Er) (r8 : List (S164)) (w : World) (aE : Kd.V k35 35 w w.heap.size (fun k_ => Q k_) (.slice C n.length J) n) (h : keys_set.f k E F n G z I a1 = some (r1, r2, r3, r4, r5, r6, r7, r8)) :
  Calls Tryd.prog 88 #[.agg #[.int .i64 E, .int .i64 F, .slice C n.length J, .int .i64 G, .bool z, .bool I], .int .i64 a1] w fun e w' => ∃ aK aL : Value, e = .returned (.tuple #[.agg #[.int .i64 r1, .int .i64 r2, aK, .int .i64 r4, .bool r5, .bool r6], errW aL r7]) ∧ Kd.V k35 35 w' w.heap.size (fun k_ => (Q k_ ∨ w.heap.size ≤ k_)) aK r3 ∧ Kd.V k164 164 w' w.heap.size (fun k_ => (Q k_ ∨ w.heap.size ≤ k_)) aL r8 ∧ Below w.heap.size w w' := by
 have c3 := Tryd.underlying24
 have c4 := Tryd.underlying28
 have c5 := Tryd.underlying52
 have S := Z (show Kd.V k35 35 w w.heap.size (fun k_ => (Q k_ ∨ w.heap.size ≤ k_)) (.slice C n.length J) n from Kd.V_mono aE (fun k_ hk => .inl hk))
 have HB := Z (Below.refl w.heap.size w)
 have H : (if a1 = 15 then (keys_set.j0 k a1 z E F n G z I) else (keys_set.j0 k a1 false E F n G z I)) = some (r1, r2, r3, r4, r5, r6, r7, r8) := h
 clear h
 have am := Z H
 clear H
 go_enter Tryd.func88, Tryd.ntmps88
 go_upto_region 1 with (first | ((with_reducible refine gate_dst (N := 2) rfl ?_); refine bx_ 2 24 #[.int .i64 E, .int .i64 F, .slice C n.length J, .int .i64 G, .bool z, .bool I] ?_; intro b hg w4 hbox hb; replace S := Z (ve S.out hg hb); have c := Z (hbox); have cP := Z (ln_ hg : w.heap.size ≤ b); have cN := cP; replace HB := bs_ hb; clear hb hbox hg) | ((with_reducible refine gate_dst (N := 4) rfl ?_); refine bx_ 4 24 #[.int .i64 0, .int .i64 0, .slice none 0 0, .int .i64 0, .bool false, .bool false] ?_; intro a hg w5 hbox hb; replace S := Z (ve S.out hg hb); have g := Z (hbox); have cQ := Z (ln_ hg : w.heap.size ≤ a); have cO := cQ; replace HB := bs_ hb; have i := nl' c hg; have o := ng' c hg; replace c := kb' c hb; clear hb hbox hg))
 (try simp only [Act.put, sA, sB, sC])
 go_cut [11] (fun cS wc => ∃ (kq : Nat) (U : Bool), cS = .bool U ∧ Aside0 (keys_set.j0 kq a1 U E F n G z I = some (r1, r2, r3, r4, r5, r6, r7, r8)) ∧ Aside0 (kq ≤ k) ∧ Aside0 (Kd.V k35 35 wc w.heap.size (fun k_ => (Q k_ ∨ w.heap.size ≤ k_) ∧ k_ ≠ b ∧ k_ ≠ a) (.slice C n.length J) n) ∧ Aside0 (wc.heap[b]? = some (.cells #[.int .i64 E, .int .i64 F, (.slice C n.length J), .int .i64 G, .bool z, .bool I] 24 (0, 0))) ∧ Aside0 (wc.heap[a]? = some (.cells #[.int .i64 0, .int .i64 0, (.slice none 0 0), .int .i64 0, .bool false, .bool false] 24 (0, 0))) ∧ Aside0 (Below w.heap.size w wc))
 case first =>
  have H := am.out
  clear am
  by_cases c6 : a1 = 15
  ·rw [if_pos c6] at H
   obtain ⟨T, an⟩ := eT_ c6
   clear c6
   (first | rw [T] | (simp only [i64_w, i32_w]; rw [T]) | skip)
   have H' := Z H
   clear H
   have c1 := i.out
   have c2 := o.out
   obtain ⟨ao, ap, aq, ar, au, av, aw, ax, ay, az, aA, aB⟩ := cells6 c.out
   go_wp2
   go_meet
   case rel => exact ⟨_, (z), (dn_), H', ⟨by first | omega | exact Nat.le_refl _⟩, ⟨by (with_reducible repeat apply pV); exact Kd.V_mono S.out (fun _ hk => ⟨hk.1.1, ⟨hk.1.2, hk.2⟩⟩)⟩, ⟨vK c.out⟩, ⟨vK g.out⟩, ⟨bl_⟩⟩
  ·rw [if_neg c6] at H
   obtain ⟨T, an⟩ := eF_ c6
   (first | rw [T] | (simp only [i64_w, i32_w]; rw [T]) | skip)
   have H' := Z H
   clear H
   go_wp2
   go_meet
   case rel => exact ⟨_, (false), (dn_), H', ⟨by first | omega | exact Nat.le_refl _⟩, ⟨by (with_reducible repeat apply pV); exact Kd.V_mono S.out (fun _ hk => ⟨hk.1.1, ⟨hk.1.2, hk.2⟩⟩)⟩, ⟨vK c.out⟩, ⟨vK g.out⟩, ⟨bl_⟩⟩
 case rest =>
  clear am
  obtain ⟨kq, U, rfl, HA, da, HO_1311002, c, g, HB⟩ := hcut
  cases kq with
  | zero => exact absurd HA.out (by simp [keys_set.j0])
  | succ db =>
   have H := HA.out
   clear HA
   simp only [keys_set.j0] at H
   by_cases c9 : U = true
   ·subst c9
    have H1 : (some (E, F, n, G, z, I, some (Er.num 7), ([] : List (S164)))) = some (r1, r2, r3, r4, r5, r6, r7, r8) := by rw [if_pos rfl] at H; exact H
    clear H
    have H := H1
    clear H1
    simp only [Option.some.injEq, Prod.mk.injEq] at H
    obtain ⟨rfl, rfl, rfl, rfl, rfl, rfl, rfl, rfl⟩ := H
    have cV := i.out
    have cY := o.out
    obtain ⟨aO, aP, aQ, aR, aS, aT, bO, bP, bQ, bR, bS, bT⟩ := cells6 c.out
    obtain ⟨aU, aV, aW, aX, aY, aZ, bU, bV, bW, bX, bY, bZ⟩ := cells6 g.out
    go_wp2_with (first | ((with_reducible refine gate_store (t := 24) (p := 4) rfl ?_); refine sx_ 24 4 ((((((wc.setCell ⟨a, 0, none⟩ (.int .i64 E)).setCell ⟨a, 1, none⟩ (.int .i64 F)).setCell ⟨a, 2, none⟩ (.slice C n.length J)).setCell ⟨a, 3, none⟩ (.int .i64 G)).setCell ⟨a, 4, none⟩ (.bool z)).setCell ⟨a, 5, none⟩ (.bool I)) ?_; intro ak hw; replace HO_1311002 : Aside0 (Kd.V k35 35 ak w.heap.size (fun k_ => (Q k_ ∨ w.heap.size ≤ k_) ∧ k_ ≠ b ∧ k_ ≠ a) (.slice C n.length J) n) := ⟨(by rw [hw]; exact (by (with_reducible repeat apply pV); exact V_off HO_1311002.out (fun k_ hk => hk.2.2) off2_ (fun _ hk => ⟨hk.1, ⟨hk.2.1, hk.2.2⟩⟩)))⟩; replace c := Z (sM hw (blk_off c.out i.out off2_)); replace g : Aside0 (ak.heap[a]? = some (.cells #[.int .i64 E, .int .i64 F, .slice C n.length J, .int .i64 G, .bool z, .bool I] 24 (0, 0))) := ⟨by rw [hw]; exact (put6 g.out)⟩; replace HB : Aside0 (Below w.heap.size w ak) := ⟨by rw [hw]; exact bl_⟩; clear hw))
    refine bodyPost_ret (results_ct rfl _ _ a 24 #[.int .i64 E, .int .i64 F, .slice C n.length J, .int .i64 G, .bool z, .bool I] (0, 0) _ rfl (vK g.out) Tryd.underlying24 rfl (by kernel_rfl)) rfl ?_
    exact ⟨_, _, er_, by (with_reducible repeat apply pV); exact Kd.V_mono HO_1311002.out (fun _ hk => hk.1), Kd.R_V (Kd.R_nil _ _ _ 0 _), bl_⟩
   ·replace c9 := Bool.eq_false_iff.mpr c9
    subst c9
    have H1 : ((grid_Copy.f E F n G z I).bind fun O => (if a1 = 16 then (some (O.1, O.2.1, O.2.2.1, O.2.2.2.1, false, (a1 == 15), none, ([] : List (S164)))) else (some (O.1, O.2.1, O.2.2.1, O.2.2.2.1, O.2.2.2.2.1, (a1 == 15), none, ([] : List (S164)))))) = some (r1, r2, r3, r4, r5, r6, r7, r8) := by rw [if_neg (show ¬ (false = true) by decide)] at H; exact H
    clear H
    have H := H1
    clear H1
    replace H := Option.bind_eq_some_iff.mp H
    obtain ⟨⟨j, l, d, m, r, P⟩, al, H⟩ := H
    replace H : (if a1 = 16 then (some (j, l, d, m, false, (a1 == 15), none, ([] : List (S164)))) else (some (j, l, d, m, r, (a1 == 15), none, ([] : List (S164))))) = some (r1, r2, r3, r4, r5, r6, r7, r8) := H
    have aG := Z al
    clear al
    by_cases W : a1 = 16
    ·rw [if_pos W] at H
     obtain ⟨aC, aD⟩ := eT_ W
     clear W
     simp only [Option.some.injEq, Prod.mk.injEq] at H
     obtain ⟨rfl, rfl, rfl, rfl, rfl, rfl, rfl, rfl⟩ := H
     have cW := i.out
     have cZ := o.out
     obtain ⟨a0, a2, a3, a4, a5, a6, b0, b1, b2, b3, b4, b5⟩ := cells6 c.out
     go_wp2_with (first | ((with_reducible refine gate_callee (f := 61) rfl ?_); refine goesL_ (some 15) rfl rfl Tryd.func61 (by kernel_rfl) rfl #[.agg #[.int .i64 E, .int .i64 F, .slice C n.length J, .int .i64 G, .bool z, .bool I]] rfl ag_ ?_; (with_reducible refine (grid_Copy.calls E F _ _ n G z I j l d m r P _ ?side1 ?side2 aG.out).mono ?_); (case side1 => repeat (first | exact (Kd.V_reads' HO_1311002.out).2.2 | (with_reducible apply pC))); (case side2 => exact (Kd.V_reads' HO_1311002.out).2.1); rintro e cT ⟨aF, rfl, X, hb⟩; refine ⟨_, rfl, ?_⟩; replace HO_1311002 := Z (Kd.V_elder' (vV HO_1311002.out) (Kd.R_base X) hb); have q := Z (Kd.R_lower (Kd.R_newM (M := fun k_ => (w.heap.size ≤ k_)) X (below_size bl_) (fun k_ h_ => h_)) (below_size bl_)); replace c := kb' c hb; replace g := kb' g hb; replace HB := bs_ hb; clear hb X; obtain ⟨a7, a8, a9, ba, bb, bc, b6, b7, b8, b9, ca, cb⟩ := cells6 c.out; obtain ⟨A, B, aM⟩ := Kd.R_slice q.out; subst aM) | ((with_reducible refine gate_store (t := 24) (p := 2) rfl ?_); refine sx_ 24 2 ((((((cT.setCell ⟨b, 0, none⟩ (.int .i64 j)).setCell ⟨b, 1, none⟩ (.int .i64 l)).setCell ⟨b, 2, none⟩ (.slice A d.length B)).setCell ⟨b, 3, none⟩ (.int .i64 m)).setCell ⟨b, 4, none⟩ (.bool r)).setCell ⟨b, 5, none⟩ (.bool P)) ?_; intro Y hw; replace HO_1311002 : Aside0 (Kd.V k35 35 Y w.heap.size (fun k_ => (Q k_ ∨ w.heap.size ≤ k_) ∧ some k_ ≠ (.slice A d.length B : Value).ownBlock ∧ k_ ≠ b ∧ k_ ≠ a) (.slice C n.length J) n) := ⟨(by rw [hw]; exact (by (with_reducible repeat apply pV); exact V_off HO_1311002.out (fun k_ hk => hk.1.2.1) off2_ (fun _ hk => ⟨hk.1.1, ⟨hk.2, ⟨hk.1.2.1, hk.1.2.2⟩⟩⟩)))⟩; replace q : Aside0 (Kd.R k35 35 Y w.heap.size (fun k_ => (w.heap.size ≤ k_)) (.slice A d.length B) d) := ⟨(by rw [hw]; exact (by (with_reducible repeat apply pR); exact Kd.R_mono (f6R b (Kd.R_types q.out c.out (by decide)) (fun _ hk => hk.2)) (fun _ hk => hk.1.1)))⟩; replace c : Aside0 (Y.heap[b]? = some (.cells #[.int .i64 j, .int .i64 l, .slice A d.length B, .int .i64 m, .bool r, .bool P] 24 (0, 0))) := ⟨by rw [hw]; exact (put6 c.out)⟩; replace g := Z (sM hw (blk_off g.out o.out off2_)); replace HB : Aside0 (Below w.heap.size w Y) := ⟨by rw [hw]; exact bl_⟩; clear hw; obtain ⟨bd, be, bf, bg, bh, bi, cc, cd, ce, cf, cg, ch⟩ := cells6 c.out; obtain ⟨bj, bk, bl, bm, bn, bo, ci, cj, ck, cl, cm, cn⟩ := cells6 g.out) | ((with_reducible refine gate_store (t := 24) (p := 4) rfl ?_); refine sx_ 24 4 ((((((((Y.setCell ⟨b, 4, none⟩ (.bool false)).setCell ⟨b, 5, none⟩ (.bool (a1 == 15))).setCell ⟨a, 0, none⟩ (.int .i64 j)).setCell ⟨a, 1, none⟩ (.int .i64 l)).setCell ⟨a, 2, none⟩ (.slice A d.length B)).setCell ⟨a, 3, none⟩ (.int .i64 m)).setCell ⟨a, 4, none⟩ (.bool false)).setCell ⟨a, 5, none⟩ (.bool (a1 == 15))) ?_; intro ab hw; replace HO_1311002 : Aside0 (Kd.V k35 35 ab w.heap.size (fun k_ => (Q k_ ∨ w.heap.size ≤ k_) ∧ some k_ ≠ (.slice A d.length B : Value).ownBlock ∧ k_ ≠ b ∧ k_ ≠ a) (.slice C n.length J) n) := ⟨(by rw [hw]; exact (by (with_reducible repeat apply pV); exact Kd.V_mono (f6V a (Kd.V_far (p := ⟨b, 5, none⟩) (Kd.V_far (p := ⟨b, 4, none⟩) (Kd.V_mono (Kd.V_mono HO_1311002.out (fun k_ hk => (⟨hk, hk.2.2.1⟩ : _ ∧ k_ ≠ b))) (fun k_ hk => (⟨hk, hk.1.2.2.2⟩ : _ ∧ k_ ≠ a))) (fun _ hk => hk.1.2) (.bool false)) (fun _ hk => hk.1.2) (.bool (a1 == 15))) (fun _ hk => hk.2)) (fun _ hk => ⟨hk.1.1.1, ⟨hk.1.1.2.1, ⟨hk.1.1.2.2.1, hk.1.1.2.2.2⟩⟩⟩)))⟩; replace q : Aside0 (Kd.R k35 35 ab w.heap.size (fun k_ => (w.heap.size ≤ k_)) (.slice A d.length B) d) := ⟨(by rw [hw]; exact (by (with_reducible repeat apply pR); exact Kd.R_mono (f6R a (Kd.R_far (p := ⟨b, 5, none⟩) (Kd.R_far (p := ⟨b, 4, none⟩) (Kd.R_types (Kd.R_types q.out c.out (by decide)) g.out (by decide)) (fun _ hk => hk.1.2) (.bool false)) (fun _ hk => hk.1.2) (.bool (a1 == 15))) (fun _ hk => hk.2)) (fun _ hk => hk.1.1)))⟩; replace c : Aside0 (ab.heap[b]? = some (.cells #[.int .i64 j, .int .i64 l, .slice A d.length B, .int .i64 m, .bool false, .bool (a1 == 15)] 24 (0, 0))) := ⟨(by rw [hw]; exact (by (with_reducible repeat apply pK); refine blk_far ?_ i.out _; (with_reducible repeat apply pK); refine blk_far ?_ i.out _; (with_reducible repeat apply pK); refine blk_far ?_ i.out _; (with_reducible repeat apply pK); refine blk_far ?_ i.out _; (with_reducible repeat apply pK); refine blk_far ?_ i.out _; (with_reducible repeat apply pK); refine blk_far ?_ i.out _; (with_reducible repeat apply pK); refine blk_put (cs := #[.int .i64 j, .int .i64 l, .slice A d.length B, .int .i64 m, .bool false, .bool P]) ?_ 5 _ rfl; (with_reducible repeat apply pK); refine blk_put (cs := #[.int .i64 j, .int .i64 l, .slice A d.length B, .int .i64 m, .bool r, .bool P]) ?_ 4 _ rfl; (with_reducible repeat apply pK); exact c.out))⟩; replace g : Aside0 (ab.heap[a]? = some (.cells #[.int .i64 j, .int .i64 l, .slice A d.length B, .int .i64 m, .bool false, .bool (a1 == 15)] 24 (0, 0))) := ⟨(by rw [hw]; exact (by (with_reducible repeat apply pK); refine blk_put (cs := #[.int .i64 j, .int .i64 l, .slice A d.length B, .int .i64 m, .bool false, .bool false]) ?_ 5 _ rfl; (with_reducible repeat apply pK); refine blk_put (cs := #[.int .i64 j, .int .i64 l, .slice A d.length B, .int .i64 m, .bool false, .bool false]) ?_ 4 _ rfl; (with_reducible repeat apply pK); refine blk_put (cs := #[.int .i64 j, .int .i64 l, .slice A d.length B, .int .i64 0, .bool false, .bool false]) ?_ 3 _ rfl; (with_reducible repeat apply pK); refine blk_put (cs := #[.int .i64 j, .int .i64 l, .slice none 0 0, .int .i64 0, .bool false, .bool false]) ?_ 2 _ rfl; (with_reducible repeat apply pK); refine blk_put (cs := #[.int .i64 j, .int .i64 0, .slice none 0 0, .int .i64 0, .bool false, .bool false]) ?_ 1 _ rfl; (with_reducible repeat apply pK); refine blk_put (cs := #[.int .i64 0, .int .i64 0, .slice none 0 0, .int .i64 0, .bool false, .bool false]) ?_ 0 _ rfl; (with_reducible repeat apply pK); refine blk_far ?_ o.out _; (with_reducible repeat apply pK); refine blk_far ?_ o.out _; (with_reducible repeat apply pK); exact g.out))⟩; replace HB : Aside0 (Below w.heap.size w ab) := ⟨by rw [hw]; exact bl_⟩; clear hw))
     refine bodyPost_ret (results_ct rfl _ _ a 24 #[.int .i64 j, .int .i64 l, .slice A d.length B, .int .i64 m, .bool false, .bool (a1 == 15)] (0, 0) _ rfl (vK g.out) Tryd.underlying24 rfl (by kernel_rfl)) rfl ?_
     exact ⟨_, _, er_, Kd.V_mono (Kd.R_V (by (with_reducible repeat apply pR); exact q.out)) (fun k_ hk => by first | exact ⟨(.inr (hk.1)), hk.2⟩ | exact (.inr (hk))), Kd.R_V (Kd.R_nil _ _ _ 0 _), bl_⟩
    ·rw [if_neg W] at H
     obtain ⟨aC, aD⟩ := eF_ W
     simp only [Option.some.injEq, Prod.mk.injEq] at H
     obtain ⟨rfl, rfl, rfl, rfl, rfl, rfl, rfl, rfl⟩ := H
     have cX := i.out
     have c0 := o.out
     obtain ⟨bp, bq, br, bs, bt, bu, co, cp, cq, cr, ct, cu⟩ := cells6 c.out
     go_wp2_with (first | ((with_reducible refine gate_callee (f := 61) rfl ?_); refine goesL_ (some 15) rfl rfl Tryd.func61 (by kernel_rfl) rfl #[.agg #[.int .i64 E, .int .i64 F, .slice C n.length J, .int .i64 G, .bool z, .bool I]] rfl ag_ ?_; (with_reducible refine (grid_Copy.calls E F _ _ n G z I j l d m r P _ ?side1 ?side2 aG.out).mono ?_); (case side1 => repeat (first | exact (Kd.V_reads' HO_1311002.out).2.2 | (with_reducible apply pC))); (case side2 => exact (Kd.V_reads' HO_1311002.out).2.1); rintro e cU ⟨aF, rfl, X, hb⟩; refine ⟨_, rfl, ?_⟩; replace HO_1311002 := Z (Kd.V_elder' (vV HO_1311002.out) (Kd.R_base X) hb); have q := Z (Kd.R_lower (Kd.R_newM (M := fun k_ => (w.heap.size ≤ k_)) X (below_size bl_) (fun k_ h_ => h_)) (below_size bl_)); replace c := kb' c hb; replace g := kb' g hb; replace HB := bs_ hb; clear hb X; obtain ⟨bv, bw, bx, bz, bA, bB, cv, cw, cx, cy, cz, cA⟩ := cells6 c.out; obtain ⟨D, K, aN⟩ := Kd.R_slice q.out; subst aN) | ((with_reducible refine gate_store (t := 24) (p := 2) rfl ?_); refine sx_ 24 2 ((((((cU.setCell ⟨b, 0, none⟩ (.int .i64 j)).setCell ⟨b, 1, none⟩ (.int .i64 l)).setCell ⟨b, 2, none⟩ (.slice D d.length K)).setCell ⟨b, 3, none⟩ (.int .i64 m)).setCell ⟨b, 4, none⟩ (.bool r)).setCell ⟨b, 5, none⟩ (.bool P)) ?_; intro aa hw; replace HO_1311002 : Aside0 (Kd.V k35 35 aa w.heap.size (fun k_ => (Q k_ ∨ w.heap.size ≤ k_) ∧ some k_ ≠ (.slice D d.length K : Value).ownBlock ∧ k_ ≠ b ∧ k_ ≠ a) (.slice C n.length J) n) := ⟨(by rw [hw]; exact (by (with_reducible repeat apply pV); exact V_off HO_1311002.out (fun k_ hk => hk.1.2.1) off2_ (fun _ hk => ⟨hk.1.1, ⟨hk.2, ⟨hk.1.2.1, hk.1.2.2⟩⟩⟩)))⟩; replace q : Aside0 (Kd.R k35 35 aa w.heap.size (fun k_ => (w.heap.size ≤ k_)) (.slice D d.length K) d) := ⟨(by rw [hw]; exact (by (with_reducible repeat apply pR); exact Kd.R_mono (f6R b (Kd.R_types q.out c.out (by decide)) (fun _ hk => hk.2)) (fun _ hk => hk.1.1)))⟩; replace c : Aside0 (aa.heap[b]? = some (.cells #[.int .i64 j, .int .i64 l, .slice D d.length K, .int .i64 m, .bool r, .bool P] 24 (0, 0))) := ⟨by rw [hw]; exact (put6 c.out)⟩; replace g := Z (sM hw (blk_off g.out o.out off2_)); replace HB : Aside0 (Below w.heap.size w aa) := ⟨by rw [hw]; exact bl_⟩; clear hw; obtain ⟨bC, bD, bE, bF, bG, bH, cB, cC, cD, cE, cF, cG⟩ := cells6 c.out; obtain ⟨bI, bJ, bK, bL, bM, bN, cH, cI, cJ, cK, cL, cM⟩ := cells6 g.out) | ((with_reducible refine gate_store (t := 24) (p := 4) rfl ?_); refine sx_ 24 4 (((((((aa.setCell ⟨b, 5, none⟩ (.bool (a1 == 15))).setCell ⟨a, 0, none⟩ (.int .i64 j)).setCell ⟨a, 1, none⟩ (.int .i64 l)).setCell ⟨a, 2, none⟩ (.slice D d.length K)).setCell ⟨a, 3, none⟩ (.int .i64 m)).setCell ⟨a, 4, none⟩ (.bool r)).setCell ⟨a, 5, none⟩ (.bool (a1 == 15))) ?_; intro ac hw; replace HO_1311002 : Aside0 (Kd.V k35 35 ac w.heap.size (fun k_ => (Q k_ ∨ w.heap.size ≤ k_) ∧ some k_ ≠ (.slice D d.length K : Value).ownBlock ∧ k_ ≠ b ∧ k_ ≠ a) (.slice C n.length J) n) := ⟨(by rw [hw]; exact (by (with_reducible repeat apply pV); exact Kd.V_mono (f6V a (Kd.V_far (p := ⟨b, 5, none⟩) (Kd.V_mono (Kd.V_mono HO_1311002.out (fun k_ hk => (⟨hk, hk.2.2.1⟩ : _ ∧ k_ ≠ b))) (fun k_ hk => (⟨hk, hk.1.2.2.2⟩ : _ ∧ k_ ≠ a))) (fun _ hk => hk.1.2) (.bool (a1 == 15))) (fun _ hk => hk.2)) (fun _ hk => ⟨hk.1.1.1, ⟨hk.1.1.2.1, ⟨hk.1.1.2.2.1, hk.1.1.2.2.2⟩⟩⟩)))⟩; replace q : Aside0 (Kd.R k35 35 ac w.heap.size (fun k_ => (w.heap.size ≤ k_)) (.slice D d.length K) d) := ⟨(by rw [hw]; exact (by (with_reducible repeat apply pR); exact Kd.R_mono (f6R a (Kd.R_far (p := ⟨b, 5, none⟩) (Kd.R_types (Kd.R_types q.out c.out (by decide)) g.out (by decide)) (fun _ hk => hk.1.2) (.bool (a1 == 15))) (fun _ hk => hk.2)) (fun _ hk => hk.1.1)))⟩; replace c : Aside0 (ac.heap[b]? = some (.cells #[.int .i64 j, .int .i64 l, .slice D d.length K, .int .i64 m, .bool r, .bool (a1 == 15)] 24 (0, 0))) := ⟨(by rw [hw]; exact (by (with_reducible repeat apply pK); refine blk_far ?_ i.out _; (with_reducible repeat apply pK); refine blk_far ?_ i.out _; (with_reducible repeat apply pK); refine blk_far ?_ i.out _; (with_reducible repeat apply pK); refine blk_far ?_ i.out _; (with_reducible repeat apply pK); refine blk_far ?_ i.out _; (with_reducible repeat apply pK); refine blk_far ?_ i.out _; (with_reducible repeat apply pK); refine blk_put (cs := #[.int .i64 j, .int .i64 l, .slice D d.length K, .int .i64 m, .bool r, .bool P]) ?_ 5 _ rfl; (with_reducible repeat apply pK); exact c.out))⟩; replace g : Aside0 (ac.heap[a]? = some (.cells #[.int .i64 j, .int .i64 l, .slice D d.length K, .int .i64 m, .bool r, .bool (a1 == 15)] 24 (0, 0))) := ⟨(by rw [hw]; exact (by (with_reducible repeat apply pK); refine blk_put (cs := #[.int .i64 j, .int .i64 l, .slice D d.length K, .int .i64 m, .bool r, .bool false]) ?_ 5 _ rfl; (with_reducible repeat apply pK); refine blk_put (cs := #[.int .i64 j, .int .i64 l, .slice D d.length K, .int .i64 m, .bool false, .bool false]) ?_ 4 _ rfl; (with_reducible repeat apply pK); refine blk_put (cs := #[.int .i64 j, .int .i64 l, .slice D d.length K, .int .i64 0, .bool false, .bool false]) ?_ 3 _ rfl; (with_reducible repeat apply pK); refine blk_put (cs := #[.int .i64 j, .int .i64 l, .slice none 0 0, .int .i64 0, .bool false, .bool false]) ?_ 2 _ rfl; (with_reducible repeat apply pK); refine blk_put (cs := #[.int .i64 j, .int .i64 0, .slice none 0 0, .int .i64 0, .bool false, .bool false]) ?_ 1 _ rfl; (with_reducible repeat apply pK); refine blk_put (cs := #[.int .i64 0, .int .i64 0, .slice none 0 0, .int .i64 0, .bool false, .bool false]) ?_ 0 _ rfl; (with_reducible repeat apply pK); refine blk_far ?_ o.out _; (with_reducible repeat apply pK); exact g.out))⟩; replace HB : Aside0 (Below w.heap.size w ac) := ⟨by rw [hw]; exact bl_⟩; clear hw))
     refine bodyPost_ret (results_ct rfl _ _ a 24 #[.int .i64 j, .int .i64 l, .slice D d.length K, .int .i64 m, .bool r, .bool (a1 == 15)] (0, 0) _ rfl (vK g.out) Tryd.underlying24 rfl (by kernel_rfl)) rfl ?_
     exact ⟨_, _, er_, Kd.V_mono (Kd.R_V (by (with_reducible repeat apply pR); exact q.out)) (fun k_ hk => by first | exact ⟨(.inr (hk.1)), hk.2⟩ | exact (.inr (hk))), Kd.R_V (Kd.R_nil _ _ _ 0 _), bl_⟩
theorem keys_set.callsN (k : Nat) (I : Int) (J : Int) (S : Nat → Prop) (O : Option Addr) (P : Nat) (n : List (S35)) (K : Int) (E : Bool) (L : Bool) (a1 : Int) (r1 : Int) (r2 : Int) (r3 : List (S35)) (r4 : Int) (r5 : Bool) (r6 : Bool) (r8 : List (S164)) (w : World) (aD : Kd.V k35 35 w w.heap.size (fun k_ => S k_) (.slice O n.length P) n) (h : keys_set.f k I J n K E L a1 = some (r1, r2, r3, r4, r5, r6, (none : Option Er), r8)) :
  Calls Tryd.prog 88 #[.agg #[.int .i64 I, .int .i64 J, .slice O n.length P, .int .i64 K, .bool E, .bool L], .int .i64 a1] w fun e w' => ∃ aA aJ : Value, e = .returned (.tuple #[.agg #[.int .i64 r1, .int .i64 r2, aA, .int .i64 r4, .bool r5, .bool r6], errW aJ (none : Option Er)]) ∧ Kd.R k35 35 w' w.heap.size (fun k_ => (w.heap.size ≤ k_)) aA r3 ∧ Kd.V k164 164 w' w.heap.size (fun k_ => (S k_ ∨ w.heap.size ≤ k_) ∧ some k_ ≠ (aA : Value).ownBlock) aJ r8 ∧ Below w.heap.size w w' := by
 have cB := Tryd.underlying24
 have cC := Tryd.underlying28
 have cD := Tryd.underlying52
 have Q := Z (show Kd.V k35 35 w w.heap.size (fun k_ => (S k_ ∨ w.heap.size ≤ k_)) (.slice O n.length P) n from Kd.V_mono aD (fun k_ hk => .inl hk))
 have HB := Z (Below.refl w.heap.size w)
 have H : (if a1 = 15 then (keys_set.j0 k a1 E I J n K E L) else (keys_set.j0 k a1 false I J n K E L)) = some (r1, r2, r3, r4, r5, r6, (none : Option Er), r8) := h
 clear h
 have ak := Z H
 clear H
 go_enter Tryd.func88, Tryd.ntmps88
 go_upto_region 1 with (first | ((with_reducible refine gate_dst (N := 2) rfl ?_); refine bx_ 2 24 #[.int .i64 I, .int .i64 J, .slice O n.length P, .int .i64 K, .bool E, .bool L] ?_; intro b hg w4 hbox hb; replace Q := Z (ve Q.out hg hb); have c := Z (hbox); have co := Z (ln_ hg : w.heap.size ≤ b); have cm := co; replace HB := bs_ hb; clear hb hbox hg) | ((with_reducible refine gate_dst (N := 4) rfl ?_); refine bx_ 4 24 #[.int .i64 0, .int .i64 0, .slice none 0 0, .int .i64 0, .bool false, .bool false] ?_; intro a hg w5 hbox hb; replace Q := Z (ve Q.out hg hb); have l := Z (hbox); have cp := Z (ln_ hg : w.heap.size ≤ a); have cn := cp; replace HB := bs_ hb; have i := nl' c hg; have q := ng' c hg; replace c := kb' c hb; clear hb hbox hg))
 (try simp only [Act.put, sA, sB, sC])
 go_cut [11] (fun cr wc => ∃ (kq : Nat) (U : Bool), cr = .bool U ∧ Aside0 (keys_set.j0 kq a1 U I J n K E L = some (r1, r2, r3, r4, r5, r6, (none : Option Er), r8)) ∧ Aside0 (kq ≤ k) ∧ Aside0 (Kd.V k35 35 wc w.heap.size (fun k_ => (S k_ ∨ w.heap.size ≤ k_) ∧ k_ ≠ b ∧ k_ ≠ a) (.slice O n.length P) n) ∧ Aside0 (wc.heap[b]? = some (.cells #[.int .i64 I, .int .i64 J, (.slice O n.length P), .int .i64 K, .bool E, .bool L] 24 (0, 0))) ∧ Aside0 (wc.heap[a]? = some (.cells #[.int .i64 0, .int .i64 0, (.slice none 0 0), .int .i64 0, .bool false, .bool false] 24 (0, 0))) ∧ Aside0 (Below w.heap.size w wc))
 case first =>
  have H := ak.out
  clear ak
  by_cases c6 : a1 = 15
  ·rw [if_pos c6] at H
   obtain ⟨T, al⟩ := eT_ c6
   clear c6
   (first | rw [T] | (simp only [i64_w, i32_w]; rw [T]) | skip)
   have H' := Z H
   clear H
   have cz := i.out
   have cA := q.out
   obtain ⟨am, an, ao, ap, aq, ar, au, av, aw, ax, ay, az⟩ := cells6 c.out
   go_wp2
   go_meet
   case rel => exact ⟨_, (E), (dn_), H', ⟨by first | omega | exact Nat.le_refl _⟩, ⟨by (with_reducible repeat apply pV); exact Kd.V_mono Q.out (fun _ hk => ⟨hk.1.1, ⟨hk.1.2, hk.2⟩⟩)⟩, ⟨vK c.out⟩, ⟨vK l.out⟩, ⟨bl_⟩⟩
  ·rw [if_neg c6] at H
   obtain ⟨T, al⟩ := eF_ c6
   (first | rw [T] | (simp only [i64_w, i32_w]; rw [T]) | skip)
   have H' := Z H
   clear H
   go_wp2
   go_meet
   case rel => exact ⟨_, (false), (dn_), H', ⟨by first | omega | exact Nat.le_refl _⟩, ⟨by (with_reducible repeat apply pV); exact Kd.V_mono Q.out (fun _ hk => ⟨hk.1.1, ⟨hk.1.2, hk.2⟩⟩)⟩, ⟨vK c.out⟩, ⟨vK l.out⟩, ⟨bl_⟩⟩
 case rest =>
  clear ak
  obtain ⟨kq, U, rfl, HA, cE, HO_1321002, c, l, HB⟩ := hcut
  cases kq with
  | zero => exact absurd HA.out (by simp [keys_set.j0])
  | succ cF =>
   have H := HA.out
   clear HA
   simp only [keys_set.j0] at H
   by_cases c9 : U = true
   ·subst c9
    have H1 : (some (I, J, n, K, E, L, some (Er.num 7), ([] : List (S164)))) = some (r1, r2, r3, r4, r5, r6, (none : Option Er), r8) := by rw [if_pos rfl] at H; exact H
    clear H
    have H := H1
    clear H1
    exact absurd H (by simp)
   ·replace c9 := Bool.eq_false_iff.mpr c9
    subst c9
    have H1 : ((grid_Copy.f I J n K E L).bind fun F => (if a1 = 16 then (some (F.1, F.2.1, F.2.2.1, F.2.2.2.1, false, (a1 == 15), none, ([] : List (S164)))) else (some (F.1, F.2.1, F.2.2.1, F.2.2.2.1, F.2.2.2.2.1, (a1 == 15), none, ([] : List (S164)))))) = some (r1, r2, r3, r4, r5, r6, (none : Option Er), r8) := by rw [if_neg (show ¬ (false = true) by decide)] at H; exact H
    clear H
    have H := H1
    clear H1
    replace H := Option.bind_eq_some_iff.mp H
    obtain ⟨⟨g, j, d, m, r, G⟩, aj, H⟩ := H
    replace H : (if a1 = 16 then (some (g, j, d, m, false, (a1 == 15), none, ([] : List (S164)))) else (some (g, j, d, m, r, (a1 == 15), none, ([] : List (S164))))) = some (r1, r2, r3, r4, r5, r6, (none : Option Er), r8) := H
    have aF := Z aj
    clear aj
    by_cases W : a1 = 16
    ·rw [if_pos W] at H
     obtain ⟨aB, aC⟩ := eT_ W
     clear W
     simp only [Option.some.injEq, Prod.mk.injEq] at H
     (first | obtain ⟨rfl, rfl, rfl, rfl, rfl, rfl, _, rfl⟩ := H | obtain ⟨rfl, rfl, rfl, rfl, rfl, rfl, rfl⟩ := H)
     have cv := i.out
     have cx := q.out
     obtain ⟨aM, aN, aO, aP, aQ, aR, bA, bB, bC, bD, bE, bF⟩ := cells6 c.out
     go_wp2_with (first | ((with_reducible refine gate_callee (f := 61) rfl ?_); refine goesL_ (some 15) rfl rfl Tryd.func61 (by kernel_rfl) rfl #[.agg #[.int .i64 I, .int .i64 J, .slice O n.length P, .int .i64 K, .bool E, .bool L]] rfl ag_ ?_; (with_reducible refine (grid_Copy.calls I J _ _ n K E L g j d m r G _ ?side1 ?side2 aF.out).mono ?_); (case side1 => repeat (first | exact (Kd.V_reads' HO_1321002.out).2.2 | (with_reducible apply pC))); (case side2 => exact (Kd.V_reads' HO_1321002.out).2.1); rintro e ct ⟨aE, rfl, X, hb⟩; refine ⟨_, rfl, ?_⟩; replace HO_1321002 := Z (Kd.V_elder' (vV HO_1321002.out) (Kd.R_base X) hb); have o := Z (Kd.R_lower (Kd.R_newM (M := fun k_ => (w.heap.size ≤ k_)) X (below_size bl_) (fun k_ h_ => h_)) (below_size bl_)); replace c := kb' c hb; replace l := kb' l hb; replace HB := bs_ hb; clear hb X; obtain ⟨aS, aT, aU, aV, aW, aX, bG, bH, bI, bJ, bK, bL⟩ := cells6 c.out; obtain ⟨s, u, aK⟩ := Kd.R_slice o.out; subst aK) | ((with_reducible refine gate_store (t := 24) (p := 2) rfl ?_); refine sx_ 24 2 ((((((ct.setCell ⟨b, 0, none⟩ (.int .i64 g)).setCell ⟨b, 1, none⟩ (.int .i64 j)).setCell ⟨b, 2, none⟩ (.slice s d.length u)).setCell ⟨b, 3, none⟩ (.int .i64 m)).setCell ⟨b, 4, none⟩ (.bool r)).setCell ⟨b, 5, none⟩ (.bool G)) ?_; intro Y hw; replace HO_1321002 : Aside0 (Kd.V k35 35 Y w.heap.size (fun k_ => (S k_ ∨ w.heap.size ≤ k_) ∧ some k_ ≠ (.slice s d.length u : Value).ownBlock ∧ k_ ≠ b ∧ k_ ≠ a) (.slice O n.length P) n) := ⟨(by rw [hw]; exact (by (with_reducible repeat apply pV); exact V_off HO_1321002.out (fun k_ hk => hk.1.2.1) off2_ (fun _ hk => ⟨hk.1.1, ⟨hk.2, ⟨hk.1.2.1, hk.1.2.2⟩⟩⟩)))⟩; replace o : Aside0 (Kd.R k35 35 Y w.heap.size (fun k_ => (w.heap.size ≤ k_)) (.slice s d.length u) d) := ⟨(by rw [hw]; exact (by (with_reducible repeat apply pR); exact Kd.R_mono (f6R b (Kd.R_types o.out c.out (by decide)) (fun _ hk => hk.2)) (fun _ hk => hk.1.1)))⟩; replace c : Aside0 (Y.heap[b]? = some (.cells #[.int .i64 g, .int .i64 j, .slice s d.length u, .int .i64 m, .bool r, .bool G] 24 (0, 0))) := ⟨by rw [hw]; exact (put6 c.out)⟩; replace l := Z (sM hw (blk_off l.out q.out off2_)); replace HB : Aside0 (Below w.heap.size w Y) := ⟨by rw [hw]; exact bl_⟩; clear hw; obtain ⟨aY, aZ, a0, a2, a3, a4, bM, bN, bO, bP, bQ, bR⟩ := cells6 c.out; obtain ⟨a5, a6, a7, a8, a9, ba, bS, bT, bU, bV, bW, bX⟩ := cells6 l.out) | ((with_reducible refine gate_store (t := 24) (p := 4) rfl ?_); refine sx_ 24 4 ((((((((Y.setCell ⟨b, 4, none⟩ (.bool false)).setCell ⟨b, 5, none⟩ (.bool (a1 == 15))).setCell ⟨a, 0, none⟩ (.int .i64 g)).setCell ⟨a, 1, none⟩ (.int .i64 j)).setCell ⟨a, 2, none⟩ (.slice s d.length u)).setCell ⟨a, 3, none⟩ (.int .i64 m)).setCell ⟨a, 4, none⟩ (.bool false)).setCell ⟨a, 5, none⟩ (.bool (a1 == 15))) ?_; intro ab hw; replace HO_1321002 : Aside0 (Kd.V k35 35 ab w.heap.size (fun k_ => (S k_ ∨ w.heap.size ≤ k_) ∧ some k_ ≠ (.slice s d.length u : Value).ownBlock ∧ k_ ≠ b ∧ k_ ≠ a) (.slice O n.length P) n) := ⟨(by rw [hw]; exact (by (with_reducible repeat apply pV); exact Kd.V_mono (f6V a (Kd.V_far (p := ⟨b, 5, none⟩) (Kd.V_far (p := ⟨b, 4, none⟩) (Kd.V_mono (Kd.V_mono HO_1321002.out (fun k_ hk => (⟨hk, hk.2.2.1⟩ : _ ∧ k_ ≠ b))) (fun k_ hk => (⟨hk, hk.1.2.2.2⟩ : _ ∧ k_ ≠ a))) (fun _ hk => hk.1.2) (.bool false)) (fun _ hk => hk.1.2) (.bool (a1 == 15))) (fun _ hk => hk.2)) (fun _ hk => ⟨hk.1.1.1, ⟨hk.1.1.2.1, ⟨hk.1.1.2.2.1, hk.1.1.2.2.2⟩⟩⟩)))⟩; replace o : Aside0 (Kd.R k35 35 ab w.heap.size (fun k_ => (w.heap.size ≤ k_)) (.slice s d.length u) d) := ⟨(by rw [hw]; exact (by (with_reducible repeat apply pR); exact Kd.R_mono (f6R a (Kd.R_far (p := ⟨b, 5, none⟩) (Kd.R_far (p := ⟨b, 4, none⟩) (Kd.R_types (Kd.R_types o.out c.out (by decide)) l.out (by decide)) (fun _ hk => hk.1.2) (.bool false)) (fun _ hk => hk.1.2) (.bool (a1 == 15))) (fun _ hk => hk.2)) (fun _ hk => hk.1.1)))⟩; replace c : Aside0 (ab.heap[b]? = some (.cells #[.int .i64 g, .int .i64 j, .slice s d.length u, .int .i64 m, .bool false, .bool (a1 == 15)] 24 (0, 0))) := ⟨(by rw [hw]; exact (by (with_reducible repeat apply pK); refine blk_far ?_ i.out _; (with_reducible repeat apply pK); refine blk_far ?_ i.out _; (with_reducible repeat apply pK); refine blk_far ?_ i.out _; (with_reducible repeat apply pK); refine blk_far ?_ i.out _; (with_reducible repeat apply pK); refine blk_far ?_ i.out _; (with_reducible repeat apply pK); refine blk_far ?_ i.out _; (with_reducible repeat apply pK); refine blk_put (cs := #[.int .i64 g, .int .i64 j, .slice s d.length u, .int .i64 m, .bool false, .bool G]) ?_ 5 _ rfl; (with_reducible repeat apply pK); refine blk_put (cs := #[.int .i64 g, .int .i64 j, .slice s d.length u, .int .i64 m, .bool r, .bool G]) ?_ 4 _ rfl; (with_reducible repeat apply pK); exact c.out))⟩; replace l : Aside0 (ab.heap[a]? = some (.cells #[.int .i64 g, .int .i64 j, .slice s d.length u, .int .i64 m, .bool false, .bool (a1 == 15)] 24 (0, 0))) := ⟨(by rw [hw]; exact (by (with_reducible repeat apply pK); refine blk_put (cs := #[.int .i64 g, .int .i64 j, .slice s d.length u, .int .i64 m, .bool false, .bool false]) ?_ 5 _ rfl; (with_reducible repeat apply pK); refine blk_put (cs := #[.int .i64 g, .int .i64 j, .slice s d.length u, .int .i64 m, .bool false, .bool false]) ?_ 4 _ rfl; (with_reducible repeat apply pK); refine blk_put (cs := #[.int .i64 g, .int .i64 j, .slice s d.length u, .int .i64 0, .bool false, .bool false]) ?_ 3 _ rfl; (with_reducible repeat apply pK); refine blk_put (cs := #[.int .i64 g, .int .i64 j, .slice none 0 0, .int .i64 0, .bool false, .bool false]) ?_ 2 _ rfl; (with_reducible repeat apply pK); refine blk_put (cs := #[.int .i64 g, .int .i64 0, .slice none 0 0, .int .i64 0, .bool false, .bool false]) ?_ 1 _ rfl; (with_reducible repeat apply pK); refine blk_put (cs := #[.int .i64 0, .int .i64 0, .slice none 0 0, .int .i64 0, .bool false, .bool false]) ?_ 0 _ rfl; (with_reducible repeat apply pK); refine blk_far ?_ q.out _; (with_reducible repeat apply pK); refine blk_far ?_ q.out _; (with_reducible repeat apply pK); exact l.out))⟩; replace HB : Aside0 (Below w.heap.size w ab) := ⟨by rw [hw]; exact bl_⟩; clear hw))
     refine bodyPost_ret (results_ct rfl _ _ a 24 #[.int .i64 g, .int .i64 j, .slice s d.length u, .int .i64 m, .bool false, .bool (a1 == 15)] (0, 0) _ rfl (vK l.out) Tryd.underlying24 rfl (by kernel_rfl)) rfl ?_
     exact ⟨_, _, er_, by (with_reducible repeat apply pR); exact o.out, Kd.R_V (Kd.R_nil _ _ _ 0 _), bl_⟩
    ·rw [if_neg W] at H
     obtain ⟨aB, aC⟩ := eF_ W
     simp only [Option.some.injEq, Prod.mk.injEq] at H
     (first | obtain ⟨rfl, rfl, rfl, rfl, rfl, rfl, _, rfl⟩ := H | obtain ⟨rfl, rfl, rfl, rfl, rfl, rfl, rfl⟩ := H)
     have cw := i.out
     have cy := q.out
     obtain ⟨bb, bc, bd, be, bf, bg, bY, bZ, b0, b1, b2, b3⟩ := cells6 c.out
     go_wp2_with (first | ((with_reducible refine gate_callee (f := 61) rfl ?_); refine goesL_ (some 15) rfl rfl Tryd.func61 (by kernel_rfl) rfl #[.agg #[.int .i64 I, .int .i64 J, .slice O n.length P, .int .i64 K, .bool E, .bool L]] rfl ag_ ?_; (with_reducible refine (grid_Copy.calls I J _ _ n K E L g j d m r G _ ?side1 ?side2 aF.out).mono ?_); (case side1 => repeat (first | exact (Kd.V_reads' HO_1321002.out).2.2 | (with_reducible apply pC))); (case side2 => exact (Kd.V_reads' HO_1321002.out).2.1); rintro e cu ⟨aE, rfl, X, hb⟩; refine ⟨_, rfl, ?_⟩; replace HO_1321002 := Z (Kd.V_elder' (vV HO_1321002.out) (Kd.R_base X) hb); have o := Z (Kd.R_lower (Kd.R_newM (M := fun k_ => (w.heap.size ≤ k_)) X (below_size bl_) (fun k_ h_ => h_)) (below_size bl_)); replace c := kb' c hb; replace l := kb' l hb; replace HB := bs_ hb; clear hb X; obtain ⟨bh, bi, bj, bk, bl, bm, b4, b5, b6, b7, b8, b9⟩ := cells6 c.out; obtain ⟨x, y, aL⟩ := Kd.R_slice o.out; subst aL) | ((with_reducible refine gate_store (t := 24) (p := 2) rfl ?_); refine sx_ 24 2 ((((((cu.setCell ⟨b, 0, none⟩ (.int .i64 g)).setCell ⟨b, 1, none⟩ (.int .i64 j)).setCell ⟨b, 2, none⟩ (.slice x d.length y)).setCell ⟨b, 3, none⟩ (.int .i64 m)).setCell ⟨b, 4, none⟩ (.bool r)).setCell ⟨b, 5, none⟩ (.bool G)) ?_; intro aa hw; replace HO_1321002 : Aside0 (Kd.V k35 35 aa w.heap.size (fun k_ => (S k_ ∨ w.heap.size ≤ k_) ∧ some k_ ≠ (.slice x d.length y : Value).ownBlock ∧ k_ ≠ b ∧ k_ ≠ a) (.slice O n.length P) n) := ⟨(by rw [hw]; exact (by (with_reducible repeat apply pV); exact V_off HO_1321002.out (fun k_ hk => hk.1.2.1) off2_ (fun _ hk => ⟨hk.1.1, ⟨hk.2, ⟨hk.1.2.1, hk.1.2.2⟩⟩⟩)))⟩; replace o : Aside0 (Kd.R k35 35 aa w.heap.size (fun k_ => (w.heap.size ≤ k_)) (.slice x d.length y) d) := ⟨(by rw [hw]; exact (by (with_reducible repeat apply pR); exact Kd.R_mono (f6R b (Kd.R_types o.out c.out (by decide)) (fun _ hk => hk.2)) (fun _ hk => hk.1.1)))⟩; replace c : Aside0 (aa.heap[b]? = some (.cells #[.int .i64 g, .int .i64 j, .slice x d.length y, .int .i64 m, .bool r, .bool G] 24 (0, 0))) := ⟨by rw [hw]; exact (put6 c.out)⟩; replace l := Z (sM hw (blk_off l.out q.out off2_)); replace HB : Aside0 (Below w.heap.size w aa) := ⟨by rw [hw]; exact bl_⟩; clear hw; obtain ⟨bn, bo, bp, bq, br, bs, ca, cb, cc, cd, ce, cf⟩ := cells6 c.out; obtain ⟨bt, bu, bv, bw, bx, bz, cg, ch, ci, cj, ck, cl⟩ := cells6 l.out) | ((with_reducible refine gate_store (t := 24) (p := 4) rfl ?_); refine sx_ 24 4 (((((((aa.setCell ⟨b, 5, none⟩ (.bool (a1 == 15))).setCell ⟨a, 0, none⟩ (.int .i64 g)).setCell ⟨a, 1, none⟩ (.int .i64 j)).setCell ⟨a, 2, none⟩ (.slice x d.length y)).setCell ⟨a, 3, none⟩ (.int .i64 m)).setCell ⟨a, 4, none⟩ (.bool r)).setCell ⟨a, 5, none⟩ (.bool (a1 == 15))) ?_; intro ac hw; replace HO_1321002 : Aside0 (Kd.V k35 35 ac w.heap.size (fun k_ => (S k_ ∨ w.heap.size ≤ k_) ∧ some k_ ≠ (.slice x d.length y : Value).ownBlock ∧ k_ ≠ b ∧ k_ ≠ a) (.slice O n.length P) n) := ⟨(by rw [hw]; exact (by (with_reducible repeat apply pV); exact Kd.V_mono (f6V a (Kd.V_far (p := ⟨b, 5, none⟩) (Kd.V_mono (Kd.V_mono HO_1321002.out (fun k_ hk => (⟨hk, hk.2.2.1⟩ : _ ∧ k_ ≠ b))) (fun k_ hk => (⟨hk, hk.1.2.2.2⟩ : _ ∧ k_ ≠ a))) (fun _ hk => hk.1.2) (.bool (a1 == 15))) (fun _ hk => hk.2)) (fun _ hk => ⟨hk.1.1.1, ⟨hk.1.1.2.1, ⟨hk.1.1.2.2.1, hk.1.1.2.2.2⟩⟩⟩)))⟩; replace o : Aside0 (Kd.R k35 35 ac w.heap.size (fun k_ => (w.heap.size ≤ k_)) (.slice x d.length y) d) := ⟨(by rw [hw]; exact (by (with_reducible repeat apply pR); exact Kd.R_mono (f6R a (Kd.R_far (p := ⟨b, 5, none⟩) (Kd.R_types (Kd.R_types o.out c.out (by decide)) l.out (by decide)) (fun _ hk => hk.1.2) (.bool (a1 == 15))) (fun _ hk => hk.2)) (fun _ hk => hk.1.1)))⟩; replace c : Aside0 (ac.heap[b]? = some (.cells #[.int .i64 g, .int .i64 j, .slice x d.length y, .int .i64 m, .bool r, .bool (a1 == 15)] 24 (0, 0))) := ⟨(by rw [hw]; exact (by (with_reducible repeat apply pK); refine blk_far ?_ i.out _; (with_reducible repeat apply pK); refine blk_far ?_ i.out _; (with_reducible repeat apply pK); refine blk_far ?_ i.out _; (with_reducible repeat apply pK); refine blk_far ?_ i.out _; (with_reducible repeat apply pK); refine blk_far ?_ i.out _; (with_reducible repeat apply pK); refine blk_far ?_ i.out _; (with_reducible repeat apply pK); refine blk_put (cs := #[.int .i64 g, .int .i64 j, .slice x d.length y, .int .i64 m, .bool r, .bool G]) ?_ 5 _ rfl; (with_reducible repeat apply pK); exact c.out))⟩; replace l : Aside0 (ac.heap[a]? = some (.cells #[.int .i64 g, .int .i64 j, .slice x d.length y, .int .i64 m, .bool r, .bool (a1 == 15)] 24 (0, 0))) := ⟨(by rw [hw]; exact (by (with_reducible repeat apply pK); refine blk_put (cs := #[.int .i64 g, .int .i64 j, .slice x d.length y, .int .i64 m, .bool r, .bool false]) ?_ 5 _ rfl; (with_reducible repeat apply pK); refine blk_put (cs := #[.int .i64 g, .int .i64 j, .slice x d.length y, .int .i64 m, .bool false, .bool false]) ?_ 4 _ rfl; (with_reducible repeat apply pK); refine blk_put (cs := #[.int .i64 g, .int .i64 j, .slice x d.length y, .int .i64 0, .bool false, .bool false]) ?_ 3 _ rfl; (with_reducible repeat apply pK); refine blk_put (cs := #[.int .i64 g, .int .i64 j, .slice none 0 0, .int .i64 0, .bool false, .bool false]) ?_ 2 _ rfl; (with_reducible repeat apply pK); refine blk_put (cs := #[.int .i64 g, .int .i64 0, .slice none 0 0, .int .i64 0, .bool false, .bool false]) ?_ 1 _ rfl; (with_reducible repeat apply pK); refine blk_put (cs := #[.int .i64 0, .int .i64 0, .slice none 0 0, .int .i64 0, .bool false, .bool false]) ?_ 0 _ rfl; (with_reducible repeat apply pK); refine blk_far ?_ q.out _; (with_reducible repeat apply pK); exact l.out))⟩; replace HB : Aside0 (Below w.heap.size w ac) := ⟨by rw [hw]; exact bl_⟩; clear hw))
     refine bodyPost_ret (results_ct rfl _ _ a 24 #[.int .i64 g, .int .i64 j, .slice x d.length y, .int .i64 m, .bool r, .bool (a1 == 15)] (0, 0) _ rfl (vK l.out) Tryd.underlying24 rfl (by kernel_rfl)) rfl ?_
     exact ⟨_, _, er_, by (with_reducible repeat apply pR); exact o.out, Kd.R_V (Kd.R_nil _ _ _ 0 _), bl_⟩
end Go.Proofs.YtggecanpjkpkiaaDoor.P
