/- pp.py and press2.py (wip/tools) wrote this text. -/
import Derived.Test.YtgboplhcjhlabaaDoorPx0
import Derived.Test.YtgboplhcjhlabaaDoorPxS
import Derived.Test.YtgboplhcjhlabaaDoorPx4
namespace Go.Proofs.YtgboplhcjhlabaaDoor.P
open Go.RowKit Go.Proofs.YtgboplhcjhlabaaDoorW.PrintWords Go.Proofs.YtgboplhcjhlabaaDoorW.PrintLast Go.Proofs.YtgboplhcjhlabaaDoorW.PrintMore
attribute [local go_sem] max2_int min2_int max_two min_two max_three min_three max_four min_four
attribute [local go_sem] Instr.field asAgg
set_option linter.unusedVariables false
set_option linter.unusedSimpArgs false

/-! ### grid_Size: function 37 -/
def grid_Size.f (b : Int) (c : Int) (a : List (S44)) (d : Int) (e : Bool) (g : Bool) : Option (Int) := some (a.length : Int)
set_option maxHeartbeats 8000000 in
set_option maxRecDepth 100000 in
theorem grid_Size.calls (c : Int) (d : Int) (b : Option Addr) (k : Nat) (a : List (S44)) (g : Int) (i : Bool) (j : Bool) (r : Int) (w : World) (n : Kd.C k44 w b a.length a) (m : a.length ≤ k) (h : grid_Size.f c d a g i j = some r) :
  Calls Tryd.prog 37 #[.agg #[.int .i64 c, .int .i64 d, .slice b a.length k, .int .i64 g, .bool i, .bool j]] w fun e w' => e = .returned (.int .i64 r) ∧ Below w.heap.size w w' := by
 have P := Tryd.underlying24
 have O := Z n
 have M := Z m
 clear n m
 have HB := Z (Below.refl w.heap.size w)
 have H : (some (a.length : Int)) = some r := h
 clear h
 obtain rfl := Option.some.inj H
 go_enter Tryd.func37, Tryd.ntmps37
 go_wp2_with (first | ((with_reducible refine gate_dst (N := 1) rfl ?_); refine bx_ 1 24 #[.int .i64 c, .int .i64 d, .slice b a.length k, .int .i64 g, .bool i, .bool j] ?_; intro l hg w2 hbox hb; have o := Z (hbox); have L := Z (ln_ hg : w.heap.size ≤ l); have K := Z (ln_ hg : w.heap.size ≤ l); replace HB := Z (below_step bl_ hb); clear hb hbox hg; obtain ⟨v, x, y, z, A, B, D, E, F, G, I, J⟩ := cells6 o.out))
 go_ret
 exact ⟨er_, bl_⟩

/-! ### slices_Clone_shutter_api_Cell_shutter_api_Cell: function 64 -/
section
/-- slices.Clone of cells: a nil row stays one, any other is made anew. -/
def slices_Clone_shutter_api_Cell_shutter_api_Cell.f (l : List S44) : Option (List S44) := if l.length ≤ 16383 then some l else none
set_option maxRecDepth 100000 in
set_option maxHeartbeats 4000000 in
theorem slices_Clone_shutter_api_Cell_shutter_api_Cell.calls (g : Option Addr) (c0 : Nat) (l0 : List (S44)) (r : List (S44)) (w : World) (hr0 : Kd.C k44 w g l0.length l0) (o : l0.length ≤ c0) (h : slices_Clone_shutter_api_Cell_shutter_api_Cell.f l0 = some r) :
  Calls Tryd.prog 64 #[.slice g l0.length c0] w fun e w' => ∃ d : Value, e = .returned (d) ∧ Kd.R k44 44 w' w.heap.size (fun _ => True) d r ∧ Below w.heap.size w w' := by
 unfold slices_Clone_shutter_api_Cell_shutter_api_Cell.f at h
 by_cases hn : l0.length ≤ 16383
 ·rw [if_pos hn] at h
  obtain rfl := Option.some.inj h
  have HR := Z hr0
  clear h hr0
  rcases g with _ | ad
  ·have hl : l0 = [] := by
    rcases Nat.eq_zero_or_pos l0.length with i | i
    ·exact List.eq_nil_of_length_eq_zero i
    ·obtain ⟨ad, h, _⟩ := HR.out.2.2 i
     cases h
   subst hl
   have hE := fun (w : World) => Lib.run_eql_slice_nil (P := Tryd.prog) w 22 44 none 0 c0 0 0 Tryd.underlying22
   rw [List.length_nil]
   go_enter Tryd.func64, Tryd.ntmps64
   go_wp2
   go_ret
   exact ⟨_, rfl, Kd.R_nil _ _ _ _ _, Below.refl _ _⟩
  ·have HB := Z (Below.refl w.heap.size w)
   have hE := fun (w : World) => Lib.run_eql_slice_nil (P := Tryd.prog) w 22 44 (some ad) l0.length c0 0 0 Tryd.underlying22
   go_enter Tryd.func64, Tryd.ntmps64
   go_wp2_with (first
    | ((with_reducible refine gate_dst (N := 5) rfl ?_); refine Kd.R_lit k44 w.heap.size 44 ?hg (N := 5) ?hd (xs := ([] : List (S44))) (inner := []) (ok := fun _ => True) (okp := fun _ => True) ?hr ?hp (fun _ hk => hk) trivial (Below.refl _ _) (Nat.le_refl _) (by simp) ?_; (case hd => rfl); (case hg => rfl); (case hr => first | (go_simp; done) | (go_simp; rfl)); (case hp => exact (Reps.none _ _)); intro n w1 ho hb hg_ hnew_; clear hg_ hnew_; have HO := Z ho; have hB := Z hb; clear ho hb HB; have HB := hB; clear hB)
    | ((with_reducible refine gate_builtin (b := .append) (xs := #[.tmp 5, .tmp 6]) rfl ?_); at_builtin; refine Kd.R_append_rows k44 (w0 := w) w.heap.size rfl (.tmp 5) (.tmp 6) 22 44 (.agg #[(.bool false), (.bool false), (.bool false), (.int .i64 0), (.bool false), (.int .u8 0)]) 40 rfl Tryd.underlying22 info44 rfl (by decide) (by omega) n ([] : List S44) l0 _ _ _ (fun _ => True) (fun _ => False) rfl rfl ?aO ?aR (fun _ _ h => h) (fun _ h => h.elim) ?aF ?aB ?aS ?aL ?_; (case aR => repeat (first | exact (Kd.C_below HR.out HB.out) | (with_reducible apply pC))); (case aB => exact bl_); (case aF => exact (fun _ _ => trivial)); (case aO => exact (by (with_reducible repeat apply pR); exact HO.out)); (case aS => exact (below_size bl_)); (case aL => simp only [List.length_nil]; omega); intro p w2 c a m j; clear m j; have l := Z c; have k := Z a; clear c a))
   go_ret
   exact ⟨_, rfl, by have := l.out; rwa [List.nil_append] at this, k.out⟩
 ·rw [if_neg hn] at h
  cases h
end

/-! ### grid_Copy: function 38 -/
def grid_Copy.f (a : Int) (b : Int) (g : List (S44)) (c : Int) (d : Bool) (e : Bool) : Option (Int × Int × (List (S44)) × Int × Bool × Bool) := (slices_Clone_shutter_api_Cell_shutter_api_Cell.f g).bind fun h => (some (a, b, h, c, d, e))
set_option maxHeartbeats 8000000 in
set_option maxRecDepth 100000 in
theorem grid_Copy.calls (b : Int) (d : Int) (x : Option Addr) (y : Nat) (j : List (S44)) (i : Int) (k : Bool) (m : Bool) (I : Int) (J : Int) (K : List (S44)) (L : Int) (M : Bool) (O : Bool) (w : World) (E : Kd.C k44 w x j.length j) (D : j.length ≤ y) (h : grid_Copy.f b d j i k m = some (I, J, K, L, M, O)) :
  Calls Tryd.prog 38 #[.agg #[.int .i64 b, .int .i64 d, .slice x j.length y, .int .i64 i, .bool k, .bool m]] w fun e w' => ∃ V : Value, e = .returned (.agg #[.int .i64 I, .int .i64 J, V, .int .i64 L, .bool M, .bool O]) ∧ Kd.R k44 44 w' w.heap.size (fun _ => True) V K ∧ Below w.heap.size w w' := by
 have aR := Tryd.underlying24
 have G := Z E
 have F := Z D
 clear E D
 have HB := Z (Below.refl w.heap.size w)
 have H : ((slices_Clone_shutter_api_Cell_shutter_api_Cell.f j).bind fun g => (some (b, d, g, i, k, m))) = some (I, J, K, L, M, O) := h
 clear h
 replace H := Option.bind_eq_some_iff.mp H
 obtain ⟨g, P, H⟩ := H
 replace H : (some (b, d, g, i, k, m)) = some (I, J, K, L, M, O) := H
 have A2 := Z P
 clear P
 simp only [Option.some.injEq, Prod.mk.injEq] at H
 obtain ⟨rfl, rfl, rfl, rfl, rfl, rfl⟩ := H
 go_enter Tryd.func38, Tryd.ntmps38
 go_wp2_with (first | ((with_reducible refine gate_dst (N := 1) rfl ?_); refine bx_ 1 24 #[.int .i64 b, .int .i64 d, .slice x j.length y, .int .i64 i, .bool k, .bool m] ?_; intro z hg w3 hbox hb; have a := Z (hbox); have aM := Z (ln_ hg : w.heap.size ≤ z); have aK := Z (ln_ hg : w.heap.size ≤ z); replace HB := Z (below_step bl_ hb); clear hb hbox hg) | ((with_reducible refine gate_dst (N := 2) rfl ?_); refine bx_ 2 24 #[.int .i64 0, .int .i64 0, .slice none 0 0, .int .i64 0, .bool false, .bool false] ?_; intro c hg w4 hbox hb; have l := Z (hbox); have aN := Z (ln_ hg : w.heap.size ≤ c); have aL := Z (ln_ hg : w.heap.size ≤ c); replace HB := Z (below_step bl_ hb); have A := Z (nl a.out hg); have n := Z (ng a.out hg); replace a := Z (kb a.out hb); clear hb hbox hg; have aP := A.out; have aQ := n.out; obtain ⟨ak, al, am, an, ao, ap, ay, az, aA, aB, aC, aD⟩ := cells6 a.out) | ((with_reducible refine gate_callee (f := 64) rfl ?_); refine goesL_ (some 5) rfl rfl Tryd.func64 (by kernel_rfl) rfl #[.slice x j.length y] rfl ag_ ?_; (with_reducible refine (slices_Clone_shutter_api_Cell_shutter_api_Cell.calls _ _ j g _ ?side1 ?side2 A2.out).mono ?_); (case side1 => repeat (first | exact (Kd.C_below G.out HB.out) | (with_reducible apply pC))); (case side2 => exact F.out); rintro e w7 ⟨aS, rfl, Q, hb⟩; refine ⟨_, rfl, ?_⟩; have B := Z (Kd.R_lower Q (below_size bl_)); replace a := Z (kb a.out hb); replace l := Z (kb l.out hb); replace HB := Z (below_step bl_ hb); (try clear hb); (try clear aT); (try clear hk); (try clear hi); (try clear Q); obtain ⟨u, v, aj⟩ := Kd.R_slice B.out; subst aj; obtain ⟨aq, ar, au, av, aw, ax, aE, aF, aG, aH, aI, aJ⟩ := cells6 a.out; obtain ⟨W, X, Y, aa, ab, ac, ad, ae, af, ag, ah, ai⟩ := cells6 l.out))
 refine bodyPost_ret (results_cell_row rfl _ _ c 24 #[.int .i64 b, .int .i64 d, .slice u g.length v, .int .i64 i, .bool k, .bool m] (0, 0) _ rfl (by (with_reducible repeat apply pK); refine blk_put (cs := #[.int .i64 b, .int .i64 d, .slice u g.length v, .int .i64 i, .bool k, .bool false]) ?_ 5 _ rfl; (with_reducible repeat apply pK); refine blk_put (cs := #[.int .i64 b, .int .i64 d, .slice u g.length v, .int .i64 i, .bool false, .bool false]) ?_ 4 _ rfl; (with_reducible repeat apply pK); refine blk_put (cs := #[.int .i64 b, .int .i64 d, .slice u g.length v, .int .i64 0, .bool false, .bool false]) ?_ 3 _ rfl; (with_reducible repeat apply pK); refine blk_put (cs := #[.int .i64 b, .int .i64 d, .slice none 0 0, .int .i64 0, .bool false, .bool false]) ?_ 2 _ rfl; (with_reducible repeat apply pK); refine blk_put (cs := #[.int .i64 b, .int .i64 0, .slice none 0 0, .int .i64 0, .bool false, .bool false]) ?_ 1 _ rfl; (with_reducible repeat apply pK); refine blk_put (cs := #[.int .i64 0, .int .i64 0, .slice none 0 0, .int .i64 0, .bool false, .bool false]) ?_ 0 _ rfl; (with_reducible repeat apply pK); refine blk_far ?_ n.out _; (with_reducible repeat apply pK); exact l.out) Tryd.underlying24 rfl (by kernel_rfl)) rfl ?_
 exact ⟨_, er_, by (with_reducible repeat apply pR); exact Kd.R_mono (f6R c (Kd.R_far (p := ⟨z, 2, none⟩) (Kd.R_types (Kd.R_types B.out a.out (by decide)) l.out (by decide)) (fun _ hk => hk.1.2) (.slice u g.length v)) (fun _ hk => hk.2)) (fun _ hk => trivial), bl_⟩

/-! ### field_Begin: function 82 -/
section
open Go.Shelf
attribute [local go_sem] Oper.semAt_some

def isF (l : List S44) (i : Int) : Bool := (rd_T44 l i).f0
def findW (p : Int → Bool) (g : Nat → Int) : Nat → Nat → Int
 | 0, _ => -1
 | c + 1, s => if p (g s) = true then g s else findW p g c (s + 1)
theorem findW_eq (p : Int → Bool) (g : Nat → Int) : ∀ c s j, s ≤ j → j < s + c → p (g j) = true → (∀ i, s ≤ i → i < j → p (g i) = false) → findW p g c s = g j
 | 0, s, j, d, f, _, _ => by omega
 | c + 1, s, j, d, f, hp, hn => by
  unfold findW
  by_cases e : s = j
  ·subst e; rw [if_pos hp]
  ·rw [if_neg (by rw [hn s (Nat.le_refl _) (by omega)]; decide)]
   exact findW_eq p g c (s + 1) j (by omega) (by omega) hp (fun i a b => hn i (by omega) b)
theorem findW_none (p : Int → Bool) (g : Nat → Int) : ∀ c s, (∀ i, s ≤ i → i < s + c → p (g i) = false) → findW p g c s = -1
 | 0, s, _ => rfl
 | c + 1, s, hn => by
  unfold findW
  rw [if_neg (by rw [hn s (Nat.le_refl _) (by omega)]; decide)]
  exact findW_none p g c (s + 1) (fun i a b => hn i (by omega) (by omega))
theorem findW_cases (p : Int → Bool) (g : Nat → Int) : ∀ c s, (findW p g c s = -1 ∧ ∀ i, s ≤ i → i < s + c → p (g i) = false) ∨ ∃ j, s ≤ j ∧ j < s + c ∧ p (g j) = true ∧ (∀ i, s ≤ i → i < j → p (g i) = false) ∧ findW p g c s = g j
 | 0, s => .inl ⟨rfl, fun i a b => by omega⟩
 | c + 1, s => by
  unfold findW
  by_cases e : p (g s) = true
  ·exact .inr ⟨s, Nat.le_refl _, by omega, e, fun i a b => by omega, by rw [if_pos e]⟩
  ·rw [if_neg e]
   rcases findW_cases p g c (s + 1) with ⟨d, f⟩ | ⟨j, d, f, h, k, l⟩
   ·exact .inl ⟨d, fun i a b => by
     by_cases ei : i = s
     ·subst ei; simpa using e
     ·exact f i (by omega) (by omega)⟩
   ·exact .inr ⟨j, by omega, by omega, h, fun i a b => by
     by_cases ei : i = s
     ·subst ei; simpa using e
     ·exact k i (by omega) b, l⟩

/-- where the field begins that a cell lies in -/
def beginI (l : List S44) (a : Int) : Int := findW (isF l) (fun j => (a - j) % (l.length : Int)) l.length 0

theorem begin_range (l : List S44) (a : Int) (hp : 0 < l.length) : beginI l a = -1 ∨ (0 ≤ beginI l a ∧ beginI l a < l.length ∧ isF l (beginI l a) = true) := by
 rcases findW_cases (isF l) (fun j => (a - j) % (l.length : Int)) l.length 0 with ⟨h, _⟩ | ⟨j, _, _, b, _, h⟩
 ·exact .inl h
 ·right
  unfold beginI
  rw [h]
  exact ⟨Int.emod_nonneg _ (by omega), Int.emod_lt_of_pos _ (by omega), b⟩

theorem begin_here (l : List S44) (a : Int) (c : 0 ≤ a) (d : a < l.length) (h : isF l a = true) : beginI l a = a := by
 have e : (a - ((0 : Nat) : Int)) % (l.length : Int) = a := by simp; exact Int.emod_eq_of_lt c d
 have := findW_eq (isF l) (fun j => (a - j) % (l.length : Int)) l.length 0 0 (by omega) (by omega) (by show isF l ((a - ((0 : Nat) : Int)) % (l.length : Int)) = true; rw [e]; exact h) (fun i a b => by omega)
 rw [beginI, this]; exact e
theorem way_back (n : Nat) (a : Int) (j : Nat) : wayI n a (-1) j = (a - ((j + 1 : Nat) : Int)) % (n : Int) := by
 unfold wayI sgnI; simp; congr 1; omega
theorem begin_way (l : List S44) (a : Int) (c : 0 ≤ a) (d : a < l.length) (h : isF l a = false) (k : Nat) (hk : k < l.length) (hp : isF l (wayI l.length a (-1) k) = true) (hn : ∀ i, i < k → isF l (wayI l.length a (-1) i) = false) : beginI l a = wayI l.length a (-1) k := by
 have hkn : k + 1 < l.length := by
  rcases Nat.lt_or_ge (k + 1) l.length with h' | h'
  ·exact h'
  ·have ek : k + 1 = l.length := by omega
   have : wayI l.length a (-1) k = a := by
    rw [way_back, ek, Int.sub_emod_right]; exact Int.emod_eq_of_lt c d
   rw [this, h] at hp; exact absurd hp (by decide)
 have := findW_eq (isF l) (fun j => (a - j) % (l.length : Int)) l.length 0 (k + 1) (by omega) (by omega) (by show isF l ((a - ((k + 1 : Nat) : Int)) % (l.length : Int)) = true; rw [← way_back]; exact hp) (fun i _ b => by
  show isF l ((a - (i : Int)) % (l.length : Int)) = false
  rcases i with _ | i
  ·simp; rw [Int.emod_eq_of_lt c d]; exact h
  ·rw [← way_back]; exact hn i (by omega))
 rw [beginI, this]; exact (way_back _ _ _).symm
theorem begin_none (l : List S44) (a : Int) (c : 0 ≤ a) (d : a < l.length) (h : isF l a = false) (hn : ∀ i, i < l.length → isF l (wayI l.length a (-1) i) = false) : beginI l a = -1 := by
 refine findW_none _ _ _ _ (fun i _ b => ?_)
 show isF l ((a - (i : Int)) % (l.length : Int)) = false
 rcases i with _ | i
 ·simp; rw [Int.emod_eq_of_lt c d]; exact h
 ·rw [← way_back]; exact hn i (by omega)

theorem cell_f0 {w : World} {A : Option Addr} {l : List S44} (hr : Kd.C k44 w A l.length l) (i : Int) (a : 0 ≤ i) (b : i < l.length) : ∃ ad, A = some ad ∧ w.cell? (ad.add (i.toNat * 6)) = some (.bool (isF l i)) ∧ (ad.add (i.toNat * 6)).block < w.heap.size := by
 obtain ⟨ad, e, h, _⟩ := at_T44 hr i a b
 exact ⟨ad, e, h, bk_ w _ h⟩

set_option maxRecDepth 100000 in
set_option maxHeartbeats 2000000 in
theorem Begin_here (r c : Int) (A : Option Addr) (cp : Nat) (l : List S44) (cu : Int) (lo ins : Bool) (a : Int) (w : World) (hr : Kd.C k44 w A l.length l) (hc : l.length ≤ cp) (b : 0 ≤ a) (d : a < l.length) (hf : isF l a = true) :
  Calls Tryd.prog 82 #[.agg #[.int .i64 r, .int .i64 c, .slice A l.length cp, .int .i64 cu, .bool lo, .bool ins], .int .i64 a] w fun e w' => e = .returned (.int .i64 (beginI l a)) ∧ Below w.heap.size w w' := by
 have hb := begin_here l a b d hf
 rw [hb]
 obtain ⟨ad, rfl, hcell, hlt⟩ := cell_f0 hr a b d
 rw [hf] at hcell
 clear hf hb
 have f := Tryd.underlying24
 have g := Tryd.underlying44
 go_enter Tryd.func82, Tryd.ntmps82
 go_wp2
 refine bodyPost_ret (v := .int .i64 a) (by simp [results, Tryd.results82, go_sem]) rfl ⟨rfl, ?_⟩
 exact ((Below.refl _ w).alloc (Nat.le_refl _) _).alloc (by simp) _

theorem uptoI_last {α : Type} (f : Nat → α) (k : Nat) (ini : List α) (x : α) (h : uptoI f k = ini ++ [x]) : ∃ j, k = j + 1 ∧ ini = uptoI f j ∧ x = f j := by
 rcases k with _ | j
 ·simp [uptoI] at h
 ·rw [uptoI_succ] at h
  obtain ⟨a, b⟩ := List.append_inj' h rfl
  exact ⟨j, rfl, a.symm, by simpa using b.symm⟩
theorem mem_uptoI {α : Type} (f : Nat → α) (k j : Nat) (h : j < k) : f j ∈ uptoI f k := by
 simp only [uptoI, List.mem_map, List.mem_range]; exact ⟨j, h, rfl⟩

set_option maxRecDepth 100000 in
set_option maxHeartbeats 4000000 in
theorem Begin_loop (r c : Int) (A : Option Addr) (cp : Nat) (l : List S44) (cu : Int) (lo ins : Bool) (a : Int) (w : World) (hr : Kd.C k44 w A l.length l) (hc : l.length ≤ cp) (hn : l.length ≤ 16383) (d : 0 ≤ a) (f : a < l.length) (hf : isF l a = false) :
  CallsIn Fence.wide 5 Tryd.prog 82 #[.agg #[.int .i64 r, .int .i64 c, .slice A l.length cp, .int .i64 cu, .bool lo, .bool ins], .int .i64 a] w fun e w' => e = .returned (.int .i64 (beginI l a)) ∧ Below w.heap.size w w' := by
 have hpos : 0 < l.length := by omega
 obtain ⟨ad, rfl, hcell, hlt⟩ := cell_f0 hr a d f
 have Hfa := Z hf
 rw [hf] at hcell
 clear hf
 have q := Tryd.underlying24
 have t := Tryd.underlying44
 refine callsIn_of_wp_marks Tryd.func82 rfl trivial ?_ rfl
 simp only [Tryd.ntmps82, List.size_toArray, List.length_cons, List.length_nil, Nat.reduceAdd, Nat.reduceSub, Array.replicate_succ, Array.replicate_zero, List.push_toArray, List.append_toArray, List.nil_append, List.cons_append]
 gi_wp2_with (refine ⟨trivial, ?_⟩; gi_at_call 94; refine (callsIn_wide.2 (Round_exact r c _ _ cp cu lo ins a (-1) _)).mono ?_; rintro e w' ⟨rfl, rfl⟩)
 have o : Below w.heap.size w (((((w.alloc (.cells #[.int .i64 r, .int .i64 c, .slice (some ad) l.length cp, .int .i64 cu, .bool lo, .bool ins] 24)).alloc (.cells #[.int .i64 0] 3)).alloc (.cells #[.int .i64 r, .int .i64 c, .slice (some ad) l.length cp, .int .i64 cu, .bool lo, .bool ins] 24)).alloc (.cells #[.int .i64 a] 3)).alloc (.cells #[.int .i64 (-1)] 3)) :=
  (((((Below.refl _ w).alloc (Nat.le_refl _) _).alloc (by simp) _).alloc (by simp; omega) _).alloc (by simp; omega) _).alloc (by simp; omega) _
 have k1 := blk_new w (.cells #[.int .i64 r, .int .i64 c, .slice (some ad) l.length cp, .int .i64 cu, .bool lo, .bool ins] 24)
 have k2 := blk_new (w.alloc (.cells #[.int .i64 r, .int .i64 c, .slice (some ad) l.length cp, .int .i64 cu, .bool lo, .bool ins] 24)) (.cells #[.int .i64 0] 3)
 have k3 := blk_new ((w.alloc (.cells #[.int .i64 r, .int .i64 c, .slice (some ad) l.length cp, .int .i64 cu, .bool lo, .bool ins] 24)).alloc (.cells #[.int .i64 0] 3)) (.cells #[.int .i64 r, .int .i64 c, .slice (some ad) l.length cp, .int .i64 cu, .bool lo, .bool ins] 24)
 have k4 := blk_new (((w.alloc (.cells #[.int .i64 r, .int .i64 c, .slice (some ad) l.length cp, .int .i64 cu, .bool lo, .bool ins] 24)).alloc (.cells #[.int .i64 0] 3)).alloc (.cells #[.int .i64 r, .int .i64 c, .slice (some ad) l.length cp, .int .i64 cu, .bool lo, .bool ins] 24)) (.cells #[.int .i64 a] 3)
 have k5 := blk_new ((((w.alloc (.cells #[.int .i64 r, .int .i64 c, .slice (some ad) l.length cp, .int .i64 cu, .bool lo, .bool ins] 24)).alloc (.cells #[.int .i64 0] 3)).alloc (.cells #[.int .i64 r, .int .i64 c, .slice (some ad) l.length cp, .int .i64 cu, .bool lo, .bool ins] 24)).alloc (.cells #[.int .i64 a] 3)) (.cells #[.int .i64 (-1)] 3)
 simp only [World.size_alloc] at k2 k3 k4 k5
 refine wpIn_rangeFunc_ownG rfl (by omega) (gf := 100) (lb := #[.pointer (some ⟨w.heap.size + 1 + 1, 0, none⟩), .pointer (some ⟨w.heap.size + 1 + 1 + 1, 0, none⟩), .pointer (some ⟨w.heap.size + 1 + 1 + 1 + 1, 0, none⟩)]) rfl trivial (enters_of Tryd.func100 (by kernel_rfl) rfl)
  (round_stops 4 (by omega) (w.heap.size + 1 + 1) (w.heap.size + 1 + 1 + 1) (w.heap.size + 1 + 1 + 1 + 1) r c (some ad) l.length cp cu lo ins a (-1) hpos hn d f _ (blk_alloc (blk_alloc k3 _) _) (blk_alloc k4 _) k5) Keep3.trans (Keep3.put (by simp) (by simp) (by simp)) (Below.refl _ _) (fun _ => rfl)
  (fun pre W => ((∀ x ∈ pre, isF l x.1 = false) ∧ W.heap[w.heap.size]? = some (.cells #[.int .i64 r, .int .i64 c, .slice (some ad) l.length cp, .int .i64 cu, .bool lo, .bool ins] 24 (0, 0)) ∧ Boxed W (w.heap.size + 1) 3 (.int .i64 0)) ∧ Below w.heap.size w W)
  (fun c pre W => (c = .ret ∧ ∃ ini last, pre = ini ++ [last] ∧ (∀ x ∈ ini, isF l x.1 = false) ∧ isF l last.1 = true ∧ Boxed W (w.heap.size + 1) 3 (.int .i64 last.1)) ∧ Below w.heap.size w W)
  (OwnFrom.and (Own.from (fun s A B row hs hg hr => ⟨hs.1, (grownBy_keeps_cells hg hr hs.2.1 rfl).trans hs.2.1, (grownBy_keeps_cells hg hr hs.2.2 rfl).trans hs.2.2⟩) _) (ownFrom_below (Nat.le_refl _) (by simp; omega)))
  (fun c => OwnFrom.and (Own.from (fun s A B row hs hg hr => by obtain ⟨hc, ini, last, g, h, m, n⟩ := hs; exact ⟨hc, ini, last, g, h, m, (grownBy_keeps_cells hg hr n rfl).trans n⟩) _) (ownFrom_below (Nat.le_refl _) (by simp; omega)))
  ⟨⟨by simp, blk_alloc (blk_alloc (blk_alloc (blk_alloc k1 _) _) _) _, blk_alloc (blk_alloc (blk_alloc k2 _) _) _⟩, o⟩
  (fun x => { tmps := #[.agg #[.int .i64 r, .int .i64 c, .slice (some ad) l.length cp, .int .i64 cu, .bool lo, .bool ins], .int .i64 a, .pointer (some ⟨w.heap.size, 0, none⟩), undef, .pointer (some ⟨w.heap.size + 1, 0, none⟩), .int .i64 x.1, .pointer (some ⟨w.heap.size, 2, none⟩), .slice (some ad) l.length cp, .int .i64 a, .pointer (some (ad.add (a.toNat * 6))), .pointer (some (ad.add (a.toNat * 6))), .bool false, undef, .agg #[.int .i64 r, .int .i64 c, .slice (some ad) l.length cp, .int .i64 cu, .bool lo, .bool ins], .int .i64 a, .func (.func 100) #[] #[.pointer (some ⟨w.heap.size + 1 + 1, 0, none⟩), .pointer (some ⟨w.heap.size + 1 + 1 + 1, 0, none⟩), .pointer (some ⟨w.heap.size + 1 + 1 + 1 + 1, 0, none⟩)], .int .i64 x.1, undef, undef, undef, undef, undef, undef, undef], defers := [] }) ?assign ?body ?done ?stop
 case assign =>
  intro l x W K hK
  gi_wp2
  exact hK
 case body =>
  rintro lp pre x W ⟨⟨hp, hS, hR⟩, hB⟩ _
  obtain ⟨ad', e', hcx, hltx⟩ := cell_f0 hr x.1 x.2.1 x.2.2
  cases e'
  have hcW := (hB.cell hltx).trans hcx
  have u := (blk_cell hS 2).trans rfl
  have v := x.2.1
  have z := x.2.2
  have rC := hR.cell
  have rF := hR.frozen
  cases hfx : isF l x.1 with
  | true =>
   rw [hfx] at hcW
   gi_wp2
   exact ⟨(KeepsOthers.setCell _ _ _).from _, ⟨rfl, pre, x, rfl, hp, hfx, hR.set _⟩, hB.setCell (p := ⟨w.heap.size + 1, 0, none⟩) (Nat.le_succ _) _⟩
  | false =>
   rw [hfx] at hcW
   gi_wp2
   exact ⟨KeepsFrom.refl _ _, Keep3.refl _ _ _ _, ⟨fun y hy => (List.mem_append.1 hy).elim (hp y) (fun e => by simp at e; subst e; exact hfx), hS, hR⟩, hB⟩
 case done =>
  rintro D ys W hD rfl ⟨⟨hne, hS, hR⟩, hB⟩ hK
  have rC := hR.cell
  have rF := hR.frozen
  gi_wp2
  have hK' := (KeepsOthers.setCell W ⟨w.heap.size + 1, 0, none⟩ (.int .i64 (-1))).same D _ hK rfl
  refine ⟨by simp, .inl ⟨_, _, rfl, run_takeDeferred hK', ?_⟩⟩
  have b := cell_kept (hR.set (.int .i64 (-1))).cell (grownBy_putObj' _ D (.deferred none)) (fun r e => by cases e; exact ⟨_, hK', rfl⟩)
  have hE := begin_none l a d f Hfa.out (fun i hi => hne _ (mem_uptoI (wayS hpos a (-1)) l.length i hi))
  refine ⟨.int .i64 (-1), ?_, by rw [hE], (hB.setCell (p := ⟨w.heap.size + 1, 0, none⟩) (Nat.le_succ _) _).trans (belowK_b (w := w) (Nat.le_refl _) _ D _ _ (by simp at hD; omega) hK' rfl rfl)⟩
  simp [results, Tryd.results82, go_sem, b]
 case stop =>
  rintro D c pre W hD ⟨k, hk, rfl⟩ ⟨⟨rfl, ini, last, g, h, m, hR⟩, hB⟩ hK
  gi_wp2
  refine ⟨by simp, .inl ⟨_, _, rfl, run_takeDeferred hK, ?_⟩⟩
  have b := cell_kept hR.cell (grownBy_putObj' _ D (.deferred none)) (fun r e => by cases e; exact ⟨_, hK, rfl⟩)
  obtain ⟨j, rfl, rfl, rfl⟩ := uptoI_last _ _ _ _ g
  have hE := begin_way l a d f Hfa.out j (by omega) m (fun i hi => h _ (mem_uptoI (wayS hpos a (-1)) j i hi))
  refine ⟨.int .i64 (wayI l.length a (-1) j), ?_, by rw [hE], hB.trans (belowK_b (w := w) (Nat.le_refl _) _ D _ _ (by simp at hD; omega) hK rfl rfl)⟩
  simp [results, Tryd.results82, go_sem, b]
  rfl

theorem guard3 {α : Type} {p q s : Prop} [Decidable p] [Decidable q] [Decidable s] {x r : α} (h : (if p then (if q then (if s then some x else none) else none) else none) = some r) : p ∧ q ∧ s ∧ x = r := by
 by_cases hp : p
 ·rw [if_pos hp] at h
  by_cases hq : q
  ·rw [if_pos hq] at h
   by_cases hs : s
   ·rw [if_pos hs] at h; exact ⟨hp, hq, hs, Option.some.inj h⟩
   ·rw [if_neg hs] at h; cases h
  ·rw [if_neg hq] at h; cases h
 ·rw [if_neg hp] at h; cases h

def field_Begin.f (b : Int) (c : Int) (a : List (S44)) (d : Int) (e : Bool) (g : Bool) (a1 : Int) : Option Int := if a.length ≤ 16383 then (if 0 ≤ a1 then (if a1 < (a.length : Int) then (some (beginI a a1)) else (none)) else (none)) else (none)
theorem field_Begin.calls (c : Int) (d : Int) (b : Option Addr) (k : Nat) (a : List (S44)) (g : Int) (i : Bool) (j : Bool) (a1 : Int) (r : Int) (w : World) (m : Kd.C k44 w b a.length a) (l : a.length ≤ k) (h : field_Begin.f c d a g i j a1 = some r) :
  Calls Tryd.prog 82 #[.agg #[.int .i64 c, .int .i64 d, .slice b a.length k, .int .i64 g, .bool i, .bool j], .int .i64 a1] w fun e w' => e = .returned (.int .i64 r) ∧ Below w.heap.size w w' := by
 obtain ⟨hn, n, o, rfl⟩ := guard3 h
 cases hf : isF a a1 with
 | true => exact Begin_here c d b k a g i j a1 w m l n o hf
 | false => exact callsIn_wide.1 (Begin_loop c d b k a g i j a1 w m l hn n o hf)
end

/-! ### field_Of: function 79 -/
def field_Of.f (c : Int) (d : Int) (b : List (S44)) (e : Int) (g : Bool) (h : Bool) (a1 : Int) : Option (Bool × Bool × Int × Bool) := (field_Begin.f c d b e g h a1).bind fun a => (if a < 0 then (some (false, false, 0, false)) else (if 0 ≤ a then (if a < (b.length : Int) then (some ((rd_T44 b a).f1.f0, (rd_T44 b a).f1.f1, (rd_T44 b a).f1.f2, (rd_T44 b a).f1.f3)) else (none)) else (none)))
set_option maxHeartbeats 8000000 in
set_option maxRecDepth 100000 in
theorem field_Of.calls (k : Int) (l : Int) (v : Option Addr) (x : Nat) (b : List (S44)) (m : Int) (n : Bool) (o : Bool) (a1 : Int) (W : Bool) (X : Bool) (Y : Int) (r4 : Bool) (w : World) (R : Kd.C k44 w v b.length b) (Q : b.length ≤ x) (h : field_Of.f k l b m n o a1 = some (W, X, Y, r4)) :
  Calls Tryd.prog 79 #[.agg #[.int .i64 k, .int .i64 l, .slice v b.length x, .int .i64 m, .bool n, .bool o], .int .i64 a1] w fun e w' => e = .returned (.agg #[.bool W, .bool X, .int .i64 Y, .bool r4]) ∧ Below w.heap.size w w' := by
 have bg := Tryd.underlying24
 have bh := Tryd.underlying28
 have F := Z R
 have M := Z Q
 clear R Q
 have HB := Z (Below.refl w.heap.size w)
 have H : ((field_Begin.f k l b m n o a1).bind fun a => (if a < 0 then (some (false, false, 0, false)) else (if 0 ≤ a then (if a < (b.length : Int) then (some ((rd_T44 b a).f1.f0, (rd_T44 b a).f1.f1, (rd_T44 b a).f1.f2, (rd_T44 b a).f1.f3)) else (none)) else (none)))) = some (W, X, Y, r4) := h
 clear h
 replace H := Option.bind_eq_some_iff.mp H
 obtain ⟨a, ab, H⟩ := H
 replace H : (if a < 0 then (some (false, false, 0, false)) else (if 0 ≤ a then (if a < (b.length : Int) then (some ((rd_T44 b a).f1.f0, (rd_T44 b a).f1.f1, (rd_T44 b a).f1.f2, (rd_T44 b a).f1.f3)) else (none)) else (none))) = some (W, X, Y, r4) := H
 have A3 := Z ab
 clear ab
 by_cases c4 : a < 0
 ·rw [if_pos c4] at H
  have ac : decide (a < 0) = true := decide_eq_true c4
  clear c4
  simp only [Option.some.injEq, Prod.mk.injEq] at H
  obtain ⟨rfl, rfl, rfl, rfl⟩ := H
  go_enter Tryd.func79, Tryd.ntmps79
  go_wp2_with (first | ((with_reducible refine gate_dst (N := 2) rfl ?_); refine bx_ 2 24 #[.int .i64 k, .int .i64 l, .slice v b.length x, .int .i64 m, .bool n, .bool o] ?_; intro u hg w5 hbox hb; have c := Z (hbox); have U := Z (ln_ hg : w.heap.size ≤ u); have S := Z (ln_ hg : w.heap.size ≤ u); replace HB := Z (below_step bl_ hb); clear hb hbox hg) | ((with_reducible refine gate_dst (N := 4) rfl ?_); refine bx_ 4 28 #[.bool false, .bool false, .int .i64 0, .bool false] ?_; intro p hg w6 hbox hb; have d := Z (hbox); have V := Z (ln_ hg : w.heap.size ≤ p); have T := Z (ln_ hg : w.heap.size ≤ p); replace HB := Z (below_step bl_ hb); have q := Z (nl c.out hg); have r := Z (ng c.out hg); replace c := Z (kb c.out hb); clear hb hbox hg; have be := q.out; have bf := r.out; obtain ⟨aW, aX, aY, aZ, a0, a2, a3, a4, a5, a6, a7, a8⟩ := cells6 c.out) | ((with_reducible refine gate_callee (f := 82) rfl ?_); refine goesL_ (some 8) rfl rfl Tryd.func82 (by kernel_rfl) rfl #[.agg #[.int .i64 k, .int .i64 l, .slice v b.length x, .int .i64 m, .bool n, .bool o], .int .i64 a1] rfl ag_ ?_; (with_reducible refine (field_Begin.calls k l _ _ b m n o a1 a _ ?side1 ?side2 A3.out).mono ?_); (case side1 => repeat (first | exact (Kd.C_below F.out HB.out) | (with_reducible apply pC))); (case side2 => exact M.out); rintro e w9 ⟨rfl, hb⟩; refine ⟨_, rfl, ?_⟩; replace c := Z (kb c.out hb); replace d := Z (kb d.out hb); replace HB := Z (below_step bl_ hb); (try clear hb); (try clear aV); (try clear hk); (try clear hi); obtain ⟨ae, af, ag, ah, aA, aB, aC, aD⟩ := cells4 d.out))
  refine bodyPost_ret (results_cell_row rfl _ _ p 28 #[.bool false, .bool false, .int .i64 0, .bool false] (0, 0) _ rfl (by (with_reducible repeat apply pK); refine blk_put (cs := #[.bool false, .bool false, .int .i64 0, .bool false]) ?_ 3 _ rfl; (with_reducible repeat apply pK); refine blk_put (cs := #[.bool false, .bool false, .int .i64 0, .bool false]) ?_ 2 _ rfl; (with_reducible repeat apply pK); refine blk_put (cs := #[.bool false, .bool false, .int .i64 0, .bool false]) ?_ 1 _ rfl; (with_reducible repeat apply pK); refine blk_put (cs := #[.bool false, .bool false, .int .i64 0, .bool false]) ?_ 0 _ rfl; (with_reducible repeat apply pK); exact d.out) Tryd.underlying28 rfl (by kernel_rfl)) rfl ?_
  exact ⟨er_, bl_⟩
 ·rw [if_neg c4] at H
  have ac : decide (a < 0) = false := decide_eq_false c4
  clear c4
  by_cases O : 0 ≤ a
  ·rw [if_pos O] at H
   have ba : decide (0 ≤ a) = true := decide_eq_true O
   clear O
   by_cases P : a < (b.length : Int)
   ·rw [if_pos P] at H
    have bb : decide (a < (b.length : Int)) = true := decide_eq_true P
    clear P
    simp only [Option.some.injEq, Prod.mk.injEq] at H
    obtain ⟨rfl, rfl, rfl, rfl⟩ := H
    go_enter Tryd.func79, Tryd.ntmps79
    go_wp2_with (first | ((with_reducible refine gate_dst (N := 2) rfl ?_); refine bx_ 2 24 #[.int .i64 k, .int .i64 l, .slice v b.length x, .int .i64 m, .bool n, .bool o] ?_; intro u hg bi hbox hb; have c := Z (hbox); have U := Z (ln_ hg : w.heap.size ≤ u); have S := Z (ln_ hg : w.heap.size ≤ u); replace HB := Z (below_step bl_ hb); clear hb hbox hg) | ((with_reducible refine gate_dst (N := 4) rfl ?_); refine bx_ 4 28 #[.bool false, .bool false, .int .i64 0, .bool false] ?_; intro p hg bj hbox hb; have d := Z (hbox); have V := Z (ln_ hg : w.heap.size ≤ p); have T := Z (ln_ hg : w.heap.size ≤ p); replace HB := Z (below_step bl_ hb); have q := Z (nl c.out hg); have r := Z (ng c.out hg); replace c := Z (kb c.out hb); clear hb hbox hg; have bc := q.out; have bd := r.out; obtain ⟨ai, aj, ak, al, am, an, aE, aF, aG, aH, aI, aJ⟩ := cells6 c.out) | ((with_reducible refine gate_callee (f := 82) rfl ?_); refine goesL_ (some 8) rfl rfl Tryd.func82 (by kernel_rfl) rfl #[.agg #[.int .i64 k, .int .i64 l, .slice v b.length x, .int .i64 m, .bool n, .bool o], .int .i64 a1] rfl ag_ ?_; (with_reducible refine (field_Begin.calls k l _ _ b m n o a1 a _ ?side1 ?side2 A3.out).mono ?_); (case side1 => repeat (first | exact (Kd.C_below F.out HB.out) | (with_reducible apply pC))); (case side2 => exact M.out); rintro e bk ⟨rfl, hb⟩; refine ⟨_, rfl, ?_⟩; replace c := Z (kb c.out hb); replace d := Z (kb d.out hb); replace HB := Z (below_step bl_ hb); (try clear hb); (try clear aV); (try clear hk); (try clear hi); obtain ⟨ao, ap, aq, ar, au, av, aK, aL, aM, aN, aO, aP⟩ := cells6 c.out; have K : 0 ≤ (a : Int) := od_; have L : a < (b.length : Int) := od_; obtain ⟨a9, ad, y, z, A, B, D, E⟩ := at_T44 F.out a K L; cases ad; replace y := (HB.out.cell (bk_ w _ y)).trans y; replace z := (HB.out.cell (bk_ w _ z)).trans z; replace A := (HB.out.cell (bk_ w _ A)).trans A; replace B := (HB.out.cell (bk_ w _ B)).trans B; replace D := (HB.out.cell (bk_ w _ D)).trans D; replace E := (HB.out.cell (bk_ w _ E)).trans E; replace K := eq_true K; replace L := eq_true L; obtain ⟨aw, ax, ay, az, aQ, aR, aS, aT⟩ := cells4 d.out))
    refine bodyPost_ret (results_cell_row rfl _ _ p 28 #[.bool ((rd_T44 b a).f1.f0), .bool ((rd_T44 b a).f1.f1), .int .i64 ((rd_T44 b a).f1.f2), .bool ((rd_T44 b a).f1.f3)] (0, 0) _ rfl (by (with_reducible repeat apply pK); refine blk_put (cs := #[.bool ((rd_T44 b a).f1.f0), .bool ((rd_T44 b a).f1.f1), .int .i64 ((rd_T44 b a).f1.f2), .bool false]) ?_ 3 _ rfl; (with_reducible repeat apply pK); refine blk_put (cs := #[.bool ((rd_T44 b a).f1.f0), .bool ((rd_T44 b a).f1.f1), .int .i64 0, .bool false]) ?_ 2 _ rfl; (with_reducible repeat apply pK); refine blk_put (cs := #[.bool ((rd_T44 b a).f1.f0), .bool false, .int .i64 0, .bool false]) ?_ 1 _ rfl; (with_reducible repeat apply pK); refine blk_put (cs := #[.bool false, .bool false, .int .i64 0, .bool false]) ?_ 0 _ rfl; (with_reducible repeat apply pK); exact d.out) Tryd.underlying28 rfl (by kernel_rfl)) rfl ?_
    exact ⟨er_, bl_⟩
   ·rw [if_neg P] at H
    exact absurd H (by simp)
  ·rw [if_neg O] at H
   exact absurd H (by simp)

/-! ### field_Open: function 55 -/
def field_Open.f (c : Int) (d : Int) (a : List (S44)) (e : Int) (g : Bool) (h : Bool) (a1 : Int) : Option (Bool) := if 0 ≤ a1 then (if a1 < (a.length : Int) then (if ((rd_T44 a a1).f0 = true) then (some false) else ((field_Of.f c d a e g h a1).bind fun b => (some (!b.1)))) else (none)) else (none)
set_option maxHeartbeats 8000000 in
set_option maxRecDepth 100000 in
theorem field_Open.calls (l : Int) (m : Int) (A : Option Addr) (D : Nat) (a : List (S44)) (n : Int) (o : Bool) (p : Bool) (a1 : Int) (r : Bool) (w : World) (K : Kd.C k44 w A a.length a) (J : a.length ≤ D) (h : field_Open.f l m a n o p a1 = some r) :
  Calls Tryd.prog 55 #[.agg #[.int .i64 l, .int .i64 m, .slice A a.length D, .int .i64 n, .bool o, .bool p], .int .i64 a1] w fun e w' => e = .returned (.bool r) ∧ Below w.heap.size w w' := by
 have aA := Tryd.underlying24
 have aB := Tryd.underlying28
 have B := Z K
 have P := Z J
 clear K J
 have HB := Z (Below.refl w.heap.size w)
 have H : (if 0 ≤ a1 then (if a1 < (a.length : Int) then (if ((rd_T44 a a1).f0 = true) then (some false) else ((field_Of.f l m a n o p a1).bind fun v => (some (!v.1)))) else (none)) else (none)) = some r := h
 clear h
 by_cases c3 : 0 ≤ a1
 ·rw [if_pos c3] at H
  have ay : decide (0 ≤ a1) = true := decide_eq_true c3
  clear c3
  by_cases c4 : a1 < (a.length : Int)
  ·rw [if_pos c4] at H
   have az : decide (a1 < (a.length : Int)) = true := decide_eq_true c4
   clear c4
   obtain ⟨S, I⟩ : ∃ b_ : Bool, b_ = ((rd_T44 a a1).f0) := ⟨_, rfl⟩
   replace H : (if (S = true) then (some false) else ((field_Of.f l m a n o p a1).bind fun v => (some (!v.1)))) = some r := by rw [← I] at H; exact H
   have k := Z I
   clear I
   by_cases c6 : (S = true)
   ·subst c6
    have H1 : (some false) = some r := by rw [if_pos rfl] at H; exact H
    clear H
    have H := H1
    clear H1
    obtain rfl := Option.some.inj H
    go_enter Tryd.func55, Tryd.ntmps55
    go_wp2_with (first | ((with_reducible refine gate_dst (N := 2) rfl ?_); refine bx_ 2 24 #[.int .i64 l, .int .i64 m, .slice A a.length D, .int .i64 n, .bool o, .bool p] ?_; intro x hg w7 hbox hb; have q := Z (hbox); have O := Z (ln_ hg : w.heap.size ≤ x); have M := Z (ln_ hg : w.heap.size ≤ x); replace HB := Z (below_step bl_ hb); clear hb hbox hg; obtain ⟨aj, ak, al, am, an, ao, ap, aq, ar, au, av, aw⟩ := cells6 q.out; have s : 0 ≤ (a1 : Int) := od_; have u : a1 < (a.length : Int) := od_; obtain ⟨Q, G, b, c, d, i, g, j⟩ := at_T44 B.out a1 s u; (try rw [← k.out] at b); (try rw [← k.out] at c); (try rw [← k.out] at d); (try rw [← k.out] at g); cases G; replace b := (HB.out.cell (bk_ w _ b)).trans b; replace c := (HB.out.cell (bk_ w _ c)).trans c; replace d := (HB.out.cell (bk_ w _ d)).trans d; replace i := (HB.out.cell (bk_ w _ i)).trans i; replace g := (HB.out.cell (bk_ w _ g)).trans g; replace j := (HB.out.cell (bk_ w _ j)).trans j; replace s := eq_true s; replace u := eq_true u))
    go_ret
    exact ⟨er_, bl_⟩
   ·replace c6 := Bool.eq_false_iff.mpr c6
    subst c6
    have H1 : ((field_Of.f l m a n o p a1).bind fun v => (some (!v.1))) = some r := by rw [if_neg (show ¬ (false = true) by decide)] at H; exact H
    clear H
    have H := H1
    clear H1
    replace H := Option.bind_eq_some_iff.mp H
    obtain ⟨⟨L, T, U, V⟩, R, H⟩ := H
    replace H : (some (!L)) = some r := H
    have A9 := Z R
    clear R
    obtain rfl := Option.some.inj H
    go_enter Tryd.func55, Tryd.ntmps55
    go_wp2_with (first | ((with_reducible refine gate_dst (N := 2) rfl ?_); refine bx_ 2 24 #[.int .i64 l, .int .i64 m, .slice A a.length D, .int .i64 n, .bool o, .bool p] ?_; intro x hg aD hbox hb; have q := Z (hbox); have O := Z (ln_ hg : w.heap.size ≤ x); have M := Z (ln_ hg : w.heap.size ≤ x); replace HB := Z (below_step bl_ hb); clear hb hbox hg; obtain ⟨W, X, Y, aa, ab, ac, ad, ae, af, ag, ah, ai⟩ := cells6 q.out; have s : 0 ≤ (a1 : Int) := od_; have u : a1 < (a.length : Int) := od_; obtain ⟨Q, G, b, c, d, i, g, j⟩ := at_T44 B.out a1 s u; (try rw [← k.out] at b); (try rw [← k.out] at c); (try rw [← k.out] at d); (try rw [← k.out] at g); cases G; replace b := (HB.out.cell (bk_ w _ b)).trans b; replace c := (HB.out.cell (bk_ w _ c)).trans c; replace d := (HB.out.cell (bk_ w _ d)).trans d; replace i := (HB.out.cell (bk_ w _ i)).trans i; replace g := (HB.out.cell (bk_ w _ g)).trans g; replace j := (HB.out.cell (bk_ w _ j)).trans j; replace s := eq_true s; replace u := eq_true u) | (go_at_call 79; (with_reducible refine (field_Of.calls l m _ _ a n o p a1 L T U V _ ?side1 ?side2 A9.out).mono ?_); (case side1 => repeat (first | exact (Kd.C_below B.out HB.out) | (with_reducible apply pC))); (case side2 => exact P.out); rintro e aE ⟨rfl, hb⟩; replace q := Z (kb q.out hb); replace HB := Z (below_step bl_ hb); (try clear hb); (try clear aC); (try clear hk); (try clear hi)))
    go_ret
    exact ⟨er_, bl_⟩
  ·rw [if_neg c4] at H
   exact absurd H (by simp)
 ·rw [if_neg c3] at H
  exact absurd H (by simp)

/-! ### grid_On: function 87 -/
def grid_On.f (b : Int) (c : Int) (a : List (S44)) (d : Int) (e : Bool) (g : Bool) (a1 : Int) (h : Int) : Option (Int) := if (a.length : Int) = 0 then (none) else (some (Int.tmod (wrap64 ((wrap64 (a1 + (Int.tmod h (a.length : Int)))) + (a.length : Int))) (a.length : Int)))
set_option maxHeartbeats 8000000 in
set_option maxRecDepth 100000 in
theorem grid_On.calls (c : Int) (d : Int) (b : Option Addr) (k : Nat) (a : List (S44)) (g : Int) (i : Bool) (j : Bool) (a1 : Int) (v : Int) (r : Int) (w : World) (n : Kd.C k44 w b a.length a) (m : a.length ≤ k) (h : grid_On.f c d a g i j a1 v = some r) :
  Calls Tryd.prog 87 #[.agg #[.int .i64 c, .int .i64 d, .slice b a.length k, .int .i64 g, .bool i, .bool j], .int .i64 a1, .int .i64 v] w fun e w' => e = .returned (.int .i64 r) ∧ Below w.heap.size w w' := by
 have T := Tryd.underlying24
 have P := Z n
 have O := Z m
 clear n m
 have HB := Z (Below.refl w.heap.size w)
 have H : (if (a.length : Int) = 0 then (none) else (some (Int.tmod (wrap64 ((wrap64 (a1 + (Int.tmod v (a.length : Int)))) + (a.length : Int))) (a.length : Int)))) = some r := h
 clear h
 by_cases c4 : (a.length : Int) = 0
 ·rw [if_pos c4] at H
  exact absurd H (by simp)
 ·rw [if_neg c4] at H
  have Q : ((a.length : Int) == 0) = false := beq_eq_false_iff_ne.mpr c4
  have R : ((a.length : Int) != 0) = true := bne_iff_ne.mpr c4
  have S : ¬ (a = []) := fun h_ => c4 (by rw [h_]; rfl)
  obtain rfl := Option.some.inj H
  go_enter Tryd.func87, Tryd.ntmps87
  go_wp2_with (first | ((with_reducible refine gate_dst (N := 3) rfl ?_); refine bx_ 3 24 #[.int .i64 c, .int .i64 d, .slice b a.length k, .int .i64 g, .bool i, .bool j] ?_; intro l hg w5 hbox hb; have o := Z (hbox); have M := Z (ln_ hg : w.heap.size ≤ l); have L := Z (ln_ hg : w.heap.size ≤ l); replace HB := Z (below_step bl_ hb); clear hb hbox hg; obtain ⟨x, y, z, A, B, D, E, F, G, I, J, K⟩ := cells6 o.out))
  go_ret
  exact ⟨er_, bl_⟩

/-! ### grid_Span: function 67 -/
def grid_Span.l0 : Nat → Int → List Int → Int → Int → Int → List (S44) → Int → Bool → Bool → Option (List Int)
 | 0, _, _, _, _, _, _, _, _, _ => none
 | k + 1, l, h, j, b, c, a, d, e, g => if j = l then (some h) else (if (h.length : Int) < (a.length : Int) then (if h.length < 17592186044416 then ((grid_On.f b c a d e g j 1).bind fun i => (grid_Span.l0 k l (h ++ [j]) i b c a d e g)) else (none)) else (some h))
def grid_Span.f (k : Nat) (a : Int) (b : Int) (g : List (S44)) (c : Int) (d : Bool) (e : Bool) (a1 : Int) (i : Int) : Option (List Int) := (grid_On.f a b g c d e a1 1).bind fun h => (grid_Span.l0 k i (([a1] : List Int)) h a b g c d e)
theorem grid_Span.mono_l : ∀ k, (∀ b c d e f g i j l, LeO (grid_Span.l0 k b c d e f g i j l) (grid_Span.l0 (k + 1) b c d e f g i j l))
 | 0 => fun _ _ _ _ _ _ _ _ _ r h => by simp [grid_Span.l0] at h
 | k + 1 => by
  have a := grid_Span.mono_l k
  ·intro b c d e f g i j l
   unfold grid_Span.l0
   repeat' first
   | (with_reducible exact a _ _ _ _ _ _ _ _ _)
   | (with_reducible exact LeO.refl _)
   | (with_reducible exact LeO.none _)
   | (with_reducible refine LeO.ite ?_ ?_)
   | (with_reducible refine LeO.bind ?_ (fun _ => ?_))
   | exact a _ _ _ _ _ _ _ _ _
   | exact LeO.none _
   | refine LeO.ite ?_ ?_
   | refine LeO.bind ?_ (fun _ => ?_)
theorem grid_Span.mono : ∀ a0 a1 b c a4 d e g k, LeO (grid_Span.f k a0 a1 b c a4 d e g) (grid_Span.f (k + 1) a0 a1 b c a4 d e g) := by
 intro a0 a1 b c a4 d e g k
 have a := grid_Span.mono_l k
 unfold grid_Span.f
 repeat' first
   | (with_reducible exact a _ _ _ _ _ _ _ _ _)
   | (with_reducible exact LeO.refl _)
   | (with_reducible exact LeO.none _)
   | (with_reducible refine LeO.ite ?_ ?_)
   | (with_reducible refine LeO.bind ?_ (fun _ => ?_))
   | exact a _ _ _ _ _ _ _ _ _
   | exact LeO.none _
   | refine LeO.ite ?_ ?_
   | refine LeO.bind ?_ (fun _ => ?_)
set_option maxHeartbeats 8000000 in
set_option maxRecDepth 100000 in
theorem grid_Span.calls (k : Nat) (d : Int) (i : Int) (v : Option Addr) (x : Nat) (a : List (S44)) (j : Int) (l : Bool) (m : Bool) (a1 : Int) (B : Int) (r : List Int) (w : World) (V : Kd.C k44 w v a.length a) (U : a.length ≤ x) (h : grid_Span.f k d i a j l m a1 B = some r) :
  Calls Tryd.prog 67 #[.agg #[.int .i64 d, .int .i64 i, .slice v a.length x, .int .i64 j, .bool l, .bool m], .int .i64 a1, .int .i64 B] w fun e w' => ∃ av : Value, e = .returned (av) ∧ Kd.R (Kd.int .i64) 3 w' w.heap.size (fun _ => True) av r ∧ Below w.heap.size w w' := by
 have bp := Tryd.underlying24
 have Q := Z V
 have P := Z U
 clear V U
 have HB := Z (Below.refl w.heap.size w)
 have H : ((grid_On.f d i a j l m a1 1).bind fun y => (grid_Span.l0 k B (([a1] : List Int)) y d i a j l m)) = some r := h
 clear h
 obtain ⟨L, z⟩ : ∃ y_ : List Int, y_ = (([a1] : List Int)) := ⟨_, rfl⟩
 replace H : ((grid_On.f d i a j l m a1 1).bind fun y => (grid_Span.l0 k B L y d i a j l m)) = some r := by first | (rw [z]; with_reducible exact H) | (have I := (Option.bind_some _ _).symm.trans H; rw [z]; with_reducible exact I) | (have I := (Option.bind_some _ _).symm.trans H; with_reducible exact I) | with_reducible exact H | (rw [z]; exact H) | exact H
 have S := Z z
 clear z
 replace H := Option.bind_eq_some_iff.mp H
 obtain ⟨y, aq, H⟩ := H
 replace H : (grid_Span.l0 k B L y d i a j l m) = some r := H
 have A4 := Z aq
 clear aq
 have H' := Z H
 clear H
 go_enter Tryd.func67, Tryd.ntmps67
 go_wp2_with (first | ((with_reducible refine gate_dst (N := 3) rfl ?_); (try (refine gate_guard (by rfl) ?_; dsimp only)); refine bx_ 3 24 #[.int .i64 d, .int .i64 i, .slice v a.length x, .int .i64 j, .bool l, .bool m] ?_; intro G hg w5 hbox hb; have c := Z (hbox); have bl := Z (ln_ hg : w.heap.size ≤ G); have bk := Z (ln_ hg : w.heap.size ≤ G); replace HB := Z (below_step bl_ hb); clear hb hbox hg) | ((with_reducible refine gate_dst (N := 10) rfl ?_); (try (refine gate_guard (by rfl) ?_; dsimp only)); refine Kd.R_lit (Kd.int .i64) _ 3 ?hg (N := 10) ?hd (xs := ([a1] : List Int)) (inner := [.int .i64 a1]) (ok := fun _ => True) (okp := fun _ => True) ?hr ?hp (fun _ hk => hk) trivial (Below.refl _ _) (Nat.le_refl _) (by simp) ?_; (case hd => rfl); (case hg => rfl); (case hr => first | (go_simp; done) | (go_simp; rfl)); (case hp => exact (Reps.one (show Kd.M (Kd.int .i64) _ _ _ a1 [.int .i64 a1] from rfl) (Reps.none _ _))); intro bq w6 K hb hg_ hnew_; clear hg_ hnew_; (first | rw [← S.out] at K | (simp only [Int.reduceToNat] at K; rw [← S.out] at K)); have E := Z (Kd.R_lower K (below_size bl_)); replace c := Z (kb c.out hb); replace HB := Z (below_step bl_ hb); clear hb K; obtain ⟨X, Y, aa, ab, ac, ad, ae, af, ag, ah, ai, aj⟩ := cells6 c.out) | ((with_reducible refine gate_callee (f := 87) rfl ?_); refine goesL_ (some 13) rfl rfl Tryd.func87 (by kernel_rfl) rfl #[.agg #[.int .i64 d, .int .i64 i, .slice v a.length x, .int .i64 j, .bool l, .bool m], .int .i64 a1, .int .i64 1] rfl ag_ ?_; (with_reducible refine (grid_On.calls d i _ _ a j l m a1 1 y _ ?side1 ?side2 A4.out).mono ?_); (case side1 => repeat (first | exact (Kd.C_below Q.out HB.out) | (with_reducible apply pC))); (case side2 => exact P.out); rintro e w9 ⟨rfl, hb⟩; refine ⟨_, rfl, ?_⟩; replace E := Z (rb E.out hb); replace c := Z (kb c.out hb); replace HB := Z (below_step bl_ hb); (try clear hb); (try clear bj); (try clear hk); (try clear hi)))
 go_loopg [7, 8] k (fun kq v7 v8 w' => ∃ (p : List Int) (n : Int), v8 = .int .i64 n ∧ Aside0 (grid_Span.l0 kq B p n d i a j l m = some r) ∧ Aside0 (kq ≤ k) ∧ Aside0 (Kd.R (Kd.int .i64) 3 w' w.heap.size (fun _ => True) v7 p) ∧ Aside0 (w'.heap[G]? = some (.cells #[.int .i64 d, .int .i64 i, (.slice v a.length x), .int .i64 j, .bool l, .bool m] 24 (0, 0))) ∧ Aside0 (Below w.heap.size w w'))
 case atStart => exact ⟨(L), (y), (dn_), H', ⟨Nat.le_refl _⟩, ⟨by (with_reducible repeat apply pR); exact E.out⟩, ⟨vK c.out⟩, ⟨bl_⟩⟩
 case round =>
  clear H'
  try clear p2
  try clear c6
  try clear c8
  try clear X
  try clear Y
  try clear aa
  try clear ab
  try clear ac
  try clear ad
  try clear ae
  try clear af
  try clear ag
  try clear ah
  try clear ai
  try clear aj
  obtain ⟨p, n, rfl, HA, ar, HO_7, c, HB⟩ := hrel
  cases gk with
  | zero => exact absurd HA.out (by simp [grid_Span.l0])
  | succ k1 =>
   have H := HA.out
   clear HA
   simp only [grid_Span.l0] at H
   by_cases c10 : n = B
   ·rw [if_pos c10] at H
    have am : (n == B) = true := beq_iff_eq.mpr c10
    have an : (n != B) = false := bne_eq_false_iff_eq.mpr c10
    clear c10
    obtain rfl := Option.some.inj H
    go_wp2
    go_ret
    exact ⟨_, er_, by (with_reducible repeat apply pR); exact HO_7.out, bl_⟩
   ·rw [if_neg c10] at H
    have am : (n == B) = false := beq_eq_false_iff_ne.mpr c10
    have an : (n != B) = true := bne_iff_ne.mpr c10
    by_cases D : (p.length : Int) < (a.length : Int)
    ·rw [if_pos D] at H
     have ao : decide ((p.length : Int) < (a.length : Int)) = true := decide_eq_true D
     have ap : decide (p.length < a.length) = true := decide_eq_true (Int.ofNat_lt.mp D)
     clear D
     by_cases T : p.length < 17592186044416
     ·rw [if_pos T] at H
      have ak := Z T
      clear T
      obtain ⟨O, A⟩ : ∃ y_ : List Int, y_ = (p ++ [n]) := ⟨_, rfl⟩
      replace H : ((grid_On.f d i a j l m n 1).bind fun J => (grid_Span.l0 k1 B O J d i a j l m)) = some r := by first | (rw [A]; with_reducible exact H) | (have I := (Option.bind_some _ _).symm.trans H; rw [A]; with_reducible exact I) | (have I := (Option.bind_some _ _).symm.trans H; with_reducible exact I) | with_reducible exact H | (rw [A]; exact H) | exact H
      have al := Z A
      clear A
      replace H := Option.bind_eq_some_iff.mp H
      obtain ⟨J, W, H⟩ := H
      replace H : (grid_Span.l0 k1 B O J d i a j l m) = some r := H
      have bi := Z W
      clear W
      have H' := Z H
      clear H
      obtain ⟨aw, ax, ay⟩ := Kd.R_slice HO_7.out
      subst ay
      obtain ⟨aA, aC, aD, aE, aG, aH, aY, aZ, a0, a3, a4, a5⟩ := cells6 c.out
      go_wp2_with (first | ((with_reducible refine gate_builtin (b := .append) (xs := #[.tmp 28, .tmp 30]) rfl ?_); (try (refine gate_guard (by rfl) ?_; dsimp only)); at_builtin; refine Kd.R_append (Kd.int .i64) (w0 := w) w.heap.size rfl (.tmp 28) (.tmp 30) 78 3 (.int .i64 0) 8 rfl Tryd.underlying78 info3 rfl (by decide) (by omega) (.slice aw p.length ax) p n [.int .i64 n] (fun _ => True) (fun _ => False) rfl rfl ?aP (fun _ hk => hk.elim) ?aF ?aO ?aB ?aS ?aL ?_; (case aP => exact rfl); (case aB => exact bl_); (case aF => exact (fun _ _ => trivial)); (case aO => exact (by (with_reducible repeat apply pR); exact HO_7.out)); (case aS => exact (below_size bl_)); (case aL => have := ak.out; omega); intro br bu ho hb hg hat; rw [← al.out] at ho; replace c := Z (blk_grown (g := G) (o := .cells #[.int .i64 d, .int .i64 i, .slice v a.length x, .int .i64 j, .bool l, .bool m] 24 (0, 0)) (vK c.out) hg (Kd.R_ne HO_7.out c.out (by decide))); replace HB := Z (hb); have F := Z (ho); clear HO_7; clear ho hb hg hat; obtain ⟨aI, aJ, aK, aM, aN, aQ, a6, a7, a8, a9, ba, bb⟩ := cells6 c.out) | ((with_reducible refine gate_callee (f := 87) rfl ?_); refine goesL_ (some 27) rfl rfl Tryd.func87 (by kernel_rfl) rfl #[.agg #[.int .i64 d, .int .i64 i, .slice v a.length x, .int .i64 j, .bool l, .bool m], .int .i64 n, .int .i64 1] rfl ag_ ?_; (with_reducible refine (grid_On.calls d i _ _ a j l m n 1 J _ ?side1 ?side2 bi.out).mono ?_); (case side1 => repeat (first | exact (Kd.C_below Q.out HB.out) | (with_reducible apply pC))); (case side2 => exact P.out); rintro e bv ⟨rfl, hb⟩; refine ⟨_, rfl, ?_⟩; replace F := Z (rb F.out hb); replace c := Z (kb c.out hb); replace HB := Z (below_step bl_ hb); (try clear hb); (try clear bj); (try clear hk); (try clear hi)))
      go_roundg k1
      case measure => have := ar.out; omega
      case rel => exact ⟨(O), (J), (dn_), H', ⟨by have := ar.out; omega⟩, ⟨by (with_reducible repeat apply pR); exact F.out⟩, ⟨vK c.out⟩, ⟨bl_⟩⟩
     ·rw [if_neg T] at H
      exact absurd H (by simp)
    ·rw [if_neg D] at H
     have ao : decide ((p.length : Int) < (a.length : Int)) = false := decide_eq_false D
     have ap : decide (p.length < a.length) = false := decide_eq_false (fun h => D (Int.ofNat_lt.mpr h))
     clear D
     obtain rfl := Option.some.inj H
     obtain ⟨bn, bo, az⟩ := Kd.R_slice HO_7.out
     subst az
     obtain ⟨aR, aT, aU, aV, aW, aX, bc, bd, be, bf, bg, bh⟩ := cells6 c.out
     go_wp2
     go_ret
     exact ⟨_, er_, by (with_reducible repeat apply pR); exact HO_7.out, bl_⟩

end Go.Proofs.YtgboplhcjhlabaaDoor.P
