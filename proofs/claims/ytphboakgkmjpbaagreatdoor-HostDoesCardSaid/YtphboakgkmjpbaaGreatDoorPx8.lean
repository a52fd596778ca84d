/- pp.py and press2.py (wip/tools) wrote this text. -/
import Derived.Test.YtphboakgkmjpbaaGreatDoorJHostDoes1
import Derived.Test.YtphboakgkmjpbaaGreatDoorPx4
namespace Go.Proofs.YtphboakgkmjpbaaGreatDoor.P
open Go.RowKit Go.Proofs.YtphboakgkmjpbaaGreatDoorW.PrintWords Go.Proofs.YtphboakgkmjpbaaGreatDoorW.PrintLast Go.Proofs.YtphboakgkmjpbaaGreatDoorW.PrintMore
attribute [local go_sem] max2_int min2_int max_two min_two max_three min_three max_four min_four
attribute [local go_sem] Instr.field asAgg
set_option linter.unusedVariables false
set_option linter.unusedSimpArgs false
set_option maxHeartbeats 8000000
set_option maxRecDepth 100000

/-! ### slices_Clone_shutter_api_Cell_shutter_api_Cell: function 38 -/
section
/-- slices.Clone of cells: a nil row stays one, any other is made anew. -/
def slices_Clone_shutter_api_Cell_shutter_api_Cell.f (l : List S47) : Option (List S47) := if l.length ≤ 16383 then some l else none
theorem slices_Clone_shutter_api_Cell_shutter_api_Cell.calls (g : Option Addr) (c0 : Nat) (l0 r : List (S47)) (w : World) (hr0 : Kd.C k47 w g l0.length l0) (o : l0.length ≤ c0) (h : slices_Clone_shutter_api_Cell_shutter_api_Cell.f l0 = some r) :
  Calls Tryz.prog 38 #[.slice g l0.length c0] w fun e w' => ∃ d : Value, e = .returned (d) ∧ Kd.R k47 47 w' w.heap.size (fun _ => True) d r ∧ Below w.heap.size w w' := by
 unfold slices_Clone_shutter_api_Cell_shutter_api_Cell.f at h
 by_cases hn : l0.length ≤ 16383
 rotate_left
 ·rw [if_neg hn] at h
  cases h
 rw [if_pos hn] at h
 obtain rfl := Option.some.inj h
 have HR := Z hr0
 clear h hr0
 rcases g with _ | ad
 ·have hl : l0 = [] := by
   rcases Nat.eq_zero_or_pos l0.length with i | i
   ·exact List.eq_nil_of_length_eq_zero i
   ·obtain ⟨ad, h, _⟩ := HR.out.2.2 i
    cases h
  subst hl
  have hE := fun (w : World) => Lib.run_eql_slice_nil (P := Tryz.prog) w 22 47 none 0 c0 0 0 Tryz.underlying22
  rw [List.length_nil]
  go_enter Tryz.func38, Tryz.ntmps38
  go_wp2
  go_ret
  exact ⟨_, rfl, Kd.R_nil _ _ _ _ _, Below.refl _ _⟩
 have HB := Z (Below.refl w.heap.size w)
 have hE := fun (w : World) => Lib.run_eql_slice_nil (P := Tryz.prog) w 22 47 (some ad) l0.length c0 0 0 Tryz.underlying22
 go_enter Tryz.func38, Tryz.ntmps38
 go_wp2_with (first
  | ((with_reducible refine gD_ 5 rfl ?_); refine Kd.R_lit k47 w.heap.size 47 ?hg (N := 5) ?hd (xs := ([] : List (S47))) (inner := []) (ok := fun _ => True) (okp := fun _ => True) ?hr ?hp (fun _ hk => hk) trivial (Below.refl _ _) (Nat.le_refl _) (by simp) ?_; (case hd => rfl); (case hg => rfl); (case hr => first | (go_simp; done) | (go_simp; rfl)); (case hp => exact (Reps.none _ _)); intro n w1 ho hb hg_ hnew_; clear hg_ hnew_; have HO := Z ho; have hB := Z hb; clear ho hb HB; have HB := hB; clear hB)
  | ((with_reducible refine gate_builtin (b := .append) (xs := #[.tmp 5, .tmp 6]) rfl ?_); at_builtin; refine Kd.R_append_rows k47 (w0 := w) w.heap.size rfl (.tmp 5) (.tmp 6) 22 47 (.agg #[(.bool false), (.bool false), (.bool false), (.int .i64 0), (.bool false), (.int .u8 0)]) 40 rfl Tryz.underlying22 info47 rfl (by decide) (by omega) n ([] : List S47) l0 _ _ _ (fun _ => True) (fun _ => False) rfl rfl ?aO ?aR (fun _ _ h => h) (fun _ h => h.elim) ?aF ?aB ?aS ?aL ?_; (case aR => repeat (first | exact (Kd.C_below HR.out HB.out) | (with_reducible apply pC))); (case aB => exact bl_); (case aF => exact (fun _ _ => trivial)); (case aO => exact (by (with_reducible repeat apply pR); exact HO.out)); (case aS => exact (below_size bl_)); (case aL => simp only [List.length_nil]; omega); intro p w2 c a m j; clear m j; have l := Z c; have k := Z a; clear c a))
 go_ret
 exact ⟨_, rfl, by have := l.out; rwa [List.nil_append] at this, k.out⟩
end

/-! ### grid_Copy: function 16 -/
def grid_Copy.f (a b : Int) (g : List (S47)) (c : Int) (d e : Bool) : Option (Int × Int × (List (S47)) × Int × Bool × Bool) := (slices_Clone_shutter_api_Cell_shutter_api_Cell.f g).bind fun h => (some (a, b, h, c, d, e))
theorem grid_Copy.calls (b d : Int) (x : Option Addr) (y : Nat) (j : List (S47)) (i : Int) (k m : Bool) (I J : Int) (K : List (S47)) (L : Int) (M O : Bool) (w : World) (E : Kd.C k47 w x j.length j) (D : j.length ≤ y) (h : grid_Copy.f b d j i k m = some (I, J, K, L, M, O)) :
  Calls Tryz.prog 16 #[.agg #[.int .i64 b, .int .i64 d, .slice x j.length y, .int .i64 i, .bool k, .bool m]] w fun e w' => ∃ V : Value, e = .returned (.agg #[.int .i64 I, .int .i64 J, V, .int .i64 L, .bool M, .bool O]) ∧ Kd.R k47 47 w' w.heap.size (fun _ => True) V K ∧ Below w.heap.size w w' := by
 have aR := Tryz.underlying24
 have G := Z E
 have F := Z D
 clear E D
 have HB := Z (Below.refl w.heap.size w)
 unfold grid_Copy.f at h
 have H := h
 clear h
 replace H := bn_ H
 obtain ⟨g, A2, H⟩ := H
 obtain ⟨rfl, rfl, rfl, rfl, rfl, rfl⟩ := ij6_ H
 go_enter Tryz.func16, Tryz.ntmps16
 go_wp2_with (first | ((with_reducible refine gD_ 1 rfl ?_); refine bx_ 1 24 #[.int .i64 b, .int .i64 d, .slice x j.length y, .int .i64 i, .bool k, .bool m] ?_; intro z hg w3 hbox hb; have a := Z hbox; have aM := ln' w hg; replace HB := bs_ hb; clear hb hbox hg) | ((with_reducible refine gD_ 2 rfl ?_); refine bx_ 2 24 zS_ ?_; intro c hg w4 hbox hb; have l := Z hbox; have aN := ln' w hg; replace HB := bs_ hb; have A := nl' a hg; replace a := kb' a hb; clear hb hbox hg; have aP := ns_ A; have ak := cells6 a.out) | ((with_reducible refine gF_ 38 rfl ?_); refine gd_ (some 5) Tryz.func38 (slices_Clone_shutter_api_Cell_shutter_api_Cell.calls _ _ j g _ (cB_ G HB) F.out A2.out) ?_; rintro e w7 ⟨aS, rfl, Q, hb⟩; refine ⟨_, rfl, ?_⟩; have B := Z (Kd.R_lower Q (below_size bl_)); replace a := kb' a hb; replace l := kb' l hb; replace HB := bs_ hb; (try clear hb); (try clear Q); obtain ⟨u, v, aj⟩ := Kd.R_slice B.out; subst aj; have aq := cells6 a.out; have W := cells6 l.out))
 refine bodyPost_ret (results_cell_row rfl _ _ c 24 #[.int .i64 b, .int .i64 d, .slice u g.length v, .int .i64 i, .bool k, .bool m] (0, 0) _ rfl (put6 (by (with_reducible repeat apply pK); refine blk_far ?_ A.out.symm _; (with_reducible repeat apply pK); exact l.out)) Tryz.underlying24 rfl (by kernel_rfl)) rfl ?_
 exact ⟨_, er_, by (with_reducible repeat apply pR); exact Kd.R_mono (f6R c (Kd.R_far (p := ⟨z, 2, none⟩) (Kd.R_types (Kd.R_types B.out a.out (by decide)) l.out (by decide)) im_ (.slice u g.length v)) im_) im_, bl_⟩

/-! ### field_Begin: function 86 -/
section
open Go.Shelf
attribute [local go_sem] Oper.semAt_some

def isF (l : List S47) (i : Int) : Bool := (rd_T47 l i).f0
def findW (p : Int → Bool) (g : Nat → Int) : Nat → Nat → Int
 | 0, _ => -1
 | c + 1, s => if p (g s) = true then g s else findW p g c (s + 1)
theorem findW_eq (p : Int → Bool) (g : Nat → Int) : ∀ c s j, s ≤ j → j < s + c → p (g j) = true → (∀ i, s ≤ i → i < j → p (g i) = false) → findW p g c s = g j
 | 0, s, j, d, f, _, _ => by omega
 | c + 1, s, j, d, f, hp, hn => by
  unfold findW
  by_cases e : s = j
  ·subst e; rw [if_pos hp]
  ·rw [if_neg (by rw [hn s (Nat.le_refl _) (by omega)]; decide)]
   exact findW_eq p g c (s + 1) j (by omega) (by omega) hp (fun i a b => hn i (by omega) b)
theorem findW_none (p : Int → Bool) (g : Nat → Int) : ∀ c s, (∀ i, s ≤ i → i < s + c → p (g i) = false) → findW p g c s = -1
 | 0, s, _ => rfl
 | c + 1, s, hn => by
  unfold findW
  rw [if_neg (by rw [hn s (Nat.le_refl _) (by omega)]; decide)]
  exact findW_none p g c (s + 1) (fun i a b => hn i (by omega) (by omega))
theorem findW_cases (p : Int → Bool) (g : Nat → Int) : ∀ c s, (findW p g c s = -1 ∧ ∀ i, s ≤ i → i < s + c → p (g i) = false) ∨ ∃ j, s ≤ j ∧ j < s + c ∧ p (g j) = true ∧ (∀ i, s ≤ i → i < j → p (g i) = false) ∧ findW p g c s = g j
 | 0, s => .inl ⟨rfl, fun i a b => by omega⟩
 | c + 1, s => by
  unfold findW
  by_cases e : p (g s) = true
  ·exact .inr ⟨s, Nat.le_refl _, by omega, e, fun i a b => by omega, by rw [if_pos e]⟩
  ·rw [if_neg e]
   rcases findW_cases p g c (s + 1) with ⟨d, f⟩ | ⟨j, d, f, h, k, l⟩
   ·exact .inl ⟨d, fun i a b => by
     by_cases ei : i = s
     ·subst ei; simpa using e
     ·exact f i (by omega) (by omega)⟩
   ·exact .inr ⟨j, by omega, by omega, h, fun i a b => by
     by_cases ei : i = s
     ·subst ei; simpa using e
     ·exact k i (by omega) b, l⟩

/-- where the field begins that a cell lies in -/
def beginI (l : List S47) (a : Int) : Int := findW (isF l) (fun j => (a - j) % (l.length : Int)) l.length 0

theorem begin_range (l : List S47) (a : Int) (hp : 0 < l.length) : beginI l a = -1 ∨ (0 ≤ beginI l a ∧ beginI l a < l.length ∧ isF l (beginI l a) = true) := by
 rcases findW_cases (isF l) (fun j => (a - j) % (l.length : Int)) l.length 0 with ⟨h, _⟩ | ⟨j, _, _, b, _, h⟩
 ·exact .inl h
 ·right
  unfold beginI
  rw [h]
  exact ⟨Int.emod_nonneg _ (by omega), Int.emod_lt_of_pos _ (by omega), b⟩

theorem begin_here (l : List S47) (a : Int) (c : 0 ≤ a) (d : a < l.length) (h : isF l a = true) : beginI l a = a := by
 have e : (a - ((0 : Nat) : Int)) % (l.length : Int) = a := by simp; exact Int.emod_eq_of_lt c d
 have := findW_eq (isF l) (fun j => (a - j) % (l.length : Int)) l.length 0 0 (by omega) (by omega) (by show isF l ((a - ((0 : Nat) : Int)) % (l.length : Int)) = true; rw [e]; exact h) (fun i a b => by omega)
 rw [beginI, this]; exact e
theorem way_back (n : Nat) (a : Int) (j : Nat) : wayI n a (-1) j = (a - ((j + 1 : Nat) : Int)) % (n : Int) := by
 unfold wayI sgnI; simp; congr 1; omega
theorem begin_way (l : List S47) (a : Int) (c : 0 ≤ a) (d : a < l.length) (h : isF l a = false) (k : Nat) (hk : k < l.length) (hp : isF l (wayI l.length a (-1) k) = true) (hn : ∀ i, i < k → isF l (wayI l.length a (-1) i) = false) : beginI l a = wayI l.length a (-1) k := by
 have hkn : k + 1 < l.length := by
  rcases Nat.lt_or_ge (k + 1) l.length with h' | h'
  ·exact h'
  ·have ek : k + 1 = l.length := by omega
   have : wayI l.length a (-1) k = a := by
    rw [way_back, ek, Int.sub_emod_right]; exact Int.emod_eq_of_lt c d
   rw [this, h] at hp; exact absurd hp (by decide)
 have := findW_eq (isF l) (fun j => (a - j) % (l.length : Int)) l.length 0 (k + 1) (by omega) (by omega) (by show isF l ((a - ((k + 1 : Nat) : Int)) % (l.length : Int)) = true; rw [← way_back]; exact hp) (fun i _ b => by
  show isF l ((a - (i : Int)) % (l.length : Int)) = false
  rcases i with _ | i
  ·simp; rw [Int.emod_eq_of_lt c d]; exact h
  ·rw [← way_back]; exact hn i (by omega))
 rw [beginI, this]; exact (way_back _ _ _).symm
theorem begin_none (l : List S47) (a : Int) (c : 0 ≤ a) (d : a < l.length) (h : isF l a = false) (hn : ∀ i, i < l.length → isF l (wayI l.length a (-1) i) = false) : beginI l a = -1 := by
 refine findW_none _ _ _ _ (fun i _ b => ?_)
 show isF l ((a - (i : Int)) % (l.length : Int)) = false
 rcases i with _ | i
 ·simp; rw [Int.emod_eq_of_lt c d]; exact h
 ·rw [← way_back]; exact hn i (by omega)

theorem cell_f0 {w : World} {A : Option Addr} {l : List S47} (hr : Kd.C k47 w A l.length l) (i : Int) (a : 0 ≤ i) (b : i < l.length) : ∃ ad, A = some ad ∧ w.cell? (ad.add (i.toNat * 6)) = some (.bool (isF l i)) ∧ (ad.add (i.toNat * 6)).block < w.heap.size := by
 obtain ⟨ad, e, h, _⟩ := at_T47 hr i a b
 exact ⟨ad, e, h, bk_ w _ h⟩

theorem Begin_here (r c : Int) (A : Option Addr) (cp : Nat) (l : List S47) (cu : Int) (lo ins : Bool) (a : Int) (w : World) (hr : Kd.C k47 w A l.length l) (hc : l.length ≤ cp) (b : 0 ≤ a) (d : a < l.length) (hf : isF l a = true) :
  Calls Tryz.prog 86 #[.agg #[.int .i64 r, .int .i64 c, .slice A l.length cp, .int .i64 cu, .bool lo, .bool ins], .int .i64 a] w fun e w' => e = .returned (.int .i64 (beginI l a)) ∧ Below w.heap.size w w' := by
 have hb := begin_here l a b d hf
 rw [hb]
 obtain ⟨ad, rfl, hcell, hlt⟩ := cell_f0 hr a b d
 rw [hf] at hcell
 clear hf hb
 have f := Tryz.underlying24
 have g := Tryz.underlying47
 go_enter Tryz.func86, Tryz.ntmps86
 go_wp2
 refine bodyPost_ret (v := .int .i64 a) (by simp [results, Tryz.results86, go_sem]) rfl ⟨rfl, ?_⟩
 exact ((Below.refl _ w).alloc (Nat.le_refl _) _).alloc (by simp) _

theorem uptoI_last {α : Type} (f : Nat → α) (k : Nat) (ini : List α) (x : α) (h : uptoI f k = ini ++ [x]) : ∃ j, k = j + 1 ∧ ini = uptoI f j ∧ x = f j := by
 rcases k with _ | j
 ·simp [uptoI] at h
 ·rw [uptoI_succ] at h
  obtain ⟨a, b⟩ := List.append_inj' h rfl
  exact ⟨j, rfl, a.symm, by simpa using b.symm⟩
theorem mem_uptoI {α : Type} (f : Nat → α) (k j : Nat) (h : j < k) : f j ∈ uptoI f k := by
 simp only [uptoI, List.mem_map, List.mem_range]; exact ⟨j, h, rfl⟩

theorem Begin_loop (r c : Int) (A : Option Addr) (cp : Nat) (l : List S47) (cu : Int) (lo ins : Bool) (a : Int) (w : World) (hr : Kd.C k47 w A l.length l) (hc : l.length ≤ cp) (hn : l.length ≤ 16383) (d : 0 ≤ a) (f : a < l.length) (hf : isF l a = false) :
  CallsIn Fence.wide 5 Tryz.prog 86 #[.agg #[.int .i64 r, .int .i64 c, .slice A l.length cp, .int .i64 cu, .bool lo, .bool ins], .int .i64 a] w fun e w' => e = .returned (.int .i64 (beginI l a)) ∧ Below w.heap.size w w' := by
 have hpos : 0 < l.length := by omega
 obtain ⟨ad, rfl, hcell, hlt⟩ := cell_f0 hr a d f
 have Hfa := Z hf
 rw [hf] at hcell
 clear hf
 have q := Tryz.underlying24
 have t := Tryz.underlying47
 refine callsIn_of_wp_marks Tryz.func86 rfl trivial ?_ rfl
 simp only [Tryz.ntmps86, List.size_toArray, List.length_cons, List.length_nil, Nat.reduceAdd, Nat.reduceSub, Array.replicate_succ, Array.replicate_zero, List.push_toArray, List.append_toArray, List.nil_append, List.cons_append]
 gi_wp2_with (refine ⟨trivial, ?_⟩; gi_at_call 72; refine (callsIn_wide.2 (Round_exact r c _ _ cp cu lo ins a (-1) _)).mono ?_; rintro e w' ⟨rfl, rfl⟩)
 have o : Below w.heap.size w (((((w.alloc (.cells #[.int .i64 r, .int .i64 c, .slice (some ad) l.length cp, .int .i64 cu, .bool lo, .bool ins] 24)).alloc (.cells #[.int .i64 0] 3)).alloc (.cells #[.int .i64 r, .int .i64 c, .slice (some ad) l.length cp, .int .i64 cu, .bool lo, .bool ins] 24)).alloc (.cells #[.int .i64 a] 3)).alloc (.cells #[.int .i64 (-1)] 3)) :=
  (((((Below.refl _ w).alloc (Nat.le_refl _) _).alloc (by simp) _).alloc (by simp; omega) _).alloc (by simp; omega) _).alloc (by simp; omega) _
 have k1 := blk_new w (.cells #[.int .i64 r, .int .i64 c, .slice (some ad) l.length cp, .int .i64 cu, .bool lo, .bool ins] 24)
 have k2 := blk_new (w.alloc (.cells #[.int .i64 r, .int .i64 c, .slice (some ad) l.length cp, .int .i64 cu, .bool lo, .bool ins] 24)) (.cells #[.int .i64 0] 3)
 have k3 := blk_new ((w.alloc (.cells #[.int .i64 r, .int .i64 c, .slice (some ad) l.length cp, .int .i64 cu, .bool lo, .bool ins] 24)).alloc (.cells #[.int .i64 0] 3)) (.cells #[.int .i64 r, .int .i64 c, .slice (some ad) l.length cp, .int .i64 cu, .bool lo, .bool ins] 24)
 have k4 := blk_new (((w.alloc (.cells #[.int .i64 r, .int .i64 c, .slice (some ad) l.length cp, .int .i64 cu, .bool lo, .bool ins] 24)).alloc (.cells #[.int .i64 0] 3)).alloc (.cells #[.int .i64 r, .int .i64 c, .slice (some ad) l.length cp, .int .i64 cu, .bool lo, .bool ins] 24)) (.cells #[.int .i64 a] 3)
 have k5 := blk_new ((((w.alloc (.cells #[.int .i64 r, .int .i64 c, .slice (some ad) l.length cp, .int .i64 cu, .bool lo, .bool ins] 24)).alloc (.cells #[.int .i64 0] 3)).alloc (.cells #[.int .i64 r, .int .i64 c, .slice (some ad) l.length cp, .int .i64 cu, .bool lo, .bool ins] 24)).alloc (.cells #[.int .i64 a] 3)) (.cells #[.int .i64 (-1)] 3)
 simp only [World.size_alloc] at k2 k3 k4 k5
 refine wpIn_rangeFunc_ownG rfl (by omega) (gf := 88) (lb := #[.pointer (some ⟨w.heap.size + 1 + 1, 0, none⟩), .pointer (some ⟨w.heap.size + 1 + 1 + 1, 0, none⟩), .pointer (some ⟨w.heap.size + 1 + 1 + 1 + 1, 0, none⟩)]) rfl trivial (enters_of Tryz.func88 (by kernel_rfl) rfl)
  (round_stops 4 (by omega) (w.heap.size + 1 + 1) (w.heap.size + 1 + 1 + 1) (w.heap.size + 1 + 1 + 1 + 1) r c (some ad) l.length cp cu lo ins a (-1) hpos hn d f _ (blk_alloc (blk_alloc k3 _) _) (blk_alloc k4 _) k5) Keep3.trans (Keep3.put (by simp) (by simp) (by simp)) (Below.refl _ _) (fun _ => rfl)
  (fun pre W => ((∀ x ∈ pre, isF l x.1 = false) ∧ W.heap[w.heap.size]? = some (.cells #[.int .i64 r, .int .i64 c, .slice (some ad) l.length cp, .int .i64 cu, .bool lo, .bool ins] 24 (0, 0)) ∧ Boxed W (w.heap.size + 1) 3 (.int .i64 0)) ∧ Below w.heap.size w W)
  (fun c pre W => (c = .ret ∧ ∃ ini last, pre = ini ++ [last] ∧ (∀ x ∈ ini, isF l x.1 = false) ∧ isF l last.1 = true ∧ Boxed W (w.heap.size + 1) 3 (.int .i64 last.1)) ∧ Below w.heap.size w W)
  (OwnFrom.and (Own.from (fun s A B row hs hg hr => ⟨hs.1, (grownBy_keeps_cells hg hr hs.2.1 rfl).trans hs.2.1, (grownBy_keeps_cells hg hr hs.2.2 rfl).trans hs.2.2⟩) _) (ownFrom_below (Nat.le_refl _) (by simp; omega)))
  (fun c => OwnFrom.and (Own.from (fun s A B row hs hg hr => by obtain ⟨hc, ini, last, g, h, m, n⟩ := hs; exact ⟨hc, ini, last, g, h, m, (grownBy_keeps_cells hg hr n rfl).trans n⟩) _) (ownFrom_below (Nat.le_refl _) (by simp; omega)))
  ⟨⟨by simp, blk_alloc (blk_alloc (blk_alloc (blk_alloc k1 _) _) _) _, blk_alloc (blk_alloc (blk_alloc k2 _) _) _⟩, o⟩
  (fun x => { tmps := #[.agg #[.int .i64 r, .int .i64 c, .slice (some ad) l.length cp, .int .i64 cu, .bool lo, .bool ins], .int .i64 a, .pointer (some ⟨w.heap.size, 0, none⟩), undef, .pointer (some ⟨w.heap.size + 1, 0, none⟩), .int .i64 x.1, .pointer (some ⟨w.heap.size, 2, none⟩), .slice (some ad) l.length cp, .int .i64 a, .pointer (some (ad.add (a.toNat * 6))), .pointer (some (ad.add (a.toNat * 6))), .bool false, undef, .agg #[.int .i64 r, .int .i64 c, .slice (some ad) l.length cp, .int .i64 cu, .bool lo, .bool ins], .int .i64 a, .func (.func 88) #[] #[.pointer (some ⟨w.heap.size + 1 + 1, 0, none⟩), .pointer (some ⟨w.heap.size + 1 + 1 + 1, 0, none⟩), .pointer (some ⟨w.heap.size + 1 + 1 + 1 + 1, 0, none⟩)], .int .i64 x.1, undef, undef, undef, undef, undef, undef, undef], defers := [] }) ?assign ?body ?done ?stop
 case assign =>
  intro l x W K hK
  gi_wp2
  exact hK
 case body =>
  rintro lp pre x W ⟨⟨hp, hS, hR⟩, hB⟩ _
  obtain ⟨ad', e', hcx, hltx⟩ := cell_f0 hr x.1 x.2.1 x.2.2
  cases e'
  have hcW := (hB.cell hltx).trans hcx
  have u := (blk_cell hS 2).trans rfl
  have v := x.2.1
  have z := x.2.2
  have rC := hR.cell
  have rF := hR.frozen
  cases hfx : isF l x.1 with
  | true =>
   rw [hfx] at hcW
   gi_wp2
   exact ⟨(KeepsOthers.setCell _ _ _).from _, ⟨rfl, pre, x, rfl, hp, hfx, hR.set _⟩, hB.setCell (p := ⟨w.heap.size + 1, 0, none⟩) (Nat.le_succ _) _⟩
  | false =>
   rw [hfx] at hcW
   gi_wp2
   exact ⟨KeepsFrom.refl _ _, Keep3.refl _ _ _ _, ⟨fun y hy => (List.mem_append.1 hy).elim (hp y) (fun e => by simp at e; subst e; exact hfx), hS, hR⟩, hB⟩
 case done =>
  rintro D ys W hD rfl ⟨⟨hne, hS, hR⟩, hB⟩ hK
  have rC := hR.cell
  have rF := hR.frozen
  gi_wp2
  have hK' := (KeepsOthers.setCell W ⟨w.heap.size + 1, 0, none⟩ (.int .i64 (-1))).same D _ hK rfl
  refine ⟨by simp, .inl ⟨_, _, rfl, run_takeDeferred hK', ?_⟩⟩
  have b := cell_kept (hR.set (.int .i64 (-1))).cell (grownBy_putObj' _ D (.deferred none)) (fun r e => by cases e; exact ⟨_, hK', rfl⟩)
  have hE := begin_none l a d f Hfa.out (fun i hi => hne _ (mem_uptoI (wayS hpos a (-1)) l.length i hi))
  refine ⟨.int .i64 (-1), ?_, by rw [hE], (hB.setCell (p := ⟨w.heap.size + 1, 0, none⟩) (Nat.le_succ _) _).trans (belowK_b (w := w) (Nat.le_refl _) _ D _ _ (by simp at hD; omega) hK' rfl rfl)⟩
  simp [results, Tryz.results86, go_sem, b]
 case stop =>
  rintro D c pre W hD ⟨k, hk, rfl⟩ ⟨⟨rfl, ini, last, g, h, m, hR⟩, hB⟩ hK
  gi_wp2
  refine ⟨by simp, .inl ⟨_, _, rfl, run_takeDeferred hK, ?_⟩⟩
  have b := cell_kept hR.cell (grownBy_putObj' _ D (.deferred none)) (fun r e => by cases e; exact ⟨_, hK, rfl⟩)
  obtain ⟨j, rfl, rfl, rfl⟩ := uptoI_last _ _ _ _ g
  have hE := begin_way l a d f Hfa.out j (by omega) m (fun i hi => h _ (mem_uptoI (wayS hpos a (-1)) j i hi))
  refine ⟨.int .i64 (wayI l.length a (-1) j), ?_, by rw [hE], hB.trans (belowK_b (w := w) (Nat.le_refl _) _ D _ _ (by simp at hD; omega) hK rfl rfl)⟩
  simp [results, Tryz.results86, go_sem, b]
  rfl

theorem guard3 {α : Type} {p q s : Prop} [Decidable p] [Decidable q] [Decidable s] {x r : α} (h : (if p then (if q then (if s then some x else none) else none) else none) = some r) : p ∧ q ∧ s ∧ x = r := by
 by_cases hp : p
 ·rw [if_pos hp] at h
  by_cases hq : q
  ·rw [if_pos hq] at h
   by_cases hs : s
   ·rw [if_pos hs] at h; exact ⟨hp, hq, hs, Option.some.inj h⟩
   ·rw [if_neg hs] at h; cases h
  ·rw [if_neg hq] at h; cases h
 ·rw [if_neg hp] at h; cases h

def field_Begin.f (b c : Int) (a : List (S47)) (d : Int) (e g : Bool) (a1 : Int) : Option Int := if a.length ≤ 16383 then (if 0 ≤ a1 then (if a1 < (a.length : Int) then (some (beginI a a1)) else (none)) else (none)) else (none)
theorem field_Begin.calls (c d : Int) (b : Option Addr) (k : Nat) (a : List (S47)) (g : Int) (i j : Bool) (a1 r : Int) (w : World) (m : Kd.C k47 w b a.length a) (l : a.length ≤ k) (h : field_Begin.f c d a g i j a1 = some r) :
  Calls Tryz.prog 86 #[.agg #[.int .i64 c, .int .i64 d, .slice b a.length k, .int .i64 g, .bool i, .bool j], .int .i64 a1] w fun e w' => e = .returned (.int .i64 r) ∧ Below w.heap.size w w' := by
 obtain ⟨hn, n, o, rfl⟩ := guard3 h
 cases hf : isF a a1 with
 | true => exact Begin_here c d b k a g i j a1 w m l n o hf
 | false => exact callsIn_wide.1 (Begin_loop c d b k a g i j a1 w m l hn n o hf)
end

/-! ### field_Of: function 70 -/
def field_Of.f (c d : Int) (b : List (S47)) (e : Int) (g h : Bool) (a1 : Int) : Option (Bool × Bool × Int × Bool) := (field_Begin.f c d b e g h a1).bind fun a => (if a < 0 then (some (false, false, 0, false)) else (if 0 ≤ a then (if a < (b.length : Int) then (some ((rd_T47 b a).f1.f0, (rd_T47 b a).f1.f1, (rd_T47 b a).f1.f2, (rd_T47 b a).f1.f3)) else (none)) else (none)))
theorem field_Of.calls (k l : Int) (v : Option Addr) (x : Nat) (b : List (S47)) (m : Int) (n o : Bool) (a1 : Int) (W X : Bool) (Y : Int) (r4 : Bool) (w : World) (R : Kd.C k47 w v b.length b) (Q : b.length ≤ x) (h : field_Of.f k l b m n o a1 = some (W, X, Y, r4)) :
  Calls Tryz.prog 70 #[.agg #[.int .i64 k, .int .i64 l, .slice v b.length x, .int .i64 m, .bool n, .bool o], .int .i64 a1] w fun e w' => e = .returned (.agg #[.bool W, .bool X, .int .i64 Y, .bool r4]) ∧ Below w.heap.size w w' := by
 have bg := Tryz.underlying24
 have bh := Tryz.underlying45
 have F := Z R
 have M := Z Q
 clear R Q
 have HB := Z (Below.refl w.heap.size w)
 unfold field_Of.f at h
 have H := h
 clear h
 replace H := bn_ H
 obtain ⟨a, A3, H⟩ := H
 by_cases c4 : a < 0
 ·rw [if_pos c4] at H
  have ac := decide_eq_true c4
  clear c4
  obtain ⟨rfl, rfl, rfl, rfl⟩ := ij4_ H
  go_enter Tryz.func70, Tryz.ntmps70
  go_wp2_with (first | ((with_reducible refine gD_ 2 rfl ?_); refine bx_ 2 24 #[.int .i64 k, .int .i64 l, .slice v b.length x, .int .i64 m, .bool n, .bool o] ?_; intro u hg w5 hbox hb; have c := Z hbox; have U := ln' w hg; replace HB := bs_ hb; clear hb hbox hg) | ((with_reducible refine gD_ 4 rfl ?_); refine bx_ 4 45 #[.bool false, .bool false, .int .i64 0, .bool false] ?_; intro p hg w6 hbox hb; have d := Z hbox; have V := ln' w hg; replace HB := bs_ hb; have q := nl' c hg; replace c := kb' c hb; clear hb hbox hg; have be := ns_ q; have aW := cells6 c.out) | ((with_reducible refine gF_ 86 rfl ?_); refine gd_ (some 8) Tryz.func86 (field_Begin.calls k l _ _ b m n o a1 a _ (cB_ F HB) M.out A3.out) ?_; rintro e w9 ⟨rfl, hb⟩; refine ⟨_, rfl, ?_⟩; replace c := kb' c hb; replace d := kb' d hb; replace HB := bs_ hb; (try clear hb); have ae := cells4 d.out))
  refine bodyPost_ret (results_cell_row rfl _ _ p 45 #[.bool false, .bool false, .int .i64 0, .bool false] (0, 0) _ rfl (by (with_reducible repeat apply pK); refine blk_put (cs := #[.bool false, .bool false, .int .i64 0, .bool false]) ?_ 3 _ rfl; (with_reducible repeat apply pK); refine blk_put (cs := #[.bool false, .bool false, .int .i64 0, .bool false]) ?_ 2 _ rfl; (with_reducible repeat apply pK); refine blk_put (cs := #[.bool false, .bool false, .int .i64 0, .bool false]) ?_ 1 _ rfl; (with_reducible repeat apply pK); refine blk_put (cs := #[.bool false, .bool false, .int .i64 0, .bool false]) ?_ 0 _ rfl; (with_reducible repeat apply pK); exact d.out) Tryz.underlying45 rfl (by kernel_rfl)) rfl ?_
  exact ⟨er_, bl_⟩
 rw [if_neg c4] at H
 have ac := decide_eq_false c4
 clear c4
 by_cases O : 0 ≤ a
 ·rw [if_pos O] at H
  have ba := decide_eq_true O
  clear O
  by_cases P : a < (b.length : Int)
  ·rw [if_pos P] at H
   have bb := decide_eq_true P
   clear P
   obtain ⟨rfl, rfl, rfl, rfl⟩ := ij4_ H
   go_enter Tryz.func70, Tryz.ntmps70
   go_wp2_with (first | ((with_reducible refine gD_ 2 rfl ?_); refine bx_ 2 24 #[.int .i64 k, .int .i64 l, .slice v b.length x, .int .i64 m, .bool n, .bool o] ?_; intro u hg bi hbox hb; have c := Z hbox; have U := ln' w hg; replace HB := bs_ hb; clear hb hbox hg) | ((with_reducible refine gD_ 4 rfl ?_); refine bx_ 4 45 #[.bool false, .bool false, .int .i64 0, .bool false] ?_; intro p hg bj hbox hb; have d := Z hbox; have V := ln' w hg; replace HB := bs_ hb; have q := nl' c hg; replace c := kb' c hb; clear hb hbox hg; have bc := ns_ q; have ai := cells6 c.out) | ((with_reducible refine gF_ 86 rfl ?_); refine gd_ (some 8) Tryz.func86 (field_Begin.calls k l _ _ b m n o a1 a _ (cB_ F HB) M.out A3.out) ?_; rintro e bk ⟨rfl, hb⟩; refine ⟨_, rfl, ?_⟩; replace c := kb' c hb; replace d := kb' d hb; replace HB := bs_ hb; (try clear hb); have ao := cells6 c.out; have K : 0 ≤ (a : Int) := od_; have L : a < (b.length : Int) := od_; obtain ⟨a9, ad, y, z, A, B, D, E⟩ := at_T47 F.out a K L; cases ad; replace y := hc_ HB y; replace z := hc_ HB z; replace A := hc_ HB A; replace B := hc_ HB B; replace D := hc_ HB D; replace E := hc_ HB E; replace K := eq_true K; replace L := eq_true L; have aw := cells4 d.out))
   refine bodyPost_ret (results_cell_row rfl _ _ p 45 #[.bool ((rd_T47 b a).f1.f0), .bool ((rd_T47 b a).f1.f1), .int .i64 ((rd_T47 b a).f1.f2), .bool ((rd_T47 b a).f1.f3)] (0, 0) _ rfl (by (with_reducible repeat apply pK); refine blk_put (cs := #[.bool ((rd_T47 b a).f1.f0), .bool ((rd_T47 b a).f1.f1), .int .i64 ((rd_T47 b a).f1.f2), .bool false]) ?_ 3 _ rfl; (with_reducible repeat apply pK); refine blk_put (cs := #[.bool ((rd_T47 b a).f1.f0), .bool ((rd_T47 b a).f1.f1), .int .i64 0, .bool false]) ?_ 2 _ rfl; (with_reducible repeat apply pK); refine blk_put (cs := #[.bool ((rd_T47 b a).f1.f0), .bool false, .int .i64 0, .bool false]) ?_ 1 _ rfl; (with_reducible repeat apply pK); refine blk_put (cs := #[.bool false, .bool false, .int .i64 0, .bool false]) ?_ 0 _ rfl; (with_reducible repeat apply pK); exact d.out) Tryz.underlying45 rfl (by kernel_rfl)) rfl ?_
   exact ⟨er_, bl_⟩
  rw [if_neg P] at H
  exact absurd H (by simp)
 rw [if_neg O] at H
 exact absurd H (by simp)

/-! ### field_Open: function 41 -/
def field_Open.f (c d : Int) (a : List (S47)) (e : Int) (g h : Bool) (a1 : Int) : Option (Bool) := if 0 ≤ a1 then (if a1 < (a.length : Int) then (if ((rd_T47 a a1).f0 = true) then (some false) else ((field_Of.f c d a e g h a1).bind fun b => (some (!b.1)))) else (none)) else (none)
theorem field_Open.calls (l m : Int) (A : Option Addr) (D : Nat) (a : List (S47)) (n : Int) (o p : Bool) (a1 : Int) (r : Bool) (w : World) (K : Kd.C k47 w A a.length a) (J : a.length ≤ D) (h : field_Open.f l m a n o p a1 = some r) :
  Calls Tryz.prog 41 #[.agg #[.int .i64 l, .int .i64 m, .slice A a.length D, .int .i64 n, .bool o, .bool p], .int .i64 a1] w fun e w' => e = .returned (.bool r) ∧ Below w.heap.size w w' := by
 have aA := Tryz.underlying24
 have aB := Tryz.underlying45
 have B := Z K
 have P := Z J
 clear K J
 have HB := Z (Below.refl w.heap.size w)
 unfold field_Open.f at h
 have H := h
 clear h
 obtain ⟨c3, H⟩ := gt_ H
 have ay := decide_eq_true c3
 clear c3
 obtain ⟨c4, H⟩ := gt_ H
 have az := decide_eq_true c4
 clear c4
 obtain ⟨S, I⟩ : ∃ b_ : Bool, b_ = ((rd_T47 a a1).f0) := ⟨_, rfl⟩
 replace H : (if (S = true) then (some false) else ((field_Of.f l m a n o p a1).bind fun v => (some (!v.1)))) = some r := by rw [← I] at H; exact H
 have k := Z I
 clear I
 by_cases c6 : (S = true)
 ·subst c6
  rw [if_pos rfl] at H
  obtain rfl := Option.some.inj H
  go_enter Tryz.func41, Tryz.ntmps41
  go_wp2_with (first | ((with_reducible refine gD_ 2 rfl ?_); refine bx_ 2 24 #[.int .i64 l, .int .i64 m, .slice A a.length D, .int .i64 n, .bool o, .bool p] ?_; intro x hg w7 hbox hb; have q := Z hbox; have O := ln' w hg; replace HB := bs_ hb; clear hb hbox hg; have aj := cells6 q.out; have s : 0 ≤ (a1 : Int) := od_; have u : a1 < (a.length : Int) := od_; obtain ⟨Q, G, b, c, d, i, g, j⟩ := at_T47 B.out a1 s u; (try rw [← k.out] at b); (try rw [← k.out] at c); (try rw [← k.out] at d); (try rw [← k.out] at g); cases G; replace b := hc_ HB b; replace c := hc_ HB c; replace d := hc_ HB d; replace i := hc_ HB i; replace g := hc_ HB g; replace j := hc_ HB j; replace s := eq_true s; replace u := eq_true u))
  go_ret
  exact ⟨er_, bl_⟩
 replace c6 := Bool.eq_false_iff.mpr c6
 subst c6
 rw [iF_] at H
 replace H := bn_ H
 obtain ⟨⟨L, T, U, V⟩, A9, H⟩ := H
 try dsimp only at H
 obtain rfl := Option.some.inj H
 go_enter Tryz.func41, Tryz.ntmps41
 go_wp2_with (first | ((with_reducible refine gD_ 2 rfl ?_); refine bx_ 2 24 #[.int .i64 l, .int .i64 m, .slice A a.length D, .int .i64 n, .bool o, .bool p] ?_; intro x hg aD hbox hb; have q := Z hbox; have O := ln' w hg; replace HB := bs_ hb; clear hb hbox hg; have W := cells6 q.out; have s : 0 ≤ (a1 : Int) := od_; have u : a1 < (a.length : Int) := od_; obtain ⟨Q, G, b, c, d, i, g, j⟩ := at_T47 B.out a1 s u; (try rw [← k.out] at b); (try rw [← k.out] at c); (try rw [← k.out] at d); (try rw [← k.out] at g); cases G; replace b := hc_ HB b; replace c := hc_ HB c; replace d := hc_ HB d; replace i := hc_ HB i; replace g := hc_ HB g; replace j := hc_ HB j; replace s := eq_true s; replace u := eq_true u) | (go_at_call 70; (with_reducible refine (field_Of.calls l m _ _ a n o p a1 L T U V _ ?side1 ?side2 A9.out).mono ?_); (case side1 => repeat (first | exact (Kd.C_below B.out HB.out) | (with_reducible apply pC))); (case side2 => exact P.out); rintro e aE ⟨rfl, hb⟩; replace q := kb' q hb; replace HB := bs_ hb; (try clear hb)))
 go_ret
 exact ⟨er_, bl_⟩

/-! ### grid_On: function 85 -/
def grid_On.f (b c : Int) (a : List (S47)) (d : Int) (e g : Bool) (a1 h : Int) : Option (Int) := if (a.length : Int) = 0 then (none) else (some (Int.tmod (wrap64 ((wrap64 (a1 + (Int.tmod h (a.length : Int)))) + (a.length : Int))) (a.length : Int)))
theorem grid_On.calls (c d : Int) (b : Option Addr) (k : Nat) (a : List (S47)) (g : Int) (i j : Bool) (a1 v r : Int) (w : World) (n : Kd.C k47 w b a.length a) (m : a.length ≤ k) (h : grid_On.f c d a g i j a1 v = some r) :
  Calls Tryz.prog 85 #[.agg #[.int .i64 c, .int .i64 d, .slice b a.length k, .int .i64 g, .bool i, .bool j], .int .i64 a1, .int .i64 v] w fun e w' => e = .returned (.int .i64 r) ∧ Below w.heap.size w w' := by
 have T := Tryz.underlying24
 have P := Z n
 have O := Z m
 clear n m
 have HB := Z (Below.refl w.heap.size w)
 unfold grid_On.f at h
 have H := h
 clear h
 obtain ⟨c4, H⟩ := gf_ H
 obtain ⟨Q, R⟩ := eF_ c4
 have S : ¬ (a = []) := fun h_ => c4 (by rw [h_]; rfl)
 obtain rfl := Option.some.inj H
 go_enter Tryz.func85, Tryz.ntmps85
 go_wp2_with (first | ((with_reducible refine gD_ 3 rfl ?_); refine bx_ 3 24 #[.int .i64 c, .int .i64 d, .slice b a.length k, .int .i64 g, .bool i, .bool j] ?_; intro l hg w5 hbox hb; have o := Z hbox; have M := ln' w hg; replace HB := bs_ hb; clear hb hbox hg; have x := cells6 o.out))
 go_ret
 exact ⟨er_, bl_⟩

end Go.Proofs.YtphboakgkmjpbaaGreatDoor.P
