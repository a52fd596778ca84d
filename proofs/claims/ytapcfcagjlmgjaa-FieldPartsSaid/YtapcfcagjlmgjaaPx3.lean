/- The functions of the seat's laws as plain Lean functions, and that Go's code comes to just their answers. Written by pp.py (wip/tools), a program of this session, on the kit's print. -/
import Derived.Test.YtapcfcagjlmgjaaPx0
namespace Go.Proofs.Ytapcfcagjlmgjaa.P
open Go.RowKit Go.Proofs.YtapcfcagjlmgjaaW.PrintWords Go.Proofs.YtapcfcagjlmgjaaW.PrintLast Go.Proofs.YtapcfcagjlmgjaaW.PrintMore
attribute [local go_sem] max2_int min2_int max_two min_two max_three min_three max_four min_four   -- for this text's walks alone
attribute [local go_sem] Instr.field asAgg
set_option linter.unusedVariables false
set_option linter.unusedSimpArgs false

section
open Go.Shelf
attribute [local go_sem] Oper.semAt_some

def onI (n : Nat) (a d : Int) : Int := (a + d) % (n : Int)
theorem onI_nonneg {n : Nat} (h : 0 < n) (a d : Int) : 0 ≤ onI n a d := Int.emod_nonneg _ (by omega)
theorem onI_lt {n : Nat} (h : 0 < n) (a d : Int) : onI n a d < n := Int.emod_lt_of_pos _ (by omega)

theorem on_eq (n : Nat) (h : 0 < n) (hn : n ≤ 16383) (a d : Int) (h0 : 0 ≤ a) (h1 : a < n) :
    Int.tmod (wrap64 ((wrap64 (a + (Int.tmod d (n : Int)))) + (n : Int))) (n : Int) = onI n a d := by
  have m0 := Int.lt_tmod_of_pos d (b := (n : Int)) (by omega)
  have m1 := Int.tmod_lt_of_pos d (b := (n : Int)) (by omega)
  have e1 : wrap64 (a + Int.tmod d n) = a + Int.tmod d n := by unfold wrap64; omega
  have e2 : wrap64 (a + Int.tmod d n + n) = a + Int.tmod d n + n := by unfold wrap64; omega
  rw [e1, e2, Int.tmod_eq_emod_of_nonneg (by omega), Int.tmod_def, onI]
  have e3 : a + (d - n * d.tdiv n) + n = a + d + n * (1 - d.tdiv n) := by rw [Int.mul_sub]; omega
  rw [e3, Int.add_mul_emod_self_left]

def sgnI (d : Int) : Int := if d < 0 then -1 else 1
def wayI (n : Nat) (a d : Int) (j : Nat) : Int := (a + d + sgnI d * j) % (n : Int)
theorem wayI_zero (n : Nat) (a d : Int) : wayI n a d 0 = onI n a d := by simp [wayI, onI]
theorem wayI_succ (n : Nat) (a d : Int) (j : Nat) : wayI n a d (j + 1) = onI n (wayI n a d j) (sgnI d) := by
  unfold wayI onI
  rw [Int.emod_add_emod]
  congr 1
  rw [Int.natCast_add, Int.mul_add]; simp; omega
theorem wayI_nonneg {n : Nat} (h : 0 < n) (a d : Int) (j : Nat) : 0 ≤ wayI n a d j := Int.emod_nonneg _ (by omega)
theorem wayI_lt {n : Nat} (h : 0 < n) (a d : Int) (j : Nat) : wayI n a d j < n := Int.emod_lt_of_pos _ (by omega)

def uptoI {α : Type} (f : Nat → α) (k : Nat) : List α := (List.range k).map f
theorem uptoI_succ {α : Type} (f : Nat → α) (k : Nat) : uptoI f (k + 1) = uptoI f k ++ [f k] := by simp [uptoI, List.range_succ]
theorem uptoI_length {α : Type} (f : Nat → α) (k : Nat) : (uptoI f k).length = k := by simp [uptoI]

set_option maxRecDepth 100000 in
set_option maxHeartbeats 1000000 in
theorem On_exact (r c : Int) (A : Option Addr) (n cp : Nat) (cu : Int) (lo ins : Bool) (a d : Int) (w : World) (h : 0 < n) (hn : n ≤ 16383) (h0 : 0 ≤ a) (h1 : a < n) :
    Calls Try.prog 41 #[.agg #[.int .i64 r, .int .i64 c, .slice A n cp, .int .i64 cu, .bool lo, .bool ins], .int .i64 a, .int .i64 d] w fun e w' => e = .returned (.int .i64 (onI n a d)) ∧ w' = w.alloc (.cells #[.int .i64 r, .int .i64 c, .slice A n cp, .int .i64 cu, .bool lo, .bool ins] 24) := by
  have hu24 := Try.underlying24
  have hz : ((n : Int) == 0) = false := by simp; omega
  have HE := on_eq n h hn a d h0 h1
  go_enter Try.func41, Try.ntmps41
  go_wp2
  go_ret
  exact ⟨rfl, rfl⟩

set_option maxRecDepth 100000 in
theorem Sign_exact (d : Int) (w : World) : Calls Try.prog 42 #[.int .i64 d] w fun e w' => e = .returned (.int .i64 (sgnI d)) ∧ w' = w := by
  by_cases hd : d < 0
  · have hdb : decide (d < 0) = true := decide_eq_true hd
    go_enter Try.func42, Try.ntmps42
    go_wp2
    go_ret
    exact ⟨by simp [sgnI, hd], rfl⟩
  · have hdb : decide (d < 0) = false := decide_eq_false hd
    go_enter Try.func42, Try.ntmps42
    go_wp2
    go_ret
    exact ⟨by simp [sgnI, hd], rfl⟩

abbrev Rng (n : Nat) := { x : Int // 0 ≤ x ∧ x < n }
def wayS {n : Nat} (h : 0 < n) (a d : Int) (j : Nat) : Rng n := ⟨wayI n a d j, wayI_nonneg h a d j, wayI_lt h a d j⟩

theorem abides_alloc {β : Type} {B : Nat} {J : β → World → Prop} (h : AbidesFrom B J) {s : β} {W : World} (o : Obj) (hs : J s W) : J s (W.alloc o) := h s W _ none hs (World.grownBy_alloc W o none) (fun r e => by cases e)
theorem abides_drew {β : Type} {B : Nat} {J : β → World → Prop} (h : AbidesFrom B J) {s : β} {W : World} (hs : J s W) : J s W.drew := h s W _ none hs ⟨rfl, rfl, rfl, Nat.le_refl _, fun _ _ _ => rfl⟩ (fun r e => by cases e)

/-- What an iterator of 'round' wants kept between two rounds: its three variables. -/
def Keep3 (b1 b2 b3 : Nat) (W W' : World) : Prop := W.heap.size ≤ W'.heap.size ∧ W'.heap[b1]? = W.heap[b1]? ∧ W'.heap[b2]? = W.heap[b2]? ∧ W'.heap[b3]? = W.heap[b3]?
theorem Keep3.refl (b1 b2 b3 : Nat) (W : World) : Keep3 b1 b2 b3 W W := ⟨Nat.le_refl _, rfl, rfl, rfl⟩
theorem Keep3.trans {b1 b2 b3 : Nat} {A B C : World} (h : Keep3 b1 b2 b3 A B) (k : Keep3 b1 b2 b3 B C) : Keep3 b1 b2 b3 A C := ⟨Nat.le_trans h.1 k.1, k.2.1.trans h.2.1, k.2.2.1.trans h.2.2.1, k.2.2.2.trans h.2.2.2⟩
theorem Keep3.below {b1 b2 b3 B : Nat} {W W' : World} (h : Below B W W') (h1 : b1 < B) (h2 : b2 < B) (h3 : b3 < B) : Keep3 b1 b2 b3 W W' := ⟨h.size, h.block _ h1, h.block _ h2, h.block _ h3⟩
theorem Keep3.put {b1 b2 b3 : Nat} {w : World} (h1 : b1 < w.heap.size) (h2 : b2 < w.heap.size) (h3 : b3 < w.heap.size) (W : World) (l : Nat) (o o' : Obj) (hl : w.heap.size ≤ l) (_ : W.heap[l]? = some o) (_ : o.isCells = false) (_ : o.isWalk = false) : Keep3 b1 b2 b3 W (W.putObj l o') :=
  ⟨by simp, World.putObj_heap_other (by omega), World.putObj_heap_other (by omega), World.putObj_heap_other (by omega)⟩

set_option maxRecDepth 100000 in
set_option maxHeartbeats 2000000 in
theorem round1_in (m : Nat) (hm : 1 ≤ m) (l Bs Ba Bb : Nat) (r c : Int) (A : Option Addr) (n cp : Nat) (cu : Int) (lo ins : Bool) (a d : Int) (h : 0 < n) (hn : n ≤ 16383) (h0 : 0 ≤ a) (h1 : a < n)
    (J Jx : List (Rng n) → World → Prop)
    (W : World) (hJ : AbidesFrom W.heap.size J)
    (hY : ∀ pre x W, J pre W → pre.length < n → YieldAt Fence.wide (m - 1) Try.prog l #[.int .i64 x.1] W fun e W' =>
      (e = .returned (.bool true) ∧ J (pre ++ [x]) W' ∧ Keep3 Bs Ba Bb W W') ∨ (e = .returned (.bool false) ∧ Jx (pre ++ [x]) W'))
    (hcs : W.heap[Bs]? = some (.cells #[.int .i64 r, .int .i64 c, .slice A n cp, .int .i64 cu, .bool lo, .bool ins] 24 (0, 0))) (hA : W.heap[Ba]? = some (.cells #[.int .i64 a] 3 (0, 0))) (hD : W.heap[Bb]? = some (.cells #[.int .i64 d] 3 (0, 0))) (hJ0 : J [] W) :
    CallsIn Fence.wide m Try.prog 40 #[.func (.yield l) #[] #[], .pointer (some ⟨Bs, 0, none⟩), .pointer (some ⟨Ba, 0, none⟩), .pointer (some ⟨Bb, 0, none⟩)] W fun e W' => (∃ v, e = .returned v) ∧
      ((∃ ys, ys = uptoI (wayS h a d) n ∧ J ys W') ∨ (∃ pre, (∃ k, k ≤ n ∧ pre = uptoI (wayS h a d) k) ∧ Jx pre W')) := by
  have hu24 := Try.underlying24
  have hca : W.cell? ⟨Ba, 0, none⟩ = some (.int .i64 a) := (blk_cell hA 0).trans rfl
  have hcb : W.cell? ⟨Bb, 0, none⟩ = some (.int .i64 d) := (blk_cell hD 0).trans rfl
  have hc0 : W.cell? ⟨Bs, 0, none⟩ = some (.int .i64 r) := by simp [World.cell?, hcs]
  have hc1 : W.cell? ⟨Bs, 1, none⟩ = some (.int .i64 c) := by simp [World.cell?, hcs]
  have hc2 : W.cell? ⟨Bs, 2, none⟩ = some (.slice A n cp) := by simp [World.cell?, hcs]
  have hc3 : W.cell? ⟨Bs, 3, none⟩ = some (.int .i64 cu) := by simp [World.cell?, hcs]
  have hc4 : W.cell? ⟨Bs, 4, none⟩ = some (.bool lo) := by simp [World.cell?, hcs]
  have hc5 : W.cell? ⟨Bs, 5, none⟩ = some (.bool ins) := by simp [World.cell?, hcs]
  refine callsIn_of_wp Try.func40 rfl trivial ?_ rfl
  simp only [Try.ntmps40, List.size_toArray, List.length_cons, List.length_nil, Nat.reduceAdd, Nat.reduceSub, Array.replicate_succ, Array.replicate_zero, List.push_toArray, List.append_toArray, List.nil_append, List.cons_append]
  have hbl : Keep3 Bs Ba Bb W (W.alloc (.cells #[.int .i64 r, .int .i64 c, .slice A n cp, .int .i64 cu, .bool lo, .bool ins] 24)) := Keep3.below (below_alloc (Below.refl _ _) _) (blk_lt hcs) (blk_lt hA) (blk_lt hD)
  have p2 : (W.alloc (.cells #[.int .i64 r, .int .i64 c, .slice A n cp, .int .i64 cu, .bool lo, .bool ins] 24)).cell? ⟨Bs, 2, none⟩ = some (.slice A n cp) := (blk_cell (blk_alloc hcs _) 2).trans rfl
  gi_wp2_with (refine ⟨trivial, ?_⟩; gi_at_call 41; refine (callsIn_wide.2 (On_exact r c A n cp cu lo ins a d _ h hn h0 h1)).mono ?_; rintro e w' ⟨rfl, rfl⟩)
  gi_loopw [5, 13] (fun p i wr => ∃ k : Nat, k ≤ n ∧ i = .int .i64 k ∧ p = .int .i64 (wayI n a d k) ∧ J (uptoI (wayS h a d) k) wr ∧ Keep3 Bs Ba Bb W wr)
    (fun _ i _ => n - (intOf i).toNat)
  case atStart => exact ⟨0, Nat.zero_le _, rfl, by rw [wayI_zero], abides_alloc hJ _ hJ0, hbl⟩
  case round =>
    obtain ⟨k, hk, rfl, rfl, hJs, hnx⟩ := hrel
    by_cases hlt : k < n
    · obtain ⟨fn, tmps, assign, body, hy, hR⟩ := hY _ (wayS h a d k) wr hJs (by rw [uptoI_length]; exact hlt)
      rw [show (wayS h a d k).1 = wayI n a d k from rfl] at hy
      gi_wp2
      refine hR.mono ?_
      rintro e W3 (⟨rfl, hJ3, hk3⟩ | ⟨rfl, hJx3⟩)
      · have hb3 := hnx.trans hk3
        have gs := hb3.2.1.trans hcs
        have g0 := (blk_cell gs 0).trans rfl
        have g1 := (blk_cell gs 1).trans rfl
        have g2 := (blk_cell gs 2).trans rfl
        have g3 := (blk_cell gs 3).trans rfl
        have g4 := (blk_cell gs 4).trans rfl
        have g5 := (blk_cell gs 5).trans rfl
        have gd := hb3.2.2.2.trans hD
        have gb := (blk_cell gd 0).trans rfl
        have ga := hb3.2.2.1.trans hA
        have hmx : Try.prog.follows .mixedOrders = true := by kernel_rfl
        have hs0 := wayI_nonneg h a d k
        have hs1 := wayI_lt h a d k
        gi_wp2
        gi_region_with_o (first
          | (refine ⟨trivial, ?_⟩; gi_at_call 42; refine (callsIn_wide.2 (Sign_exact _ _)).mono ?_; rintro e w' ⟨rfl, rfl⟩)
          | (refine ⟨trivial, ?_⟩; gi_at_call 41; refine (callsIn_wide.2 (On_exact r c A n cp cu lo ins _ _ _ h hn hs0 hs1)).mono ?_; rintro e w' ⟨rfl, rfl⟩))
        all_goals
          gi_wp2
          go_roundw
          case rel => exact ⟨k + 1, by omega, by go_num, by rw [wayI_succ], by rw [uptoI_succ]; exact abides_drew hJ (abides_alloc hJ _ hJ3), hb3.trans (Keep3.below (below_drew (below_alloc (Below.refl _ _) _)) (blk_lt gs) (blk_lt ga) (blk_lt gd))⟩
          case measure => simp [intOf]; omega
      · gi_wp2
        refine bodyPost_ret (results_none rfl _ _ _) rfl ?_
        exact ⟨⟨_, rfl⟩, .inr ⟨_, ⟨k + 1, by omega, (uptoI_succ _ _).symm⟩, hJx3⟩⟩
    · obtain rfl : k = n := by omega
      gi_wp2
      go_end0
      exact ⟨⟨_, rfl⟩, .inl ⟨_, rfl, hJs⟩⟩

set_option maxRecDepth 100000 in
theorem Round_exact (r c : Int) (A : Option Addr) (n cp : Nat) (cu : Int) (lo ins : Bool) (a d : Int) (w : World) :
    Calls Try.prog 33 #[.agg #[.int .i64 r, .int .i64 c, .slice A n cp, .int .i64 cu, .bool lo, .bool ins], .int .i64 a, .int .i64 d] w fun e w' => e = .returned (.func (.func 40) #[] #[.pointer (some ⟨w.heap.size, 0, none⟩), .pointer (some ⟨w.heap.size + 1, 0, none⟩), .pointer (some ⟨w.heap.size + 1 + 1, 0, none⟩)]) ∧ w' = ((w.alloc (.cells #[.int .i64 r, .int .i64 c, .slice A n cp, .int .i64 cu, .bool lo, .bool ins] 24)).alloc (.cells #[.int .i64 a] 3)).alloc (.cells #[.int .i64 d] 3) := by
  have hu24 := Try.underlying24
  go_enter Try.func33, Try.ntmps33
  go_wp2
  go_ret
  exact ⟨rfl, rfl⟩

/-- The iterator that 'round' hands back, at a world behind its making. -/
theorem round_stops (m : Nat) (hm : 1 ≤ m) (Bs Ba Bb : Nat) (r c : Int) (A : Option Addr) (n cp : Nat) (cu : Int) (lo ins : Bool) (a d : Int) (h : 0 < n) (hn : n ≤ 16383) (h0 : 0 ≤ a) (h1 : a < n)
    (w : World) (hcs : w.heap[Bs]? = some (.cells #[.int .i64 r, .int .i64 c, .slice A n cp, .int .i64 cu, .bool lo, .bool ins] 24 (0, 0))) (hA : w.heap[Ba]? = some (.cells #[.int .i64 a] 3 (0, 0))) (hD : w.heap[Bb]? = some (.cells #[.int .i64 d] 3 (0, 0))) :
    SeqStopsK Fence.wide m Try.prog 40 #[.pointer (some ⟨Bs, 0, none⟩), .pointer (some ⟨Ba, 0, none⟩), .pointer (some ⟨Bb, 0, none⟩)] (fun x : Rng n => #[Value.int .i64 x.1]) (Keep3 Bs Ba Bb) (fun ys => ys = uptoI (wayS h a d) n) (fun pre => ∃ k, k ≤ n ∧ pre = uptoI (wayS h a d) k) n w := fun l J Jx W hW hJ _ hY hJ0 =>
  round1_in m hm l Bs Ba Bb r c A n cp cu lo ins a d h hn h0 h1 J Jx W hJ hY (blk_below hcs hW) (blk_below hA hW) (blk_below hD hW) hJ0

theorem infoInt : (Try.prog.info? 3).map (fun i => (i.zero, i.size, i.bytes)) = some (some (.int .i64 0), 1, 8) := by kernel_rfl
end

/-! ### field_Formatted: function 11 -/
section
open Go.Shelf
/-- the first place of a list at which something holds, as Go tells it -/
def indexL {α : Type} (p : α → Bool) : List α → Int → Int
  | [], _ => -1
  | x :: xs, i => if p x = true then i else indexL p xs (i + 1)
theorem indexL_drop {α : Type} (p : α → Bool) (l : List α) (k : Nat) (hk : k < l.length) : indexL p (l.drop k) k = if p l[k] = true then (k : Int) else indexL p (l.drop (k + 1)) ((k + 1 : Nat) : Int) := by
  rw [List.drop_eq_getElem_cons hk, indexL]; rfl

theorem rd_getElem (l : List S39) (k : Nat) (hk : k < l.length) : rd_T39 l (k : Int) = l[k] := by
  unfold rd_T39; rw [Int.toNat_natCast]; simp [List.getD, hk]

theorem indexL_ge {α : Type} (p : α → Bool) : ∀ (l : List α) (i : Int), 0 ≤ i → (indexL p l i ≥ 0 ↔ l.any p = true)
  | [], i, h => by simp [indexL]
  | x :: xs, i, h => by
    unfold indexL
    by_cases hx : p x = true
    · rw [if_pos hx]; simp [hx]; exact h
    · rw [if_neg hx, indexL_ge p xs (i + 1) (by omega)]; simp [hx]

abbrev aggC (x : S39) : Value := .agg #[.bool x.f0, .bool x.f1.f0, .bool x.f1.f1, .int .i64 x.f1.f2, .bool x.f1.f3, .int .u8 x.f2]

set_option maxRecDepth 100000 in
set_option maxHeartbeats 4000000 in
theorem IndexFunc_cells (A : Option Addr) (cp : Nat) (l : List S39) (g : Nat) (lb : Array Value) (p : S39 → Bool) (w : World) (hr : Kd.C k39 w A l.length l) (hc : l.length ≤ cp) (hn : l.length ≤ 16383) (eg : ∀ args W, (callFunc g args).run Try.prog W = .ok (.enter g args) W)
    (hp : ∀ W, Below w.heap.size w W → ∀ x, x ∈ l → Calls Try.prog g (#[aggC x] ++ lb) W fun e w' => e = .returned (.bool (p x)) ∧ Below W.heap.size W w') :
    Calls Try.prog 39 #[.slice A l.length cp, .func (.func g) #[] lb] w fun e w' => e = .returned (.int .i64 (indexL p l 0)) ∧ Below w.heap.size w w' := by
  have hu39 := Try.underlying39
  have HR := Aside0.mk hr
  have HP := Aside0.mk hp
  clear hr hp
  have HB0 := Aside0.mk (Below.refl w.heap.size w)
  go_enter Try.func39, Try.ntmps39
  go_wp2
  go_loopw [8] (fun i wr => ∃ k : Nat, k ≤ l.length ∧ i = .int .i64 k ∧ Aside0 (indexL p (l.drop k) k = indexL p l 0) ∧ Aside0 (Below w.heap.size w wr)) (fun i _ => l.length - (intOf i).toNat)
  case atStart => exact ⟨0, Nat.zero_le _, rfl, ⟨rfl⟩, HB0⟩
  case round =>
    obtain ⟨k, hk, rfl, hI, hB⟩ := hrel
    by_cases hlt : k < l.length
    · obtain ⟨ad, e', c0, c1, c2, c3, c4, c5⟩ := at_T39 HR.out k (by omega) (by omega)
      have hlt' := World.block_lt_of_cell? w _ c0
      replace c0 := (hB.out.cell (World.block_lt_of_cell? w _ c0)).trans c0
      replace c1 := (hB.out.cell (World.block_lt_of_cell? w _ c1)).trans c1
      replace c2 := (hB.out.cell (World.block_lt_of_cell? w _ c2)).trans c2
      replace c3 := (hB.out.cell (World.block_lt_of_cell? w _ c3)).trans c3
      replace c4 := (hB.out.cell (World.block_lt_of_cell? w _ c4)).trans c4
      replace c5 := (hB.out.cell (World.block_lt_of_cell? w _ c5)).trans c5
      rw [rd_getElem l k hlt] at c0 c1 c2 c3 c4 c5
      rw [Int.toNat_natCast] at c0 c1 c2 c3 c4 c5
      subst e'
      have hC := HP.out wr hB.out l[k] (List.getElem_mem hlt)
      have hD := indexL_drop p l k hlt
      cases hpx : p l[k] with
      | true =>
        rw [hpx] at hC hD
        have HC := Aside0.mk hC
        have HD := Aside0.mk (hI.out.symm.trans hD)
        clear hC hD hI
        go_wp2_with (refine HC.out.mono ?_; rintro e w' ⟨rfl, hb⟩)
        go_ret
        exact ⟨by rw [HD.out]; rfl, below_step hB.out hb⟩
      | false =>
        rw [hpx] at hC hD
        have HC := Aside0.mk hC
        have HD := Aside0.mk (hD.symm.trans hI.out)
        clear hC hD hI
        go_wp2_with (refine HC.out.mono ?_; rintro e w' ⟨rfl, hb⟩)
        go_roundw
        case rel => exact ⟨k + 1, by omega, by go_num, HD, ⟨below_step hB.out hb⟩⟩
        case measure => simp [intOf]; omega
    · obtain rfl : k = l.length := by omega
      go_wp2
      go_ret
      have e := hI.out
      rw [List.drop_length] at e
      exact ⟨by rw [← e]; rfl, hB.out⟩

set_option maxRecDepth 100000 in
set_option maxHeartbeats 4000000 in
theorem ContainsFunc_cells (A : Option Addr) (cp : Nat) (l : List S39) (g : Nat) (lb : Array Value) (p : S39 → Bool) (w : World) (hr : Kd.C k39 w A l.length l) (hc : l.length ≤ cp) (hn : l.length ≤ 16383) (eg : ∀ args W, (callFunc g args).run Try.prog W = .ok (.enter g args) W)
    (hp : ∀ W, Below w.heap.size w W → ∀ x, x ∈ l → Calls Try.prog g (#[aggC x] ++ lb) W fun e w' => e = .returned (.bool (p x)) ∧ Below W.heap.size W w') :
    Calls Try.prog 31 #[.slice A l.length cp, .func (.func g) #[] lb] w fun e w' => e = .returned (.bool (l.any p)) ∧ Below w.heap.size w w' := by
  have HF := Aside0.mk (IndexFunc_cells A cp l g lb p w hr hc hn eg hp)
  have HD : decide (indexL p l 0 ≥ 0) = l.any p := by
    have := indexL_ge p l 0 (Int.le_refl _)
    cases h : l.any p
    · rw [h] at this; simp at this; exact decide_eq_false (by omega)
    · rw [h] at this; simp at this; exact decide_eq_true this
  have HD' := Aside0.mk HD
  clear HD hr hp eg
  go_enter Try.func31, Try.ntmps31
  go_wp2_with (go_at_call 39; refine HF.out.mono ?_; rintro e w' ⟨rfl, hb⟩)
  go_ret
  exact ⟨by rw [← HD'.out]; rfl, hb⟩

set_option maxRecDepth 100000 in
set_option maxHeartbeats 4000000 in
theorem Formatted1_calls (x : S39) (w : World) : Calls Try.prog 32 #[aggC x] w fun e w' => e = .returned (.bool x.f0) ∧ Below w.heap.size w w' := by
  have hu39 := Try.underlying39
  go_enter Try.func32, Try.ntmps32
  go_wp2
  go_ret
  exact ⟨rfl, below_alloc (Below.refl _ _) _⟩

def formattedI (l : List S39) : Bool := l.any fun x => x.f0
def field_Formatted.f (a0_0 : Int) (a0_1 : Int) (l0_2 : List (S39)) (a0_3 : Int) (a0_4 : Bool) (a0_5 : Bool) : Option Bool := if l0_2.length ≤ 16383 then (some (formattedI l0_2)) else (none)
set_option maxRecDepth 100000 in
set_option maxHeartbeats 4000000 in
theorem field_Formatted.calls (a0_0 : Int) (a0_1 : Int) (A0_2 : Option Addr) (c0_2 : Nat) (l0_2 : List (S39)) (a0_3 : Int) (a0_4 : Bool) (a0_5 : Bool) (r : Bool) (w : World) (hr0_2 : Kd.C k39 w A0_2 l0_2.length l0_2) (hc0_2 : l0_2.length ≤ c0_2) (h : field_Formatted.f a0_0 a0_1 l0_2 a0_3 a0_4 a0_5 = some r) :
    Calls Try.prog 11 #[.agg #[.int .i64 a0_0, .int .i64 a0_1, .slice A0_2 l0_2.length c0_2, .int .i64 a0_3, .bool a0_4, .bool a0_5]] w fun e w' => e = .returned (.bool r) ∧ Below w.heap.size w w' := by
  obtain ⟨hn, rfl⟩ : l0_2.length ≤ 16383 ∧ formattedI l0_2 = r := by
    unfold field_Formatted.f at h
    by_cases hn : l0_2.length ≤ 16383
    · rw [if_pos hn] at h; exact ⟨hn, Option.some.inj h⟩
    · rw [if_neg hn] at h; cases h
  clear h
  have hu24 := Try.underlying24
  have HB := Aside0.mk (below_alloc (Below.refl w.heap.size w) (.cells #[.int .i64 a0_0, .int .i64 a0_1, .slice A0_2 l0_2.length c0_2, .int .i64 a0_3, .bool a0_4, .bool a0_5] 24))
  have HF := Aside0.mk (ContainsFunc_cells A0_2 c0_2 l0_2 32 #[] (fun x => x.f0) _ (Kd.C_below hr0_2 HB.out) hc0_2 hn (enters_of Try.func32 (by kernel_rfl) rfl) (fun W _ x _ => Formatted1_calls x W))
  clear hr0_2
  go_enter Try.func11, Try.ntmps11
  go_wp2_with (go_at_call 31; refine HF.out.mono ?_; rintro e w' ⟨rfl, hb⟩)
  go_ret
  exact ⟨rfl, below_step HB.out hb⟩
end

/-! ### field_Begin: function 13 -/
section
open Go.Shelf
attribute [local go_sem] Oper.semAt_some

def isF (l : List S39) (i : Int) : Bool := (rd_T39 l i).f0
def findW (p : Int → Bool) (g : Nat → Int) : Nat → Nat → Int
  | 0, _ => -1
  | c + 1, s => if p (g s) = true then g s else findW p g c (s + 1)
theorem findW_eq (p : Int → Bool) (g : Nat → Int) : ∀ c s j, s ≤ j → j < s + c → p (g j) = true → (∀ i, s ≤ i → i < j → p (g i) = false) → findW p g c s = g j
  | 0, s, j, h1, h2, _, _ => by omega
  | c + 1, s, j, h1, h2, hp, hn => by
    unfold findW
    by_cases e : s = j
    · subst e; rw [if_pos hp]
    · rw [if_neg (by rw [hn s (Nat.le_refl _) (by omega)]; decide)]
      exact findW_eq p g c (s + 1) j (by omega) (by omega) hp (fun i a b => hn i (by omega) b)
theorem findW_none (p : Int → Bool) (g : Nat → Int) : ∀ c s, (∀ i, s ≤ i → i < s + c → p (g i) = false) → findW p g c s = -1
  | 0, s, _ => rfl
  | c + 1, s, hn => by
    unfold findW
    rw [if_neg (by rw [hn s (Nat.le_refl _) (by omega)]; decide)]
    exact findW_none p g c (s + 1) (fun i a b => hn i (by omega) (by omega))
theorem findW_cases (p : Int → Bool) (g : Nat → Int) : ∀ c s, (findW p g c s = -1 ∧ ∀ i, s ≤ i → i < s + c → p (g i) = false) ∨ ∃ j, s ≤ j ∧ j < s + c ∧ p (g j) = true ∧ (∀ i, s ≤ i → i < j → p (g i) = false) ∧ findW p g c s = g j
  | 0, s => .inl ⟨rfl, fun i a b => by omega⟩
  | c + 1, s => by
    unfold findW
    by_cases e : p (g s) = true
    · exact .inr ⟨s, Nat.le_refl _, by omega, e, fun i a b => by omega, by rw [if_pos e]⟩
    · rw [if_neg e]
      rcases findW_cases p g c (s + 1) with ⟨h1, h2⟩ | ⟨j, h1, h2, h3, h4, h5⟩
      · exact .inl ⟨h1, fun i a b => by
          by_cases ei : i = s
          · subst ei; simpa using e
          · exact h2 i (by omega) (by omega)⟩
      · exact .inr ⟨j, by omega, by omega, h3, fun i a b => by
          by_cases ei : i = s
          · subst ei; simpa using e
          · exact h4 i (by omega) b, h5⟩

/-- where the field begins that a cell lies in -/
def beginI (l : List S39) (a : Int) : Int := findW (isF l) (fun j => (a - j) % (l.length : Int)) l.length 0

theorem begin_here (l : List S39) (a : Int) (h0 : 0 ≤ a) (h1 : a < l.length) (h : isF l a = true) : beginI l a = a := by
  have e : (a - ((0 : Nat) : Int)) % (l.length : Int) = a := by simp; exact Int.emod_eq_of_lt h0 h1
  have := findW_eq (isF l) (fun j => (a - j) % (l.length : Int)) l.length 0 0 (by omega) (by omega) (by show isF l ((a - ((0 : Nat) : Int)) % (l.length : Int)) = true; rw [e]; exact h) (fun i a b => by omega)
  rw [beginI, this]; exact e
theorem way_back (n : Nat) (a : Int) (j : Nat) : wayI n a (-1) j = (a - ((j + 1 : Nat) : Int)) % (n : Int) := by
  unfold wayI sgnI; simp; congr 1; omega
theorem begin_way (l : List S39) (a : Int) (h0 : 0 ≤ a) (h1 : a < l.length) (h : isF l a = false) (k : Nat) (hk : k < l.length) (hp : isF l (wayI l.length a (-1) k) = true) (hn : ∀ i, i < k → isF l (wayI l.length a (-1) i) = false) : beginI l a = wayI l.length a (-1) k := by
  have hkn : k + 1 < l.length := by
    rcases Nat.lt_or_ge (k + 1) l.length with h' | h'
    · exact h'
    · have ek : k + 1 = l.length := by omega
      have : wayI l.length a (-1) k = a := by
        rw [way_back, ek, Int.sub_emod_right]; exact Int.emod_eq_of_lt h0 h1
      rw [this, h] at hp; exact absurd hp (by decide)
  have := findW_eq (isF l) (fun j => (a - j) % (l.length : Int)) l.length 0 (k + 1) (by omega) (by omega) (by show isF l ((a - ((k + 1 : Nat) : Int)) % (l.length : Int)) = true; rw [← way_back]; exact hp) (fun i _ b => by
    show isF l ((a - (i : Int)) % (l.length : Int)) = false
    rcases i with _ | i
    · simp; rw [Int.emod_eq_of_lt h0 h1]; exact h
    · rw [← way_back]; exact hn i (by omega))
  rw [beginI, this]; exact (way_back _ _ _).symm
theorem begin_none (l : List S39) (a : Int) (h0 : 0 ≤ a) (h1 : a < l.length) (h : isF l a = false) (hn : ∀ i, i < l.length → isF l (wayI l.length a (-1) i) = false) : beginI l a = -1 := by
  refine findW_none _ _ _ _ (fun i _ b => ?_)
  show isF l ((a - (i : Int)) % (l.length : Int)) = false
  rcases i with _ | i
  · simp; rw [Int.emod_eq_of_lt h0 h1]; exact h
  · rw [← way_back]; exact hn i (by omega)

theorem cell_f0 {w : World} {A : Option Addr} {l : List S39} (hr : Kd.C k39 w A l.length l) (i : Int) (h0 : 0 ≤ i) (h1 : i < l.length) : ∃ ad, A = some ad ∧ w.cell? (ad.add (i.toNat * 6)) = some (.bool (isF l i)) ∧ (ad.add (i.toNat * 6)).block < w.heap.size := by
  obtain ⟨ad, e, h, _⟩ := at_T39 hr i h0 h1
  exact ⟨ad, e, h, World.block_lt_of_cell? w _ h⟩

set_option maxRecDepth 100000 in
set_option maxHeartbeats 2000000 in
theorem Begin_here (r c : Int) (A : Option Addr) (cp : Nat) (l : List S39) (cu : Int) (lo ins : Bool) (a : Int) (w : World) (hr : Kd.C k39 w A l.length l) (hc : l.length ≤ cp) (h0 : 0 ≤ a) (h1 : a < l.length) (hf : isF l a = true) :
    Calls Try.prog 13 #[.agg #[.int .i64 r, .int .i64 c, .slice A l.length cp, .int .i64 cu, .bool lo, .bool ins], .int .i64 a] w fun e w' => e = .returned (.int .i64 (beginI l a)) ∧ Below w.heap.size w w' := by
  have hb := begin_here l a h0 h1 hf
  rw [hb]
  obtain ⟨ad, rfl, hcell, hlt⟩ := cell_f0 hr a h0 h1
  rw [hf] at hcell
  clear hf hb
  have hu24 := Try.underlying24
  have hu39 := Try.underlying39
  go_enter Try.func13, Try.ntmps13
  go_wp2
  refine bodyPost_ret (v := .int .i64 a) (by simp [results, Try.results13, go_sem]) rfl ⟨rfl, ?_⟩
  exact ((Below.refl _ w).alloc (Nat.le_refl _) _).alloc (by simp) _

theorem uptoI_last {α : Type} (f : Nat → α) (k : Nat) (ini : List α) (x : α) (h : uptoI f k = ini ++ [x]) : ∃ j, k = j + 1 ∧ ini = uptoI f j ∧ x = f j := by
  rcases k with _ | j
  · simp [uptoI] at h
  · rw [uptoI_succ] at h
    obtain ⟨e1, e2⟩ := List.append_inj' h rfl
    exact ⟨j, rfl, e1.symm, by simpa using e2.symm⟩
theorem mem_uptoI {α : Type} (f : Nat → α) (k j : Nat) (h : j < k) : f j ∈ uptoI f k := by
  simp only [uptoI, List.mem_map, List.mem_range]; exact ⟨j, h, rfl⟩

set_option maxRecDepth 100000 in
set_option maxHeartbeats 4000000 in
theorem Begin_loop (r c : Int) (A : Option Addr) (cp : Nat) (l : List S39) (cu : Int) (lo ins : Bool) (a : Int) (w : World) (hr : Kd.C k39 w A l.length l) (hc : l.length ≤ cp) (hn : l.length ≤ 16383) (h0 : 0 ≤ a) (h1 : a < l.length) (hf : isF l a = false) :
    CallsIn Fence.wide 5 Try.prog 13 #[.agg #[.int .i64 r, .int .i64 c, .slice A l.length cp, .int .i64 cu, .bool lo, .bool ins], .int .i64 a] w fun e w' => e = .returned (.int .i64 (beginI l a)) ∧ Below w.heap.size w w' := by
  have hpos : 0 < l.length := by omega
  obtain ⟨ad, rfl, hcell, hlt⟩ := cell_f0 hr a h0 h1
  have Hfa := Aside0.mk hf
  rw [hf] at hcell
  clear hf
  have hu24 := Try.underlying24
  have hu39 := Try.underlying39
  refine callsIn_of_wp_marks Try.func13 rfl trivial ?_ rfl
  simp only [Try.ntmps13, List.size_toArray, List.length_cons, List.length_nil, Nat.reduceAdd, Nat.reduceSub, Array.replicate_succ, Array.replicate_zero, List.push_toArray, List.append_toArray, List.nil_append, List.cons_append]
  gi_wp2_with (refine ⟨trivial, ?_⟩; gi_at_call 33; refine (callsIn_wide.2 (Round_exact r c _ _ cp cu lo ins a (-1) _)).mono ?_; rintro e w' ⟨rfl, rfl⟩)
  have hB0 : Below w.heap.size w (((((w.alloc (.cells #[.int .i64 r, .int .i64 c, .slice (some ad) l.length cp, .int .i64 cu, .bool lo, .bool ins] 24)).alloc (.cells #[.int .i64 0] 3)).alloc (.cells #[.int .i64 r, .int .i64 c, .slice (some ad) l.length cp, .int .i64 cu, .bool lo, .bool ins] 24)).alloc (.cells #[.int .i64 a] 3)).alloc (.cells #[.int .i64 (-1)] 3)) :=
    (((((Below.refl _ w).alloc (Nat.le_refl _) _).alloc (by simp) _).alloc (by simp; omega) _).alloc (by simp; omega) _).alloc (by simp; omega) _
  have k1 := blk_new w (.cells #[.int .i64 r, .int .i64 c, .slice (some ad) l.length cp, .int .i64 cu, .bool lo, .bool ins] 24)
  have k2 := blk_new (w.alloc (.cells #[.int .i64 r, .int .i64 c, .slice (some ad) l.length cp, .int .i64 cu, .bool lo, .bool ins] 24)) (.cells #[.int .i64 0] 3)
  have k3 := blk_new ((w.alloc (.cells #[.int .i64 r, .int .i64 c, .slice (some ad) l.length cp, .int .i64 cu, .bool lo, .bool ins] 24)).alloc (.cells #[.int .i64 0] 3)) (.cells #[.int .i64 r, .int .i64 c, .slice (some ad) l.length cp, .int .i64 cu, .bool lo, .bool ins] 24)
  have k4 := blk_new (((w.alloc (.cells #[.int .i64 r, .int .i64 c, .slice (some ad) l.length cp, .int .i64 cu, .bool lo, .bool ins] 24)).alloc (.cells #[.int .i64 0] 3)).alloc (.cells #[.int .i64 r, .int .i64 c, .slice (some ad) l.length cp, .int .i64 cu, .bool lo, .bool ins] 24)) (.cells #[.int .i64 a] 3)
  have k5 := blk_new ((((w.alloc (.cells #[.int .i64 r, .int .i64 c, .slice (some ad) l.length cp, .int .i64 cu, .bool lo, .bool ins] 24)).alloc (.cells #[.int .i64 0] 3)).alloc (.cells #[.int .i64 r, .int .i64 c, .slice (some ad) l.length cp, .int .i64 cu, .bool lo, .bool ins] 24)).alloc (.cells #[.int .i64 a] 3)) (.cells #[.int .i64 (-1)] 3)
  simp only [World.size_alloc] at k2 k3 k4 k5
  refine wpIn_rangeFunc_ownG rfl (by omega) (gf := 40) (lb := #[.pointer (some ⟨w.heap.size + 1 + 1, 0, none⟩), .pointer (some ⟨w.heap.size + 1 + 1 + 1, 0, none⟩), .pointer (some ⟨w.heap.size + 1 + 1 + 1 + 1, 0, none⟩)]) rfl trivial (enters_of Try.func40 (by kernel_rfl) rfl)
    (round_stops 4 (by omega) (w.heap.size + 1 + 1) (w.heap.size + 1 + 1 + 1) (w.heap.size + 1 + 1 + 1 + 1) r c (some ad) l.length cp cu lo ins a (-1) hpos hn h0 h1 _ (blk_alloc (blk_alloc k3 _) _) (blk_alloc k4 _) k5) Keep3.trans (Keep3.put (by simp) (by simp) (by simp)) (Below.refl _ _) (fun _ => rfl)
    (fun pre W => ((∀ x ∈ pre, isF l x.1 = false) ∧ W.heap[w.heap.size]? = some (.cells #[.int .i64 r, .int .i64 c, .slice (some ad) l.length cp, .int .i64 cu, .bool lo, .bool ins] 24 (0, 0)) ∧ Boxed W (w.heap.size + 1) 3 (.int .i64 0)) ∧ Below w.heap.size w W)
    (fun c pre W => (c = .ret ∧ ∃ ini last, pre = ini ++ [last] ∧ (∀ x ∈ ini, isF l x.1 = false) ∧ isF l last.1 = true ∧ Boxed W (w.heap.size + 1) 3 (.int .i64 last.1)) ∧ Below w.heap.size w W)
    (OwnFrom.and (Own.from (fun s A B row hs hg hr => ⟨hs.1, (grownBy_keeps_cells hg hr hs.2.1 rfl).trans hs.2.1, (grownBy_keeps_cells hg hr hs.2.2 rfl).trans hs.2.2⟩) _) (ownFrom_below (Nat.le_refl _) (by simp; omega)))
    (fun c => OwnFrom.and (Own.from (fun s A B row hs hg hr => by obtain ⟨hc, ini, last, e1, e2, e3, e4⟩ := hs; exact ⟨hc, ini, last, e1, e2, e3, (grownBy_keeps_cells hg hr e4 rfl).trans e4⟩) _) (ownFrom_below (Nat.le_refl _) (by simp; omega)))
    ⟨⟨by simp, blk_alloc (blk_alloc (blk_alloc (blk_alloc k1 _) _) _) _, blk_alloc (blk_alloc (blk_alloc k2 _) _) _⟩, hB0⟩
    (fun x => { tmps := #[.agg #[.int .i64 r, .int .i64 c, .slice (some ad) l.length cp, .int .i64 cu, .bool lo, .bool ins], .int .i64 a, .pointer (some ⟨w.heap.size, 0, none⟩), undef, .pointer (some ⟨w.heap.size + 1, 0, none⟩), .int .i64 x.1, .pointer (some ⟨w.heap.size, 2, none⟩), .slice (some ad) l.length cp, .int .i64 a, .pointer (some (ad.add (a.toNat * 6))), .pointer (some (ad.add (a.toNat * 6))), .bool false, undef, .agg #[.int .i64 r, .int .i64 c, .slice (some ad) l.length cp, .int .i64 cu, .bool lo, .bool ins], .int .i64 a, .func (.func 40) #[] #[.pointer (some ⟨w.heap.size + 1 + 1, 0, none⟩), .pointer (some ⟨w.heap.size + 1 + 1 + 1, 0, none⟩), .pointer (some ⟨w.heap.size + 1 + 1 + 1 + 1, 0, none⟩)], .int .i64 x.1, undef, undef, undef, undef, undef, undef, undef], defers := [] }) ?assign ?body ?done ?stop
  case assign =>
    intro l x W K hK
    gi_wp2
    exact hK
  case body =>
    rintro lp pre x W ⟨⟨hp, hS, hR⟩, hB⟩ _
    obtain ⟨ad', e', hcx, hltx⟩ := cell_f0 hr x.1 x.2.1 x.2.2
    cases e'
    have hcW := (hB.cell hltx).trans hcx
    have s2 := (blk_cell hS 2).trans rfl
    have x0 := x.2.1
    have x1 := x.2.2
    have rC := hR.cell
    have rF := hR.frozen
    cases hfx : isF l x.1 with
    | true =>
      rw [hfx] at hcW
      gi_wp2
      exact ⟨(KeepsOthers.setCell _ _ _).from _, ⟨rfl, pre, x, rfl, hp, hfx, hR.set _⟩, hB.setCell (p := ⟨w.heap.size + 1, 0, none⟩) (Nat.le_succ _) _⟩
    | false =>
      rw [hfx] at hcW
      gi_wp2
      exact ⟨KeepsFrom.refl _ _, Keep3.refl _ _ _ _, ⟨fun y hy => (List.mem_append.1 hy).elim (hp y) (fun e => by simp at e; subst e; exact hfx), hS, hR⟩, hB⟩
  case done =>
    rintro D ys W hD rfl ⟨⟨hne, hS, hR⟩, hB⟩ hK
    have rC := hR.cell
    have rF := hR.frozen
    gi_wp2
    have hK' := (KeepsOthers.setCell W ⟨w.heap.size + 1, 0, none⟩ (.int .i64 (-1))).same D _ hK rfl
    refine ⟨by simp, .inl ⟨_, _, rfl, run_takeDeferred hK', ?_⟩⟩
    have hc5 := cell_kept (hR.set (.int .i64 (-1))).cell (grownBy_putObj' _ D (.deferred none)) (fun r e => by cases e; exact ⟨_, hK', rfl⟩)
    have hE := begin_none l a h0 h1 Hfa.out (fun i hi => hne _ (mem_uptoI (wayS hpos a (-1)) l.length i hi))
    refine ⟨.int .i64 (-1), ?_, by rw [hE], (hB.setCell (p := ⟨w.heap.size + 1, 0, none⟩) (Nat.le_succ _) _).trans (belowK_b (w := w) (Nat.le_refl _) _ D _ _ (by simp at hD; omega) hK' rfl rfl)⟩
    simp [results, Try.results13, go_sem, hc5]
  case stop =>
    rintro D c pre W hD ⟨k, hk, rfl⟩ ⟨⟨rfl, ini, last, e1, e2, e3, hR⟩, hB⟩ hK
    gi_wp2
    refine ⟨by simp, .inl ⟨_, _, rfl, run_takeDeferred hK, ?_⟩⟩
    have hc5 := cell_kept hR.cell (grownBy_putObj' _ D (.deferred none)) (fun r e => by cases e; exact ⟨_, hK, rfl⟩)
    obtain ⟨j, rfl, rfl, rfl⟩ := uptoI_last _ _ _ _ e1
    have hE := begin_way l a h0 h1 Hfa.out j (by omega) e3 (fun i hi => e2 _ (mem_uptoI (wayS hpos a (-1)) j i hi))
    refine ⟨.int .i64 (wayI l.length a (-1) j), ?_, by rw [hE], hB.trans (belowK_b (w := w) (Nat.le_refl _) _ D _ _ (by simp at hD; omega) hK rfl rfl)⟩
    simp [results, Try.results13, go_sem, hc5]
    rfl

theorem guard3 {α : Type} {p q s : Prop} [Decidable p] [Decidable q] [Decidable s] {x r : α} (h : (if p then (if q then (if s then some x else none) else none) else none) = some r) : p ∧ q ∧ s ∧ x = r := by
  by_cases hp : p
  · rw [if_pos hp] at h
    by_cases hq : q
    · rw [if_pos hq] at h
      by_cases hs : s
      · rw [if_pos hs] at h; exact ⟨hp, hq, hs, Option.some.inj h⟩
      · rw [if_neg hs] at h; cases h
    · rw [if_neg hq] at h; cases h
  · rw [if_neg hp] at h; cases h

def field_Begin.f (a0_0 : Int) (a0_1 : Int) (l0_2 : List (S39)) (a0_3 : Int) (a0_4 : Bool) (a0_5 : Bool) (a1 : Int) : Option Int := if l0_2.length ≤ 16383 then (if 0 ≤ a1 then (if a1 < (l0_2.length : Int) then (some (beginI l0_2 a1)) else (none)) else (none)) else (none)
theorem field_Begin.calls (a0_0 : Int) (a0_1 : Int) (A0_2 : Option Addr) (c0_2 : Nat) (l0_2 : List (S39)) (a0_3 : Int) (a0_4 : Bool) (a0_5 : Bool) (a1 : Int) (r : Int) (w : World) (hr0_2 : Kd.C k39 w A0_2 l0_2.length l0_2) (hc0_2 : l0_2.length ≤ c0_2) (h : field_Begin.f a0_0 a0_1 l0_2 a0_3 a0_4 a0_5 a1 = some r) :
    Calls Try.prog 13 #[.agg #[.int .i64 a0_0, .int .i64 a0_1, .slice A0_2 l0_2.length c0_2, .int .i64 a0_3, .bool a0_4, .bool a0_5], .int .i64 a1] w fun e w' => e = .returned (.int .i64 r) ∧ Below w.heap.size w w' := by
  obtain ⟨hn, h0, h1, rfl⟩ := guard3 h
  cases hf : isF l0_2 a1 with
  | true => exact Begin_here a0_0 a0_1 A0_2 c0_2 l0_2 a0_3 a0_4 a0_5 a1 w hr0_2 hc0_2 h0 h1 hf
  | false => exact callsIn_wide.1 (Begin_loop a0_0 a0_1 A0_2 c0_2 l0_2 a0_3 a0_4 a0_5 a1 w hr0_2 hc0_2 hn h0 h1 hf)
end

/-! ### field_Cells: function 16 -/
section
open Go.Shelf
attribute [local go_sem] Oper.semAt_some

def takeW (p : Int → Bool) (g : Nat → Int) : Nat → Nat → List Int
  | 0, _ => []
  | c + 1, s => if p (g s) = true then [] else g s :: takeW p g c (s + 1)
theorem uptoI_front {α : Type} (f : Nat → α) (k : Nat) : uptoI f (k + 1) = f 0 :: uptoI (fun j => f (j + 1)) k := by
  simp [uptoI, List.range_succ_eq_map, Function.comp_def]
theorem takeW_eq (p : Int → Bool) (g : Nat → Int) : ∀ c s k, k ≤ c → (∀ i, i < k → p (g (s + i)) = false) → (k = c ∨ p (g (s + k)) = true) → takeW p g c s = uptoI (fun j => g (s + j)) k
  | 0, s, k, h1, h2, h3 => by
    obtain rfl : k = 0 := by omega
    rfl
  | c + 1, s, k, h1, h2, h3 => by
    unfold takeW
    rcases k with _ | k
    · rcases h3 with h3 | h3
      · omega
      · rw [if_pos (by simpa using h3)]; rfl
    · rw [if_neg (by have := h2 0 (by omega); simp at this; rw [this]; decide), uptoI_front]
      have := takeW_eq p g c (s + 1) k (by omega) (fun i hi => by have := h2 (i + 1) (by omega); rw [show s + 1 + i = s + (i + 1) by omega]; exact this) (by
        rcases h3 with h3 | h3
        · left; omega
        · right; rw [show s + 1 + k = s + (k + 1) by omega]; exact h3)
      rw [this]
      simp only [Nat.add_zero]
      congr 1
      congr 1
      funext j
      rw [show s + 1 + j = s + (j + 1) by omega]
/-- the cells of a cell's field -/
def cellsI (l : List S39) (a : Int) : List Int := if beginI l a < 0 then uptoI (fun j => (j : Int)) l.length else takeW (isF l) (wayI l.length (beginI l a) 1) l.length 0
theorem begin_range (l : List S39) (a : Int) (hp : 0 < l.length) : beginI l a = -1 ∨ (0 ≤ beginI l a ∧ beginI l a < l.length ∧ isF l (beginI l a) = true) := by
  rcases findW_cases (isF l) (fun j => (a - j) % (l.length : Int)) l.length 0 with ⟨h, _⟩ | ⟨j, _, _, h3, _, h⟩
  · exact .inl h
  · right
    unfold beginI
    rw [h]
    exact ⟨Int.emod_nonneg _ (by omega), Int.emod_lt_of_pos _ (by omega), h3⟩

set_option maxRecDepth 100000 in
set_option maxHeartbeats 4000000 in
theorem Cells_none (r c : Int) (A : Option Addr) (cp : Nat) (l : List S39) (cu : Int) (lo ins : Bool) (a : Int) (w : World) (hr : Kd.C k39 w A l.length l) (hc : l.length ≤ cp) (hn : l.length ≤ 16383) (h0 : 0 ≤ a) (h1 : a < l.length) (hb : beginI l a = -1) :
    CallsIn Fence.wide 5 Try.prog 16 #[.agg #[.int .i64 r, .int .i64 c, .slice A l.length cp, .int .i64 cu, .bool lo, .bool ins], .int .i64 a] w fun e w' => ∃ v : Value, e = .returned v ∧ Kd.R (Kd.int .i64) 3 w' w.heap.size (fun _ => True) v (cellsI l a) ∧ Below w.heap.size w w' := by
  have hE : cellsI l a = uptoI (fun j => (j : Int)) l.length := by rw [cellsI, hb]; rfl
  rw [hE]
  have hBg := Aside0.mk (fun W hr => field_Begin.calls r c A cp l cu lo ins a (-1) W hr hc (by unfold field_Begin.f; rw [if_pos hn, if_pos h0, if_pos h1, hb]))
  clear hE hb
  have HR := Aside0.mk hr
  clear hr
  obtain ⟨i0, hi, hz0, hz1, hz2⟩ := info_parts infoInt
  have hu24 := Try.underlying24
  refine callsIn_of_wp Try.func16 rfl trivial ?_ rfl
  simp only [Try.ntmps16, List.size_toArray, List.length_cons, List.length_nil, Nat.reduceAdd, Nat.reduceSub, Array.replicate_succ, Array.replicate_zero, List.push_toArray, List.append_toArray, List.nil_append, List.cons_append]
  have hB0 : Below w.heap.size w ((w.alloc (.cells #[.int .i64 r, .int .i64 c, .slice A l.length cp, .int .i64 cu, .bool lo, .bool ins] 24)).alloc (.cells #[.slice none 0 0] 30)) := below_alloc (below_alloc (Below.refl _ _) _) _
  have k1 := blk_alloc (blk_new w (.cells #[.int .i64 r, .int .i64 c, .slice A l.length cp, .int .i64 cu, .bool lo, .bool ins] 24)) (.cells #[.slice none 0 0] 30)
  have k2 := Boxed.new (w.alloc (.cells #[.int .i64 r, .int .i64 c, .slice A l.length cp, .int .i64 cu, .bool lo, .bool ins] 24)) 30 (.slice none 0 0)
  simp only [World.size_alloc] at k2
  gi_wp2_with (refine ⟨trivial, ?_⟩; gi_at_call 13; refine (callsIn_wide.2 (hBg.out _ (Kd.C_below HR.out hB0))).mono ?_; rintro e w1 ⟨rfl, hb1⟩; have hB1 := below_step hB0 hb1; have hS := blk_below k1 hb1; have hO : Boxed w1 (w.heap.size + 1) 30 (.slice none 0 0) := blk_below k2 hb1; clear hb1 k1 k2; have s2 := (blk_cell hS 2).trans rfl)
  gi_loopw [17] (fun i wr => ∃ k : Nat, k ≤ l.length ∧ i = .int .i64 k ∧ Aside0 (∃ v, Boxed wr (w.heap.size + 1) 30 v ∧ wr.ownsRow w.heap.size 3 1 v k ((uptoI (fun j => (j : Int)) k).map (Value.int .i64))) ∧ Aside0 (Below w.heap.size w wr))
    (fun i _ => l.length - (intOf i).toNat)
  case atStart => exact ⟨0, Nat.zero_le _, rfl, ⟨_, hO, World.ownsRow_nil _ _ _ _⟩, ⟨hB1⟩⟩
  case round =>
    clear hO hB1 hS s2
    obtain ⟨k, hk, rfl, ⟨v, hv, hrow⟩, ⟨hB⟩⟩ := hrel
    by_cases hlt : k < l.length
    · have hv0 := hv.cell
      gi_wp2_with (gi_at_builtin; refine wpListIn_append_own _ rfl _ _ 30 rfl w.heap.size 3 i0 (.int .i64 0) 1 8 Try.underlying30 hi hz0 hz1 hz2 rfl (by decide) _ _ _ rfl (hrow.alloc _) ⟨wr.heap.size, 0, none⟩ 1 1 [.int .i64 (k : Int)] rfl rfl (cell_one_new _ _ _) (by simp [Value.oneCell']) (by simp only [maxLen]; omega) (by omega) (by have := hB.size; simp; omega) ?_; intro v' w1 hown' hgrow _; obtain ⟨g', cap', rfl⟩ := ownsRow_succ hown'; obtain ⟨hv1, hv2, hr2, hk2, hb2⟩ := hv.appended (by decide) hrow hB.size (Nat.le_succ _) hown' hgrow; have hc1 := hv1.cell; have hf1 := hv1.frozen; clear hgrow hown')
      go_roundw
      case rel => exact ⟨k + 1, by omega, by go_num, ⟨_, hv2, by rw [uptoI_succ]; simpa using hr2⟩, ⟨hB.trans hb2⟩⟩
      case measure => simp [intOf]; omega
    · obtain rfl : k = l.length := by omega
      have hv0 := hv.cell
      gi_wp2
      go_ret
      exact ⟨v, rfl, Kd.R_of_own (by rw [uptoI_length]; exact hrow) (fun _ _ => trivial), hB⟩

theorem ownsRow_mono {w : World} {base base' : Nat} {e : TypeId} {size : Nat} {v : Value} {n : Nat} {xs : List Value} (h : w.ownsRow base e size v n xs) (hb : base' ≤ base) : w.ownsRow base' e size v n xs := by
  refine ⟨h.1, ?_⟩
  rcases h.2 with h2 | ⟨g, cap, cur, e1, e2, r⟩
  · exact .inl h2
  · exact .inr ⟨g, cap, cur, e1, by omega, r⟩
theorem ownsRow_far {w : World} {base k : Nat} {e : TypeId} {size : Nat} {v : Value} {n : Nat} {xs : List Value} (h : w.ownsRow base e size v n xs) (hk : k < base) : some k ≠ v.ownBlock := by
  rcases h.2 with ⟨rfl, _⟩ | ⟨g, cap, cur, rfl, e2, r⟩
  · simp [Value.ownBlock]
  · intro he; have : k = g := by simpa [Value.ownBlock] using he
    omega
/-- what lies below the row's base, and is not the variable's box, stays behind 'out = append(out, ..)' -/
theorem appended_far {W w1 : World} {base B k : Nat} {e : TypeId} {size n : Nat} {v v' : Value} {xs : List Value} {tmp : Obj} (hrow : W.ownsRow base e size v n xs) (hgrow : (W.alloc tmp).grownBy w1 v.ownBlock) (hk : k < base) (hkW : k < W.heap.size) (hkB : k ≠ B) : (w1.setCell ⟨B, 0, none⟩ v').heap[k]? = W.heap[k]? :=
  (Below.heap_setCell _ _ _ k hkB).trans ((hgrow.block k (by simp; omega) (ownsRow_far hrow hk)).trans (Below.heap_alloc _ _ _ hkW))
theorem appended_keep3 {W w1 : World} {base B b1 b2 b3 : Nat} {e : TypeId} {size n : Nat} {v v' : Value} {xs : List Value} {tmp : Obj} (hrow : W.ownsRow base e size v n xs) (hgrow : (W.alloc tmp).grownBy w1 v.ownBlock) (hbW : base ≤ W.heap.size) (h1 : b1 < base) (h2 : b2 < base) (h3 : b3 < base) (k1 : b1 ≠ B) (k2 : b2 ≠ B) (k3 : b3 ≠ B) : Keep3 b1 b2 b3 W (w1.setCell ⟨B, 0, none⟩ v') :=
  ⟨by have := hgrow.size; simp [World.setCell] at this ⊢; omega, appended_far hrow hgrow h1 (by omega) k1, appended_far hrow hgrow h2 (by omega) k2, appended_far hrow hgrow h3 (by omega) k3⟩

set_option maxRecDepth 100000 in
set_option maxHeartbeats 4000000 in
theorem Cells_loop (r c : Int) (A : Option Addr) (cp : Nat) (l : List S39) (cu : Int) (lo ins : Bool) (a b : Int) (w : World) (hr : Kd.C k39 w A l.length l) (hc : l.length ≤ cp) (hn : l.length ≤ 16383) (h0 : 0 ≤ a) (h1 : a < l.length) (hb : beginI l a = b) (hb0 : 0 ≤ b) (hb1 : b < l.length) :
    CallsIn Fence.wide 5 Try.prog 16 #[.agg #[.int .i64 r, .int .i64 c, .slice A l.length cp, .int .i64 cu, .bool lo, .bool ins], .int .i64 a] w fun e w' => ∃ v : Value, e = .returned v ∧ Kd.R (Kd.int .i64) 3 w' w.heap.size (fun _ => True) v (cellsI l a) ∧ Below w.heap.size w w' := by
  have hpos : 0 < l.length := by omega
  have hE : cellsI l a = takeW (isF l) (wayI l.length b 1) l.length 0 := by rw [cellsI, hb, if_neg (by omega)]
  rw [hE]
  have hBg := Aside0.mk (fun W hr => field_Begin.calls r c A cp l cu lo ins a b W hr hc (by unfold field_Begin.f; rw [if_pos hn, if_pos h0, if_pos h1, hb]))
  clear hE hb
  have HR := Aside0.mk hr
  clear hr
  obtain ⟨i0, hi, hz0, hz1, hz2⟩ := info_parts infoInt
  have hu24 := Try.underlying24
  have hu39 := Try.underlying39
  have hbd : decide (b < 0) = false := decide_eq_false (by omega)
  refine callsIn_of_wp_marks Try.func16 rfl trivial ?_ rfl
  simp only [Try.ntmps16, List.size_toArray, List.length_cons, List.length_nil, Nat.reduceAdd, Nat.reduceSub, Array.replicate_succ, Array.replicate_zero, List.push_toArray, List.append_toArray, List.nil_append, List.cons_append]
  have hB0 : Below w.heap.size w ((w.alloc (.cells #[.int .i64 r, .int .i64 c, .slice A l.length cp, .int .i64 cu, .bool lo, .bool ins] 24)).alloc (.cells #[.slice none 0 0] 30)) := below_alloc (below_alloc (Below.refl _ _) _) _
  have k1 := blk_alloc (blk_new w (.cells #[.int .i64 r, .int .i64 c, .slice A l.length cp, .int .i64 cu, .bool lo, .bool ins] 24)) (.cells #[.slice none 0 0] 30)
  have k2 := Boxed.new (w.alloc (.cells #[.int .i64 r, .int .i64 c, .slice A l.length cp, .int .i64 cu, .bool lo, .bool ins] 24)) 30 (.slice none 0 0)
  simp only [World.size_alloc] at k2
  gi_wp2_with (first
    | (refine ⟨trivial, ?_⟩; gi_at_call 13; refine (callsIn_wide.2 (hBg.out _ (Kd.C_below HR.out hB0))).mono ?_; rintro e w1 ⟨rfl, hb1⟩; have hB1 := below_step hB0 hb1; have hS := blk_below k1 hb1; have hO : Boxed w1 (w.heap.size + 1) 30 (.slice none 0 0) := blk_below k2 hb1; clear hb1 k1 k2; have s0 := (blk_cell hS 0).trans rfl; have s1 := (blk_cell hS 1).trans rfl; have s2 := (blk_cell hS 2).trans rfl; have s3 := (blk_cell hS 3).trans rfl; have s4 := (blk_cell hS 4).trans rfl; have s5 := (blk_cell hS 5).trans rfl)
    | (refine ⟨trivial, ?_⟩; gi_at_call 33; refine (callsIn_wide.2 (Round_exact r c _ _ cp cu lo ins b 1 _)).mono ?_; rintro e w' ⟨rfl, rfl⟩))
  have j1 := blk_new w1 (.cells #[.int .i64 r, .int .i64 c, .slice A l.length cp, .int .i64 cu, .bool lo, .bool ins] 24)
  have j2 := blk_new (w1.alloc (.cells #[.int .i64 r, .int .i64 c, .slice A l.length cp, .int .i64 cu, .bool lo, .bool ins] 24)) (.cells #[.int .i64 b] 3)
  have j3 := blk_new ((w1.alloc (.cells #[.int .i64 r, .int .i64 c, .slice A l.length cp, .int .i64 cu, .bool lo, .bool ins] 24)).alloc (.cells #[.int .i64 b] 3)) (.cells #[.int .i64 1] 3)
  simp only [World.size_alloc] at j2 j3
  have hBx : Below w.heap.size w (((w1.alloc (.cells #[.int .i64 r, .int .i64 c, .slice A l.length cp, .int .i64 cu, .bool lo, .bool ins] 24)).alloc (.cells #[.int .i64 b] 3)).alloc (.cells #[.int .i64 1] 3)) := below_alloc (below_alloc (below_alloc hB1 _) _) _
  have hs1 := hB1.size
  have hS1 : w.heap.size + 2 ≤ w1.heap.size := by have := blk_lt hO; omega
  refine wpIn_rangeFunc_ownG rfl (by omega) (gf := 40) (lb := #[.pointer (some ⟨w1.heap.size, 0, none⟩), .pointer (some ⟨w1.heap.size + 1, 0, none⟩), .pointer (some ⟨w1.heap.size + 1 + 1, 0, none⟩)]) rfl trivial (enters_of Try.func40 (by kernel_rfl) rfl)
    (round_stops 4 (by omega) w1.heap.size (w1.heap.size + 1) (w1.heap.size + 1 + 1) r c A l.length cp cu lo ins b 1 hpos hn hb0 hb1 _ (blk_alloc (blk_alloc j1 _) _) (blk_alloc j2 _) j3) Keep3.trans (Keep3.put (by simp; omega) (by simp) (by simp)) (Below.refl _ _) (fun _ => rfl)
    (fun pre W => W.heap[w.heap.size]? = some (.cells #[.int .i64 r, .int .i64 c, .slice A l.length cp, .int .i64 cu, .bool lo, .bool ins] 24 (0, 0)) ∧ ((∃ v, Boxed W (w.heap.size + 1) 30 v ∧ W.ownsRow (w1.heap.size + 3) 3 1 v pre.length (pre.map fun x => Value.int .i64 x.1) ∧ ((∀ x ∈ pre, isF l x.1 = false) ∧ True)) ∧ (w1.heap.size + 3 ≤ W.heap.size ∧ Below w.heap.size w W)))
    (fun c' pre W => (∃ v, Boxed W (w.heap.size + 1) 30 v ∧ W.ownsRow (w1.heap.size + 3) 3 1 v pre.dropLast.length (pre.dropLast.map fun x => Value.int .i64 x.1) ∧ (c' = .exit 2 ∧ ∃ ini last, pre = ini ++ [last] ∧ (∀ x ∈ ini, isF l x.1 = false) ∧ isF l last.1 = true)) ∧ Below w.heap.size w W)
    (OwnFrom.and (Own.from (fun s A B row hs hg hr => (grownBy_keeps_cells hg hr hs rfl).trans hs) _) (OwnFrom.and (Own.from (holdsRow_own (w1.heap.size + 3) (w.heap.size + 1) 30 3 1 (fun pre : List (Rng l.length) => pre.length) (fun pre => pre.map fun x => Value.int .i64 x.1) (fun pre v => (∀ x ∈ pre, isF l x.1 = false) ∧ True)) _) (OwnFrom.and (fun s A B row hs hg _ => Nat.le_trans hs hg.size) (ownFrom_below (Nat.le_refl _) (by simp; omega)))))
    (fun c' => OwnFrom.and (Own.from (holdsRow_own (w1.heap.size + 3) (w.heap.size + 1) 30 3 1 (fun pre : List (Rng l.length) => pre.dropLast.length) (fun pre => pre.dropLast.map fun x => Value.int .i64 x.1) (fun pre v => c' = .exit 2 ∧ ∃ ini last, pre = ini ++ [last] ∧ (∀ x ∈ ini, isF l x.1 = false) ∧ isF l last.1 = true)) _) (ownFrom_below (Nat.le_refl _) (by simp; omega)))
    ⟨blk_alloc (blk_alloc (blk_alloc hS _) _) _, ⟨_, blk_alloc (blk_alloc (blk_alloc hO _) _) _, World.ownsRow_nil _ _ _ _, by simp⟩, by simp, hBx⟩
    (fun x => { tmps := #[.agg #[.int .i64 r, .int .i64 c, .slice A l.length cp, .int .i64 cu, .bool lo, .bool ins], .int .i64 a, .pointer (some ⟨w.heap.size, 0, none⟩), undef, .slice none 0 0, .pointer (some ⟨w.heap.size + 1, 0, none⟩), .int .i64 b, undef, .int .i64 x.1, .agg #[.int .i64 r, .int .i64 c, .slice A l.length cp, .int .i64 cu, .bool lo, .bool ins], .int .i64 a, .int .i64 b, .int .i64 b, .bool false, undef, undef, undef, undef, undef, undef, undef, undef, undef, undef, undef, undef, .agg #[.int .i64 r, .int .i64 c, .slice A l.length cp, .int .i64 cu, .bool lo, .bool ins], .int .i64 b, .func (.func 40) #[] #[.pointer (some ⟨w1.heap.size, 0, none⟩), .pointer (some ⟨w1.heap.size + 1, 0, none⟩), .pointer (some ⟨w1.heap.size + 1 + 1, 0, none⟩)], .int .i64 x.1, undef, undef, undef, undef, undef, undef, undef, undef, undef, undef, undef], defers := [] }) ?assign ?body ?done ?stop
  case assign =>
    intro l x W K hK
    gi_wp2
    exact hK
  case body =>
    rintro lp pre x W ⟨hS, ⟨v, hv, hrow, hp, _⟩, hbW, hB⟩ hlt
    have hr := HR.out
    obtain ⟨ad', e', hcx, hltx⟩ := cell_f0 hr x.1 x.2.1 x.2.2
    subst e'
    have hcW := (hB.cell hltx).trans hcx
    have s2 := (blk_cell hS 2).trans rfl
    have x0 := x.2.1
    have x1 := x.2.2
    have hv0 := hv.cell
    cases hfx : isF l x.1 with
    | true =>
      rw [hfx] at hcW
      gi_wp2
      exact ⟨KeepsFrom.refl _ _, ⟨v, hv, by simpa using hrow, rfl, pre, x, rfl, hp, hfx⟩, hB⟩
    | false =>
      rw [hfx] at hcW
      gi_wp2_with (gi_at_builtin; refine wpListIn_append_own _ rfl _ _ 30 rfl (w1.heap.size + 3) 3 i0 (.int .i64 0) 1 8 Try.underlying30 hi hz0 hz1 hz2 rfl (by decide) _ _ _ rfl (hrow.alloc _) ⟨W.heap.size, 0, none⟩ 1 1 [.int .i64 x.1] rfl rfl (cell_one_new _ _ _) (by simp [Value.oneCell']) (by simp only [maxLen]; omega) (by omega) (by simp; omega) ?_; intro v' w2 hown' hgrow _; obtain ⟨g', cap', rfl⟩ := ownsRow_succ hown'; obtain ⟨hv1, hv2, hr2, hk2, hb2⟩ := hv.appended (by decide) (ownsRow_mono hrow (by omega)) hB.size (Nat.le_succ _) (ownsRow_mono hown' (by omega)) hgrow; have hc1 := hv1.cell; have hf1 := hv1.frozen)
      exact ⟨hk2.from _, appended_keep3 hrow hgrow hbW (by omega) (by omega) (by omega) (by omega) (by omega) (by omega), (appended_far hrow hgrow (by omega) (by omega) (by omega)).trans hS, ⟨_, hv2, by have := hown'.kept (grownBy_setCell' w2 (w.heap.size + 1) (.slice (some ⟨g', 0, none⟩) (pre.length + 1) cap')) (.inr (hv1.not_row (by decide) hown').symm); simpa using this, fun y hy => (List.mem_append.1 hy).elim (hp y) (fun e => by simp at e; subst e; exact hfx), trivial⟩, by have := hb2.size; omega, hB.trans hb2⟩
  case done =>
    rintro D ys W hD rfl ⟨hS, ⟨v, hv, hrow, hp, _⟩, hbW, hB⟩ hK
    have hv0 := hv.cell
    gi_wp2
    refine ⟨by simp, .inl ⟨_, _, rfl, run_takeDeferred hK, ?_⟩⟩
    have hT := takeW_eq (isF l) (wayI l.length b 1) l.length 0 l.length (Nat.le_refl _) (fun i hi => by rw [Nat.zero_add]; exact hp _ (mem_uptoI (wayS hpos b 1) l.length i hi)) (.inl rfl)
    simp only [Nat.zero_add] at hT
    have e1 : (uptoI (wayS hpos b 1) l.length).map (fun x => Value.int .i64 x.1) = (uptoI (wayI l.length b 1) l.length).map (Value.int .i64) := by simp [uptoI, wayS]
    rw [e1, uptoI_length] at hrow
    refine ⟨_, results_tmp rfl _ _ _, v, rfl, ?_, hB.trans (belowK_b (w := w) (Nat.le_refl _) W D _ _ (by simp at hD; omega) hK rfl rfl)⟩
    rw [hT]
    exact Kd.R_of_own (by rw [uptoI_length]; exact ownsRow_putObj (ownsRow_mono hrow (by omega)) _ hK rfl) (fun _ _ => trivial)
  case stop =>
    rintro D c' pre W hD ⟨k, hk, rfl⟩ ⟨⟨v, hv, hrow, rfl, ini, last, e1, e2, e3⟩, hB⟩ hK
    have hv0 := hv.cell
    gi_wp2
    refine ⟨by simp, .inl ⟨_, _, rfl, run_takeDeferred hK, ?_⟩⟩
    obtain ⟨j, rfl, rfl, rfl⟩ := uptoI_last _ _ _ _ e1
    have hT := takeW_eq (isF l) (wayI l.length b 1) l.length 0 j (by omega) (fun i hi => by rw [Nat.zero_add]; exact e2 _ (mem_uptoI (wayS hpos b 1) j i hi)) (.inr (by rw [Nat.zero_add]; exact e3))
    simp only [Nat.zero_add] at hT
    have e5 : (uptoI (wayS hpos b 1) j).map (fun x => Value.int .i64 x.1) = (uptoI (wayI l.length b 1) j).map (Value.int .i64) := by simp [uptoI, wayS]
    rw [uptoI_succ, List.dropLast_concat, e5, uptoI_length] at hrow
    refine ⟨_, results_tmp rfl _ _ _, v, rfl, ?_, hB.trans (belowK_b (w := w) (Nat.le_refl _) W D _ _ (by simp at hD; omega) hK rfl rfl)⟩
    rw [hT]
    exact Kd.R_of_own (by rw [uptoI_length]; exact ownsRow_putObj (ownsRow_mono hrow (by omega)) _ hK rfl) (fun _ _ => trivial)

def field_Cells.f (a0_0 : Int) (a0_1 : Int) (l0_2 : List (S39)) (a0_3 : Int) (a0_4 : Bool) (a0_5 : Bool) (a1 : Int) : Option (List Int) := if l0_2.length ≤ 16383 then (if 0 ≤ a1 then (if a1 < (l0_2.length : Int) then (some (cellsI l0_2 a1)) else (none)) else (none)) else (none)
theorem field_Cells.calls (a0_0 : Int) (a0_1 : Int) (A0_2 : Option Addr) (c0_2 : Nat) (l0_2 : List (S39)) (a0_3 : Int) (a0_4 : Bool) (a0_5 : Bool) (a1 : Int) (r : List Int) (w : World) (hr0_2 : Kd.C k39 w A0_2 l0_2.length l0_2) (hc0_2 : l0_2.length ≤ c0_2) (h : field_Cells.f a0_0 a0_1 l0_2 a0_3 a0_4 a0_5 a1 = some r) :
    Calls Try.prog 16 #[.agg #[.int .i64 a0_0, .int .i64 a0_1, .slice A0_2 l0_2.length c0_2, .int .i64 a0_3, .bool a0_4, .bool a0_5], .int .i64 a1] w fun e w' => ∃ v0_ : Value, e = .returned (v0_) ∧ Kd.R (Kd.int .i64) 3 w' w.heap.size (fun _ => True) v0_ r ∧ Below w.heap.size w w' := by
  obtain ⟨hn, h0, h1, rfl⟩ := guard3 h
  rcases begin_range l0_2 a1 (by omega) with hb | ⟨hb0, hb1, _⟩
  · exact callsIn_wide.1 (Cells_none a0_0 a0_1 A0_2 c0_2 l0_2 a0_3 a0_4 a0_5 a1 w hr0_2 hc0_2 hn h0 h1 hb)
  · exact callsIn_wide.1 (Cells_loop a0_0 a0_1 A0_2 c0_2 l0_2 a0_3 a0_4 a0_5 a1 _ w hr0_2 hc0_2 hn h0 h1 rfl hb0 hb1)
end

/-! ### field_Of: function 18 -/
def field_Of.f (a0_0 : Int) (a0_1 : Int) (l0_2 : List (S39)) (a0_3 : Int) (a0_4 : Bool) (a0_5 : Bool) (a1 : Int) : Option (Bool × Bool × Int × Bool) := (field_Begin.f a0_0 a0_1 l0_2 a0_3 a0_4 a0_5 a1).bind fun t103 => (if t103 < 0 then (some (false, false, 0, false)) else (if 0 ≤ t103 then (if t103 < (l0_2.length : Int) then (some ((rd_T39 l0_2 t103).f1.f0, (rd_T39 l0_2 t103).f1.f1, (rd_T39 l0_2 t103).f1.f2, (rd_T39 l0_2 t103).f1.f3)) else (none)) else (none)))
set_option maxHeartbeats 8000000 in
set_option maxRecDepth 100000 in
theorem field_Of.calls (a0_0 : Int) (a0_1 : Int) (A0_2 : Option Addr) (c0_2 : Nat) (l0_2 : List (S39)) (a0_3 : Int) (a0_4 : Bool) (a0_5 : Bool) (a1 : Int) (r1 : Bool) (r2 : Bool) (r3 : Int) (r4 : Bool) (w : World) (hr0_2 : Kd.C k39 w A0_2 l0_2.length l0_2) (hc0_2 : l0_2.length ≤ c0_2) (h : field_Of.f a0_0 a0_1 l0_2 a0_3 a0_4 a0_5 a1 = some (r1, r2, r3, r4)) :
    Calls Try.prog 18 #[.agg #[.int .i64 a0_0, .int .i64 a0_1, .slice A0_2 l0_2.length c0_2, .int .i64 a0_3, .bool a0_4, .bool a0_5], .int .i64 a1] w fun e w' => e = .returned (.agg #[.bool r1, .bool r2, .int .i64 r3, .bool r4]) ∧ Below w.heap.size w w' := by
  have hu24 := Try.underlying24
  have hu33 := Try.underlying33
  have HR0_2 := Aside0.mk hr0_2
  have HC0_2 := Aside0.mk hc0_2
  clear hr0_2 hc0_2
  have HB := Aside0.mk (Below.refl w.heap.size w)
  have H : ((field_Begin.f a0_0 a0_1 l0_2 a0_3 a0_4 a0_5 a1).bind fun t103 => (if t103 < 0 then (some (false, false, 0, false)) else (if 0 ≤ t103 then (if t103 < (l0_2.length : Int) then (some ((rd_T39 l0_2 t103).f1.f0, (rd_T39 l0_2 t103).f1.f1, (rd_T39 l0_2 t103).f1.f2, (rd_T39 l0_2 t103).f1.f3)) else (none)) else (none)))) = some (r1, r2, r3, r4) := h
  clear h
  replace H := Option.bind_eq_some_iff.mp H
  obtain ⟨t103, A30, H⟩ := H
  replace H : (if t103 < 0 then (some (false, false, 0, false)) else (if 0 ≤ t103 then (if t103 < (l0_2.length : Int) then (some ((rd_T39 l0_2 t103).f1.f0, (rd_T39 l0_2 t103).f1.f1, (rd_T39 l0_2 t103).f1.f2, (rd_T39 l0_2 t103).f1.f3)) else (none)) else (none))) = some (r1, r2, r3, r4) := H
  have A3 := Aside0.mk A30
  clear A30
  by_cases c4 : t103 < 0
  · rw [if_pos c4] at H
    have c4b0 : decide (t103 < 0) = true := decide_eq_true c4
    clear c4
    simp only [Option.some.injEq, Prod.mk.injEq] at H
    obtain ⟨rfl, rfl, rfl, rfl⟩ := H
    go_enter Try.func18, Try.ntmps18
    go_wp2_with (first | ((with_reducible refine gate_dst (N := 2) rfl ?_); refine box_event ?hg (N := 2) ?hd (cs := #[.int .i64 a0_0, .int .i64 a0_1, .slice A0_2 l0_2.length c0_2, .int .i64 a0_3, .bool a0_4, .bool a0_5]) (t := 24) ?hr ?_; (case hd => rfl); (case hg => rfl); (case hr => first | (go_simp; done) | (go_simp; rfl)); intro gb101 hg w5 hbox hb; have n0_ := Aside0.mk (below_step (by repeat (first | (with_reducible first | exact HB.out | apply below_alloc | apply pw_below_drewN | apply below_drew1) | exact HB.out)) hb); have n1_ := Aside0.mk (hbox); have n2_ := Aside0.mk ((by rw [hg]; exact (below_size (by repeat (first | (with_reducible first | exact HB.out | apply below_alloc | apply pw_below_drewN | apply below_drew1) | exact HB.out))) : w.heap.size ≤ gb101)); have n3_ := Aside0.mk ((by rw [hg]; exact (below_size (by repeat (first | (with_reducible first | exact HB.out | apply below_alloc | apply pw_below_drewN | apply below_drew1) | exact HB.out))) : w.heap.size ≤ gb101)); clear HB; have HB := n0_; have BK101 := n1_; have GW101 := n2_; have GE101 := n3_; clear n0_ n1_ n2_ n3_; clear hb hbox hg) | ((with_reducible refine gate_dst (N := 4) rfl ?_); refine box_event ?hg (N := 4) ?hd (cs := #[.bool false, .bool false, .int .i64 0, .bool false]) (t := 33) ?hr ?_; (case hd => rfl); (case hg => rfl); (case hr => first | (go_simp; done) | (go_simp; rfl)); intro gb102 hg w6 hbox hb; have n0_ := Aside0.mk (blk_below (g := gb101) (o := .cells #[.int .i64 a0_0, .int .i64 a0_1, .slice A0_2 l0_2.length c0_2, .int .i64 a0_3, .bool a0_4, .bool a0_5] 24 (0, 0)) (by (with_reducible repeat (first | refine blk_drewN ?_ _ | refine blk_drew ?_ | refine blk_alloc ?_ _)); exact BK101.out) hb); have n1_ := Aside0.mk (below_step (by repeat (first | (with_reducible first | exact HB.out | apply below_alloc | apply pw_below_drewN | apply below_drew1 | refine below_set ?_ GE101.out) | exact HB.out)) hb); have n2_ := Aside0.mk (hbox); have n3_ := Aside0.mk ((by rw [hg]; exact (below_size (by repeat (first | (with_reducible first | exact HB.out | apply below_alloc | apply pw_below_drewN | apply below_drew1 | refine below_set ?_ GE101.out) | exact HB.out))) : w.heap.size ≤ gb102)); have n4_ := Aside0.mk ((by rw [hg]; exact (below_size (by repeat (first | (with_reducible first | exact HB.out | apply below_alloc | apply pw_below_drewN | apply below_drew1 | refine below_set ?_ GE101.out) | exact HB.out))) : w.heap.size ≤ gb102)); have n5_ := Aside0.mk ((by rw [hg]; exact Nat.ne_of_lt (blk_lt (g := gb101) (o := .cells #[.int .i64 a0_0, .int .i64 a0_1, .slice A0_2 l0_2.length c0_2, .int .i64 a0_3, .bool a0_4, .bool a0_5] 24 (0, 0)) (by (with_reducible repeat (first | refine blk_drewN ?_ _ | refine blk_drew ?_ | refine blk_alloc ?_ _)); exact BK101.out)) : gb101 ≠ gb102)); have n6_ := Aside0.mk ((by rw [hg]; exact Nat.ne_of_gt (blk_lt (g := gb101) (o := .cells #[.int .i64 a0_0, .int .i64 a0_1, .slice A0_2 l0_2.length c0_2, .int .i64 a0_3, .bool a0_4, .bool a0_5] 24 (0, 0)) (by (with_reducible repeat (first | refine blk_drewN ?_ _ | refine blk_drew ?_ | refine blk_alloc ?_ _)); exact BK101.out)) : gb102 ≠ gb101)); clear BK101; clear HB; have BK101 := n0_; have HB := n1_; have BK102 := n2_; have GW102 := n3_; have GE102 := n4_; have NB101_102 := n5_; have NB102_101 := n6_; clear n0_ n1_ n2_ n3_ n4_ n5_ n6_; clear hb hbox hg; have hnb7 := NB101_102.out; have hnc7 := NB102_101.out; have hcz8_0 : w6.cell? ⟨gb101, 0, none⟩ = some (.int .i64 a0_0) := (blk_cell BK101.out 0).trans rfl; have hcz8_1 : w6.cell? ⟨gb101, 1, none⟩ = some (.int .i64 a0_1) := (blk_cell BK101.out 1).trans rfl; have hcz8_2 : w6.cell? ⟨gb101, 2, none⟩ = some (.slice A0_2 l0_2.length c0_2) := (blk_cell BK101.out 2).trans rfl; have hcz8_3 : w6.cell? ⟨gb101, 3, none⟩ = some (.int .i64 a0_3) := (blk_cell BK101.out 3).trans rfl; have hcz8_4 : w6.cell? ⟨gb101, 4, none⟩ = some (.bool a0_4) := (blk_cell BK101.out 4).trans rfl; have hcz8_5 : w6.cell? ⟨gb101, 5, none⟩ = some (.bool a0_5) := (blk_cell BK101.out 5).trans rfl; have hfz8_0 := blk_frozen BK101.out 0; have hfz8_1 := blk_frozen BK101.out 1; have hfz8_2 := blk_frozen BK101.out 2; have hfz8_3 := blk_frozen BK101.out 3; have hfz8_4 := blk_frozen BK101.out 4; have hfz8_5 := blk_frozen BK101.out 5) | ((with_reducible refine gate_callee (f := 13) rfl ?_); refine goesL_ (some 8) rfl rfl Try.func13 (by kernel_rfl) rfl #[.agg #[.int .i64 a0_0, .int .i64 a0_1, .slice A0_2 l0_2.length c0_2, .int .i64 a0_3, .bool a0_4, .bool a0_5], .int .i64 a1] rfl (by (try simp only [List.map_toArray, List.map_cons, List.map_nil]); first | done | rfl | (simp only [List.length_drop, List.length_take]; rfl)) ?_; (with_reducible refine (field_Begin.calls a0_0 a0_1 _ _ l0_2 a0_3 a0_4 a0_5 a1 t103 _ ?side1 ?side2 A3.out).mono ?_); (case side1 => repeat (first | exact (Kd.C_below HR0_2.out HB.out) | (with_reducible refine Kd.C_alloc ?_ _) | (with_reducible refine Kd.C_drewN ?_ _) | (with_reducible refine Kd.C_drew ?_))); (case side2 => exact HC0_2.out); rintro e w9 ⟨rfl, hb⟩; refine ⟨_, rfl, ?_⟩; have n0_ := Aside0.mk (blk_below (g := gb101) (o := .cells #[.int .i64 a0_0, .int .i64 a0_1, .slice A0_2 l0_2.length c0_2, .int .i64 a0_3, .bool a0_4, .bool a0_5] 24 (0, 0)) (by (with_reducible repeat (first | refine blk_drewN ?_ _ | refine blk_drew ?_ | refine blk_alloc ?_ _)); exact BK101.out) hb); have n1_ := Aside0.mk (blk_below (g := gb102) (o := .cells #[.bool false, .bool false, .int .i64 0, .bool false] 33 (0, 0)) (by (with_reducible repeat (first | refine blk_drewN ?_ _ | refine blk_drew ?_ | refine blk_alloc ?_ _)); exact BK102.out) hb); have n2_ := Aside0.mk (below_step (by repeat (first | (with_reducible first | exact HB.out | apply below_alloc | apply pw_below_drewN | apply below_drew1 | refine below_set ?_ GE101.out | refine below_set ?_ GE102.out) | exact HB.out)) hb); clear BK101; clear BK102; clear HB; have BK101 := n0_; have BK102 := n1_; have HB := n2_; clear n0_ n1_ n2_; (try clear hb); (try clear hb2); (try clear hk); (try clear hi); have hcz10_0 : w9.cell? ⟨gb102, 0, none⟩ = some (.bool false) := (blk_cell BK102.out 0).trans rfl; have hcz10_1 : w9.cell? ⟨gb102, 1, none⟩ = some (.bool false) := (blk_cell BK102.out 1).trans rfl; have hcz10_2 : w9.cell? ⟨gb102, 2, none⟩ = some (.int .i64 0) := (blk_cell BK102.out 2).trans rfl; have hcz10_3 : w9.cell? ⟨gb102, 3, none⟩ = some (.bool false) := (blk_cell BK102.out 3).trans rfl; have hfz10_0 := blk_frozen BK102.out 0; have hfz10_1 := blk_frozen BK102.out 1; have hfz10_2 := blk_frozen BK102.out 2; have hfz10_3 := blk_frozen BK102.out 3))
    refine bodyPost_ret (results_cell_row rfl _ _ gb102 33 #[.bool false, .bool false, .int .i64 0, .bool false] (0, 0) _ rfl (by (with_reducible repeat (first | refine blk_drewN ?_ _ | refine blk_drew ?_ | refine blk_alloc ?_ _)); refine blk_put (cs := #[.bool false, .bool false, .int .i64 0, .bool false]) ?_ 3 _ rfl; (with_reducible repeat (first | refine blk_drewN ?_ _ | refine blk_drew ?_ | refine blk_alloc ?_ _)); refine blk_put (cs := #[.bool false, .bool false, .int .i64 0, .bool false]) ?_ 2 _ rfl; (with_reducible repeat (first | refine blk_drewN ?_ _ | refine blk_drew ?_ | refine blk_alloc ?_ _)); refine blk_put (cs := #[.bool false, .bool false, .int .i64 0, .bool false]) ?_ 1 _ rfl; (with_reducible repeat (first | refine blk_drewN ?_ _ | refine blk_drew ?_ | refine blk_alloc ?_ _)); refine blk_put (cs := #[.bool false, .bool false, .int .i64 0, .bool false]) ?_ 0 _ rfl; (with_reducible repeat (first | refine blk_drewN ?_ _ | refine blk_drew ?_ | refine blk_alloc ?_ _)); exact BK102.out) Try.underlying33 rfl (by kernel_rfl)) rfl ?_
    exact ⟨by first | rfl | (simp [errW_none, errW_some] <;> rfl) | (simp [*, errW_none, errW_some] <;> rfl), by repeat (first | (with_reducible first | exact HB.out | apply below_alloc | apply pw_below_drewN | apply below_drew1 | refine below_set ?_ GE101.out | refine below_set ?_ GE102.out) | exact HB.out)⟩
  · rw [if_neg c4] at H
    have c4b0 : decide (t103 < 0) = false := decide_eq_false c4
    clear c4
    by_cases c11 : 0 ≤ t103
    · rw [if_pos c11] at H
      have c11b0 : decide (0 ≤ t103) = true := decide_eq_true c11
      clear c11
      by_cases c12 : t103 < (l0_2.length : Int)
      · rw [if_pos c12] at H
        have c12b0 : decide (t103 < (l0_2.length : Int)) = true := decide_eq_true c12
        clear c12
        simp only [Option.some.injEq, Prod.mk.injEq] at H
        obtain ⟨rfl, rfl, rfl, rfl⟩ := H
        go_enter Try.func18, Try.ntmps18
        go_wp2_with (first | ((with_reducible refine gate_dst (N := 2) rfl ?_); refine box_event ?hg (N := 2) ?hd (cs := #[.int .i64 a0_0, .int .i64 a0_1, .slice A0_2 l0_2.length c0_2, .int .i64 a0_3, .bool a0_4, .bool a0_5]) (t := 24) ?hr ?_; (case hd => rfl); (case hg => rfl); (case hr => first | (go_simp; done) | (go_simp; rfl)); intro gb101 hg w13 hbox hb; have n0_ := Aside0.mk (below_step (by repeat (first | (with_reducible first | exact HB.out | apply below_alloc | apply pw_below_drewN | apply below_drew1) | exact HB.out)) hb); have n1_ := Aside0.mk (hbox); have n2_ := Aside0.mk ((by rw [hg]; exact (below_size (by repeat (first | (with_reducible first | exact HB.out | apply below_alloc | apply pw_below_drewN | apply below_drew1) | exact HB.out))) : w.heap.size ≤ gb101)); have n3_ := Aside0.mk ((by rw [hg]; exact (below_size (by repeat (first | (with_reducible first | exact HB.out | apply below_alloc | apply pw_below_drewN | apply below_drew1) | exact HB.out))) : w.heap.size ≤ gb101)); clear HB; have HB := n0_; have BK101 := n1_; have GW101 := n2_; have GE101 := n3_; clear n0_ n1_ n2_ n3_; clear hb hbox hg) | ((with_reducible refine gate_dst (N := 4) rfl ?_); refine box_event ?hg (N := 4) ?hd (cs := #[.bool false, .bool false, .int .i64 0, .bool false]) (t := 33) ?hr ?_; (case hd => rfl); (case hg => rfl); (case hr => first | (go_simp; done) | (go_simp; rfl)); intro gb102 hg w14 hbox hb; have n0_ := Aside0.mk (blk_below (g := gb101) (o := .cells #[.int .i64 a0_0, .int .i64 a0_1, .slice A0_2 l0_2.length c0_2, .int .i64 a0_3, .bool a0_4, .bool a0_5] 24 (0, 0)) (by (with_reducible repeat (first | refine blk_drewN ?_ _ | refine blk_drew ?_ | refine blk_alloc ?_ _)); exact BK101.out) hb); have n1_ := Aside0.mk (below_step (by repeat (first | (with_reducible first | exact HB.out | apply below_alloc | apply pw_below_drewN | apply below_drew1 | refine below_set ?_ GE101.out) | exact HB.out)) hb); have n2_ := Aside0.mk (hbox); have n3_ := Aside0.mk ((by rw [hg]; exact (below_size (by repeat (first | (with_reducible first | exact HB.out | apply below_alloc | apply pw_below_drewN | apply below_drew1 | refine below_set ?_ GE101.out) | exact HB.out))) : w.heap.size ≤ gb102)); have n4_ := Aside0.mk ((by rw [hg]; exact (below_size (by repeat (first | (with_reducible first | exact HB.out | apply below_alloc | apply pw_below_drewN | apply below_drew1 | refine below_set ?_ GE101.out) | exact HB.out))) : w.heap.size ≤ gb102)); have n5_ := Aside0.mk ((by rw [hg]; exact Nat.ne_of_lt (blk_lt (g := gb101) (o := .cells #[.int .i64 a0_0, .int .i64 a0_1, .slice A0_2 l0_2.length c0_2, .int .i64 a0_3, .bool a0_4, .bool a0_5] 24 (0, 0)) (by (with_reducible repeat (first | refine blk_drewN ?_ _ | refine blk_drew ?_ | refine blk_alloc ?_ _)); exact BK101.out)) : gb101 ≠ gb102)); have n6_ := Aside0.mk ((by rw [hg]; exact Nat.ne_of_gt (blk_lt (g := gb101) (o := .cells #[.int .i64 a0_0, .int .i64 a0_1, .slice A0_2 l0_2.length c0_2, .int .i64 a0_3, .bool a0_4, .bool a0_5] 24 (0, 0)) (by (with_reducible repeat (first | refine blk_drewN ?_ _ | refine blk_drew ?_ | refine blk_alloc ?_ _)); exact BK101.out)) : gb102 ≠ gb101)); clear BK101; clear HB; have BK101 := n0_; have HB := n1_; have BK102 := n2_; have GW102 := n3_; have GE102 := n4_; have NB101_102 := n5_; have NB102_101 := n6_; clear n0_ n1_ n2_ n3_ n4_ n5_ n6_; clear hb hbox hg; have hnb15 := NB101_102.out; have hnc15 := NB102_101.out; have hcz16_0 : w14.cell? ⟨gb101, 0, none⟩ = some (.int .i64 a0_0) := (blk_cell BK101.out 0).trans rfl; have hcz16_1 : w14.cell? ⟨gb101, 1, none⟩ = some (.int .i64 a0_1) := (blk_cell BK101.out 1).trans rfl; have hcz16_2 : w14.cell? ⟨gb101, 2, none⟩ = some (.slice A0_2 l0_2.length c0_2) := (blk_cell BK101.out 2).trans rfl; have hcz16_3 : w14.cell? ⟨gb101, 3, none⟩ = some (.int .i64 a0_3) := (blk_cell BK101.out 3).trans rfl; have hcz16_4 : w14.cell? ⟨gb101, 4, none⟩ = some (.bool a0_4) := (blk_cell BK101.out 4).trans rfl; have hcz16_5 : w14.cell? ⟨gb101, 5, none⟩ = some (.bool a0_5) := (blk_cell BK101.out 5).trans rfl; have hfz16_0 := blk_frozen BK101.out 0; have hfz16_1 := blk_frozen BK101.out 1; have hfz16_2 := blk_frozen BK101.out 2; have hfz16_3 := blk_frozen BK101.out 3; have hfz16_4 := blk_frozen BK101.out 4; have hfz16_5 := blk_frozen BK101.out 5) | ((with_reducible refine gate_callee (f := 13) rfl ?_); refine goesL_ (some 8) rfl rfl Try.func13 (by kernel_rfl) rfl #[.agg #[.int .i64 a0_0, .int .i64 a0_1, .slice A0_2 l0_2.length c0_2, .int .i64 a0_3, .bool a0_4, .bool a0_5], .int .i64 a1] rfl (by (try simp only [List.map_toArray, List.map_cons, List.map_nil]); first | done | rfl | (simp only [List.length_drop, List.length_take]; rfl)) ?_; (with_reducible refine (field_Begin.calls a0_0 a0_1 _ _ l0_2 a0_3 a0_4 a0_5 a1 t103 _ ?side1 ?side2 A3.out).mono ?_); (case side1 => repeat (first | exact (Kd.C_below HR0_2.out HB.out) | (with_reducible refine Kd.C_alloc ?_ _) | (with_reducible refine Kd.C_drewN ?_ _) | (with_reducible refine Kd.C_drew ?_))); (case side2 => exact HC0_2.out); rintro e w17 ⟨rfl, hb⟩; refine ⟨_, rfl, ?_⟩; have n0_ := Aside0.mk (blk_below (g := gb101) (o := .cells #[.int .i64 a0_0, .int .i64 a0_1, .slice A0_2 l0_2.length c0_2, .int .i64 a0_3, .bool a0_4, .bool a0_5] 24 (0, 0)) (by (with_reducible repeat (first | refine blk_drewN ?_ _ | refine blk_drew ?_ | refine blk_alloc ?_ _)); exact BK101.out) hb); have n1_ := Aside0.mk (blk_below (g := gb102) (o := .cells #[.bool false, .bool false, .int .i64 0, .bool false] 33 (0, 0)) (by (with_reducible repeat (first | refine blk_drewN ?_ _ | refine blk_drew ?_ | refine blk_alloc ?_ _)); exact BK102.out) hb); have n2_ := Aside0.mk (below_step (by repeat (first | (with_reducible first | exact HB.out | apply below_alloc | apply pw_below_drewN | apply below_drew1 | refine below_set ?_ GE101.out | refine below_set ?_ GE102.out) | exact HB.out)) hb); clear BK101; clear BK102; clear HB; have BK101 := n0_; have BK102 := n1_; have HB := n2_; clear n0_ n1_ n2_; (try clear hb); (try clear hb2); (try clear hk); (try clear hi); have hcz18_0 : w17.cell? ⟨gb101, 0, none⟩ = some (.int .i64 a0_0) := (blk_cell BK101.out 0).trans rfl; have hcz18_1 : w17.cell? ⟨gb101, 1, none⟩ = some (.int .i64 a0_1) := (blk_cell BK101.out 1).trans rfl; have hcz18_2 : w17.cell? ⟨gb101, 2, none⟩ = some (.slice A0_2 l0_2.length c0_2) := (blk_cell BK101.out 2).trans rfl; have hcz18_3 : w17.cell? ⟨gb101, 3, none⟩ = some (.int .i64 a0_3) := (blk_cell BK101.out 3).trans rfl; have hcz18_4 : w17.cell? ⟨gb101, 4, none⟩ = some (.bool a0_4) := (blk_cell BK101.out 4).trans rfl; have hcz18_5 : w17.cell? ⟨gb101, 5, none⟩ = some (.bool a0_5) := (blk_cell BK101.out 5).trans rfl; have hfz18_0 := blk_frozen BK101.out 0; have hfz18_1 := blk_frozen BK101.out 1; have hfz18_2 := blk_frozen BK101.out 2; have hfz18_3 := blk_frozen BK101.out 3; have hfz18_4 := blk_frozen BK101.out 4; have hfz18_5 := blk_frozen BK101.out 5; have p104 : 0 ≤ (t103 : Int) := of_decide_eq_true (by first | (with_reducible assumption) | assumption); have q104 : t103 < (l0_2.length : Int) := of_decide_eq_true (by first | (with_reducible assumption) | assumption); obtain ⟨ad104, e104, hx104_0, hx104_1, hx104_2, hx104_3, hx104_4, hx104_5⟩ := at_T39 HR0_2.out t103 p104 q104; cases e104; replace hx104_0 := (HB.out.cell (World.block_lt_of_cell? w _ hx104_0)).trans hx104_0; replace hx104_1 := (HB.out.cell (World.block_lt_of_cell? w _ hx104_1)).trans hx104_1; replace hx104_2 := (HB.out.cell (World.block_lt_of_cell? w _ hx104_2)).trans hx104_2; replace hx104_3 := (HB.out.cell (World.block_lt_of_cell? w _ hx104_3)).trans hx104_3; replace hx104_4 := (HB.out.cell (World.block_lt_of_cell? w _ hx104_4)).trans hx104_4; replace hx104_5 := (HB.out.cell (World.block_lt_of_cell? w _ hx104_5)).trans hx104_5; replace p104 := eq_true p104; replace q104 := eq_true q104; have hcz19_0 : w17.cell? ⟨gb102, 0, none⟩ = some (.bool false) := (blk_cell BK102.out 0).trans rfl; have hcz19_1 : w17.cell? ⟨gb102, 1, none⟩ = some (.bool false) := (blk_cell BK102.out 1).trans rfl; have hcz19_2 : w17.cell? ⟨gb102, 2, none⟩ = some (.int .i64 0) := (blk_cell BK102.out 2).trans rfl; have hcz19_3 : w17.cell? ⟨gb102, 3, none⟩ = some (.bool false) := (blk_cell BK102.out 3).trans rfl; have hfz19_0 := blk_frozen BK102.out 0; have hfz19_1 := blk_frozen BK102.out 1; have hfz19_2 := blk_frozen BK102.out 2; have hfz19_3 := blk_frozen BK102.out 3))
        refine bodyPost_ret (results_cell_row rfl _ _ gb102 33 #[.bool ((rd_T39 l0_2 t103).f1.f0), .bool ((rd_T39 l0_2 t103).f1.f1), .int .i64 ((rd_T39 l0_2 t103).f1.f2), .bool ((rd_T39 l0_2 t103).f1.f3)] (0, 0) _ rfl (by (with_reducible repeat (first | refine blk_drewN ?_ _ | refine blk_drew ?_ | refine blk_alloc ?_ _)); refine blk_put (cs := #[.bool ((rd_T39 l0_2 t103).f1.f0), .bool ((rd_T39 l0_2 t103).f1.f1), .int .i64 ((rd_T39 l0_2 t103).f1.f2), .bool false]) ?_ 3 _ rfl; (with_reducible repeat (first | refine blk_drewN ?_ _ | refine blk_drew ?_ | refine blk_alloc ?_ _)); refine blk_put (cs := #[.bool ((rd_T39 l0_2 t103).f1.f0), .bool ((rd_T39 l0_2 t103).f1.f1), .int .i64 0, .bool false]) ?_ 2 _ rfl; (with_reducible repeat (first | refine blk_drewN ?_ _ | refine blk_drew ?_ | refine blk_alloc ?_ _)); refine blk_put (cs := #[.bool ((rd_T39 l0_2 t103).f1.f0), .bool false, .int .i64 0, .bool false]) ?_ 1 _ rfl; (with_reducible repeat (first | refine blk_drewN ?_ _ | refine blk_drew ?_ | refine blk_alloc ?_ _)); refine blk_put (cs := #[.bool false, .bool false, .int .i64 0, .bool false]) ?_ 0 _ rfl; (with_reducible repeat (first | refine blk_drewN ?_ _ | refine blk_drew ?_ | refine blk_alloc ?_ _)); exact BK102.out) Try.underlying33 rfl (by kernel_rfl)) rfl ?_
        exact ⟨by first | rfl | (simp [errW_none, errW_some] <;> rfl) | (simp [*, errW_none, errW_some] <;> rfl), by repeat (first | (with_reducible first | exact HB.out | apply below_alloc | apply pw_below_drewN | apply below_drew1 | refine below_set ?_ GE101.out | refine below_set ?_ GE102.out) | exact HB.out)⟩
      · rw [if_neg c12] at H
        exact absurd H (by simp)
    · rw [if_neg c11] at H
      exact absurd H (by simp)

/-! ### field_Open: function 20 -/
def field_Open.f (a0_0 : Int) (a0_1 : Int) (l0_2 : List (S39)) (a0_3 : Int) (a0_4 : Bool) (a0_5 : Bool) (a1 : Int) : Option (Bool) := if 0 ≤ a1 then (if a1 < (l0_2.length : Int) then (if ((rd_T39 l0_2 a1).f0 = true) then (some false) else ((field_Of.f a0_0 a0_1 l0_2 a0_3 a0_4 a0_5 a1).bind fun bt107 => (some (!bt107.1)))) else (none)) else (none)
set_option maxHeartbeats 8000000 in
set_option maxRecDepth 100000 in
theorem field_Open.calls (a0_0 : Int) (a0_1 : Int) (A0_2 : Option Addr) (c0_2 : Nat) (l0_2 : List (S39)) (a0_3 : Int) (a0_4 : Bool) (a0_5 : Bool) (a1 : Int) (r : Bool) (w : World) (hr0_2 : Kd.C k39 w A0_2 l0_2.length l0_2) (hc0_2 : l0_2.length ≤ c0_2) (h : field_Open.f a0_0 a0_1 l0_2 a0_3 a0_4 a0_5 a1 = some r) :
    Calls Try.prog 20 #[.agg #[.int .i64 a0_0, .int .i64 a0_1, .slice A0_2 l0_2.length c0_2, .int .i64 a0_3, .bool a0_4, .bool a0_5], .int .i64 a1] w fun e w' => e = .returned (.bool r) ∧ Below w.heap.size w w' := by
  have hu24 := Try.underlying24
  have hu33 := Try.underlying33
  have HR0_2 := Aside0.mk hr0_2
  have HC0_2 := Aside0.mk hc0_2
  clear hr0_2 hc0_2
  have HB := Aside0.mk (Below.refl w.heap.size w)
  have H : (if 0 ≤ a1 then (if a1 < (l0_2.length : Int) then (if ((rd_T39 l0_2 a1).f0 = true) then (some false) else ((field_Of.f a0_0 a0_1 l0_2 a0_3 a0_4 a0_5 a1).bind fun bt107 => (some (!bt107.1)))) else (none)) else (none)) = some r := h
  clear h
  by_cases c3 : 0 ≤ a1
  · rw [if_pos c3] at H
    have c3b0 : decide (0 ≤ a1) = true := decide_eq_true c3
    clear c3
    by_cases c4 : a1 < (l0_2.length : Int)
    · rw [if_pos c4] at H
      have c4b0 : decide (a1 < (l0_2.length : Int)) = true := decide_eq_true c4
      clear c4
      obtain ⟨bq5, hbq5⟩ : ∃ b_ : Bool, b_ = ((rd_T39 l0_2 a1).f0) := ⟨_, rfl⟩
      replace H : (if (bq5 = true) then (some false) else ((field_Of.f a0_0 a0_1 l0_2 a0_3 a0_4 a0_5 a1).bind fun bt107 => (some (!bt107.1)))) = some r := by rw [← hbq5] at H; exact H
      have Nbq5 := Aside0.mk hbq5
      clear hbq5
      by_cases c6 : (bq5 = true)
      · subst c6
        have H1 : (some false) = some r := by rw [if_pos rfl] at H; exact H
        clear H
        have H := H1
        clear H1
        obtain rfl := Option.some.inj H
        go_enter Try.func20, Try.ntmps20
        go_wp2_with (first | ((with_reducible refine gate_dst (N := 2) rfl ?_); refine box_event ?hg (N := 2) ?hd (cs := #[.int .i64 a0_0, .int .i64 a0_1, .slice A0_2 l0_2.length c0_2, .int .i64 a0_3, .bool a0_4, .bool a0_5]) (t := 24) ?hr ?_; (case hd => rfl); (case hg => rfl); (case hr => first | (go_simp; done) | (go_simp; rfl)); intro gb105 hg w7 hbox hb; have n0_ := Aside0.mk (below_step (by repeat (first | (with_reducible first | exact HB.out | apply below_alloc | apply pw_below_drewN | apply below_drew1) | exact HB.out)) hb); have n1_ := Aside0.mk (hbox); have n2_ := Aside0.mk ((by rw [hg]; exact (below_size (by repeat (first | (with_reducible first | exact HB.out | apply below_alloc | apply pw_below_drewN | apply below_drew1) | exact HB.out))) : w.heap.size ≤ gb105)); have n3_ := Aside0.mk ((by rw [hg]; exact (below_size (by repeat (first | (with_reducible first | exact HB.out | apply below_alloc | apply pw_below_drewN | apply below_drew1) | exact HB.out))) : w.heap.size ≤ gb105)); clear HB; have HB := n0_; have BK105 := n1_; have GW105 := n2_; have GE105 := n3_; clear n0_ n1_ n2_ n3_; clear hb hbox hg; have hcz8_0 : w7.cell? ⟨gb105, 0, none⟩ = some (.int .i64 a0_0) := (blk_cell BK105.out 0).trans rfl; have hcz8_1 : w7.cell? ⟨gb105, 1, none⟩ = some (.int .i64 a0_1) := (blk_cell BK105.out 1).trans rfl; have hcz8_2 : w7.cell? ⟨gb105, 2, none⟩ = some (.slice A0_2 l0_2.length c0_2) := (blk_cell BK105.out 2).trans rfl; have hcz8_3 : w7.cell? ⟨gb105, 3, none⟩ = some (.int .i64 a0_3) := (blk_cell BK105.out 3).trans rfl; have hcz8_4 : w7.cell? ⟨gb105, 4, none⟩ = some (.bool a0_4) := (blk_cell BK105.out 4).trans rfl; have hcz8_5 : w7.cell? ⟨gb105, 5, none⟩ = some (.bool a0_5) := (blk_cell BK105.out 5).trans rfl; have hfz8_0 := blk_frozen BK105.out 0; have hfz8_1 := blk_frozen BK105.out 1; have hfz8_2 := blk_frozen BK105.out 2; have hfz8_3 := blk_frozen BK105.out 3; have hfz8_4 := blk_frozen BK105.out 4; have hfz8_5 := blk_frozen BK105.out 5; have p106 : 0 ≤ (a1 : Int) := of_decide_eq_true (by first | (with_reducible assumption) | assumption); have q106 : a1 < (l0_2.length : Int) := of_decide_eq_true (by first | (with_reducible assumption) | assumption); obtain ⟨ad106, e106, hx106_0, hx106_1, hx106_2, hx106_3, hx106_4, hx106_5⟩ := at_T39 HR0_2.out a1 p106 q106; (try rw [← Nbq5.out] at hx106_0); (try rw [← Nbq5.out] at hx106_1); (try rw [← Nbq5.out] at hx106_2); (try rw [← Nbq5.out] at hx106_4); cases e106; replace hx106_0 := (HB.out.cell (World.block_lt_of_cell? w _ hx106_0)).trans hx106_0; replace hx106_1 := (HB.out.cell (World.block_lt_of_cell? w _ hx106_1)).trans hx106_1; replace hx106_2 := (HB.out.cell (World.block_lt_of_cell? w _ hx106_2)).trans hx106_2; replace hx106_3 := (HB.out.cell (World.block_lt_of_cell? w _ hx106_3)).trans hx106_3; replace hx106_4 := (HB.out.cell (World.block_lt_of_cell? w _ hx106_4)).trans hx106_4; replace hx106_5 := (HB.out.cell (World.block_lt_of_cell? w _ hx106_5)).trans hx106_5; replace p106 := eq_true p106; replace q106 := eq_true q106))
        go_ret
        exact ⟨by first | rfl | (simp [errW_none, errW_some] <;> rfl) | (simp [*, errW_none, errW_some] <;> rfl), by repeat (first | (with_reducible first | exact HB.out | apply below_alloc | apply pw_below_drewN | apply below_drew1 | refine below_set ?_ GE105.out) | exact HB.out)⟩
      · replace c6 := Bool.eq_false_iff.mpr c6
        subst c6
        have H1 : ((field_Of.f a0_0 a0_1 l0_2 a0_3 a0_4 a0_5 a1).bind fun bt107 => (some (!bt107.1))) = some r := by rw [if_neg (show ¬ (false = true) by decide)] at H; exact H
        clear H
        have H := H1
        clear H1
        replace H := Option.bind_eq_some_iff.mp H
        obtain ⟨⟨t107, t108, t109, t110⟩, A90, H⟩ := H
        replace H : (some (!t107)) = some r := H
        have A9 := Aside0.mk A90
        clear A90
        obtain rfl := Option.some.inj H
        go_enter Try.func20, Try.ntmps20
        go_wp2_with (first | ((with_reducible refine gate_dst (N := 2) rfl ?_); refine box_event ?hg (N := 2) ?hd (cs := #[.int .i64 a0_0, .int .i64 a0_1, .slice A0_2 l0_2.length c0_2, .int .i64 a0_3, .bool a0_4, .bool a0_5]) (t := 24) ?hr ?_; (case hd => rfl); (case hg => rfl); (case hr => first | (go_simp; done) | (go_simp; rfl)); intro gb105 hg w10 hbox hb; have n0_ := Aside0.mk (below_step (by repeat (first | (with_reducible first | exact HB.out | apply below_alloc | apply pw_below_drewN | apply below_drew1) | exact HB.out)) hb); have n1_ := Aside0.mk (hbox); have n2_ := Aside0.mk ((by rw [hg]; exact (below_size (by repeat (first | (with_reducible first | exact HB.out | apply below_alloc | apply pw_below_drewN | apply below_drew1) | exact HB.out))) : w.heap.size ≤ gb105)); have n3_ := Aside0.mk ((by rw [hg]; exact (below_size (by repeat (first | (with_reducible first | exact HB.out | apply below_alloc | apply pw_below_drewN | apply below_drew1) | exact HB.out))) : w.heap.size ≤ gb105)); clear HB; have HB := n0_; have BK105 := n1_; have GW105 := n2_; have GE105 := n3_; clear n0_ n1_ n2_ n3_; clear hb hbox hg; have hcz11_0 : w10.cell? ⟨gb105, 0, none⟩ = some (.int .i64 a0_0) := (blk_cell BK105.out 0).trans rfl; have hcz11_1 : w10.cell? ⟨gb105, 1, none⟩ = some (.int .i64 a0_1) := (blk_cell BK105.out 1).trans rfl; have hcz11_2 : w10.cell? ⟨gb105, 2, none⟩ = some (.slice A0_2 l0_2.length c0_2) := (blk_cell BK105.out 2).trans rfl; have hcz11_3 : w10.cell? ⟨gb105, 3, none⟩ = some (.int .i64 a0_3) := (blk_cell BK105.out 3).trans rfl; have hcz11_4 : w10.cell? ⟨gb105, 4, none⟩ = some (.bool a0_4) := (blk_cell BK105.out 4).trans rfl; have hcz11_5 : w10.cell? ⟨gb105, 5, none⟩ = some (.bool a0_5) := (blk_cell BK105.out 5).trans rfl; have hfz11_0 := blk_frozen BK105.out 0; have hfz11_1 := blk_frozen BK105.out 1; have hfz11_2 := blk_frozen BK105.out 2; have hfz11_3 := blk_frozen BK105.out 3; have hfz11_4 := blk_frozen BK105.out 4; have hfz11_5 := blk_frozen BK105.out 5; have p106 : 0 ≤ (a1 : Int) := of_decide_eq_true (by first | (with_reducible assumption) | assumption); have q106 : a1 < (l0_2.length : Int) := of_decide_eq_true (by first | (with_reducible assumption) | assumption); obtain ⟨ad106, e106, hx106_0, hx106_1, hx106_2, hx106_3, hx106_4, hx106_5⟩ := at_T39 HR0_2.out a1 p106 q106; (try rw [← Nbq5.out] at hx106_0); (try rw [← Nbq5.out] at hx106_1); (try rw [← Nbq5.out] at hx106_2); (try rw [← Nbq5.out] at hx106_4); cases e106; replace hx106_0 := (HB.out.cell (World.block_lt_of_cell? w _ hx106_0)).trans hx106_0; replace hx106_1 := (HB.out.cell (World.block_lt_of_cell? w _ hx106_1)).trans hx106_1; replace hx106_2 := (HB.out.cell (World.block_lt_of_cell? w _ hx106_2)).trans hx106_2; replace hx106_3 := (HB.out.cell (World.block_lt_of_cell? w _ hx106_3)).trans hx106_3; replace hx106_4 := (HB.out.cell (World.block_lt_of_cell? w _ hx106_4)).trans hx106_4; replace hx106_5 := (HB.out.cell (World.block_lt_of_cell? w _ hx106_5)).trans hx106_5; replace p106 := eq_true p106; replace q106 := eq_true q106) | (go_at_call 18; (with_reducible refine (field_Of.calls a0_0 a0_1 _ _ l0_2 a0_3 a0_4 a0_5 a1 t107 t108 t109 t110 _ ?side1 ?side2 A9.out).mono ?_); (case side1 => repeat (first | exact (Kd.C_below HR0_2.out HB.out) | (with_reducible refine Kd.C_alloc ?_ _) | (with_reducible refine Kd.C_drewN ?_ _) | (with_reducible refine Kd.C_drew ?_))); (case side2 => exact HC0_2.out); rintro e w12 ⟨rfl, hb⟩; have n0_ := Aside0.mk (blk_below (g := gb105) (o := .cells #[.int .i64 a0_0, .int .i64 a0_1, .slice (some ad106) l0_2.length c0_2, .int .i64 a0_3, .bool a0_4, .bool a0_5] 24 (0, 0)) (by (with_reducible repeat (first | refine blk_drewN ?_ _ | refine blk_drew ?_ | refine blk_alloc ?_ _)); exact BK105.out) hb); have n1_ := Aside0.mk (below_step (by repeat (first | (with_reducible first | exact HB.out | apply below_alloc | apply pw_below_drewN | apply below_drew1 | refine below_set ?_ GE105.out) | exact HB.out)) hb); clear BK105; clear HB; have BK105 := n0_; have HB := n1_; clear n0_ n1_; (try clear hb); (try clear hb2); (try clear hk); (try clear hi)))
        go_ret
        exact ⟨by first | rfl | (simp [errW_none, errW_some] <;> rfl) | (simp [*, errW_none, errW_some] <;> rfl), by repeat (first | (with_reducible first | exact HB.out | apply below_alloc | apply pw_below_drewN | apply below_drew1 | refine below_set ?_ GE105.out) | exact HB.out)⟩
    · rw [if_neg c4] at H
      exact absurd H (by simp)
  · rw [if_neg c3] at H
    exact absurd H (by simp)

/-! ### grid_On: function 41 -/
def grid_On.f (a0_0 : Int) (a0_1 : Int) (l0_2 : List (S39)) (a0_3 : Int) (a0_4 : Bool) (a0_5 : Bool) (a1 : Int) (a2 : Int) : Option (Int) := if (l0_2.length : Int) = 0 then (none) else (some (Int.tmod (wrap64 ((wrap64 (a1 + (Int.tmod a2 (l0_2.length : Int)))) + (l0_2.length : Int))) (l0_2.length : Int)))
set_option maxHeartbeats 8000000 in
set_option maxRecDepth 100000 in
theorem grid_On.calls (a0_0 : Int) (a0_1 : Int) (A0_2 : Option Addr) (c0_2 : Nat) (l0_2 : List (S39)) (a0_3 : Int) (a0_4 : Bool) (a0_5 : Bool) (a1 : Int) (a2 : Int) (r : Int) (w : World) (hr0_2 : Kd.C k39 w A0_2 l0_2.length l0_2) (hc0_2 : l0_2.length ≤ c0_2) (h : grid_On.f a0_0 a0_1 l0_2 a0_3 a0_4 a0_5 a1 a2 = some r) :
    Calls Try.prog 41 #[.agg #[.int .i64 a0_0, .int .i64 a0_1, .slice A0_2 l0_2.length c0_2, .int .i64 a0_3, .bool a0_4, .bool a0_5], .int .i64 a1, .int .i64 a2] w fun e w' => e = .returned (.int .i64 r) ∧ Below w.heap.size w w' := by
  have hu24 := Try.underlying24
  have HR0_2 := Aside0.mk hr0_2
  have HC0_2 := Aside0.mk hc0_2
  clear hr0_2 hc0_2
  have HB := Aside0.mk (Below.refl w.heap.size w)
  have H : (if (l0_2.length : Int) = 0 then (none) else (some (Int.tmod (wrap64 ((wrap64 (a1 + (Int.tmod a2 (l0_2.length : Int)))) + (l0_2.length : Int))) (l0_2.length : Int)))) = some r := h
  clear h
  by_cases c4 : (l0_2.length : Int) = 0
  · rw [if_pos c4] at H
    exact absurd H (by simp)
  · rw [if_neg c4] at H
    have c4b0 : ((l0_2.length : Int) == 0) = false := beq_eq_false_iff_ne.mpr c4
    have c4b1 : ((l0_2.length : Int) != 0) = true := bne_iff_ne.mpr c4
    have c4b2 : ¬ (l0_2 = []) := fun h_ => c4 (by rw [h_]; rfl)
    obtain rfl := Option.some.inj H
    go_enter Try.func41, Try.ntmps41
    go_wp2_with (first | ((with_reducible refine gate_dst (N := 3) rfl ?_); refine box_event ?hg (N := 3) ?hd (cs := #[.int .i64 a0_0, .int .i64 a0_1, .slice A0_2 l0_2.length c0_2, .int .i64 a0_3, .bool a0_4, .bool a0_5]) (t := 24) ?hr ?_; (case hd => rfl); (case hg => rfl); (case hr => first | (go_simp; done) | (go_simp; rfl)); intro gb111 hg w5 hbox hb; have n0_ := Aside0.mk (below_step (by repeat (first | (with_reducible first | exact HB.out | apply below_alloc | apply pw_below_drewN | apply below_drew1) | exact HB.out)) hb); have n1_ := Aside0.mk (hbox); have n2_ := Aside0.mk ((by rw [hg]; exact (below_size (by repeat (first | (with_reducible first | exact HB.out | apply below_alloc | apply pw_below_drewN | apply below_drew1) | exact HB.out))) : w.heap.size ≤ gb111)); have n3_ := Aside0.mk ((by rw [hg]; exact (below_size (by repeat (first | (with_reducible first | exact HB.out | apply below_alloc | apply pw_below_drewN | apply below_drew1) | exact HB.out))) : w.heap.size ≤ gb111)); clear HB; have HB := n0_; have BK111 := n1_; have GW111 := n2_; have GE111 := n3_; clear n0_ n1_ n2_ n3_; clear hb hbox hg; have hcz6_0 : w5.cell? ⟨gb111, 0, none⟩ = some (.int .i64 a0_0) := (blk_cell BK111.out 0).trans rfl; have hcz6_1 : w5.cell? ⟨gb111, 1, none⟩ = some (.int .i64 a0_1) := (blk_cell BK111.out 1).trans rfl; have hcz6_2 : w5.cell? ⟨gb111, 2, none⟩ = some (.slice A0_2 l0_2.length c0_2) := (blk_cell BK111.out 2).trans rfl; have hcz6_3 : w5.cell? ⟨gb111, 3, none⟩ = some (.int .i64 a0_3) := (blk_cell BK111.out 3).trans rfl; have hcz6_4 : w5.cell? ⟨gb111, 4, none⟩ = some (.bool a0_4) := (blk_cell BK111.out 4).trans rfl; have hcz6_5 : w5.cell? ⟨gb111, 5, none⟩ = some (.bool a0_5) := (blk_cell BK111.out 5).trans rfl; have hfz6_0 := blk_frozen BK111.out 0; have hfz6_1 := blk_frozen BK111.out 1; have hfz6_2 := blk_frozen BK111.out 2; have hfz6_3 := blk_frozen BK111.out 3; have hfz6_4 := blk_frozen BK111.out 4; have hfz6_5 := blk_frozen BK111.out 5))
    go_ret
    exact ⟨by first | rfl | (simp [errW_none, errW_some] <;> rfl) | (simp [*, errW_none, errW_some] <;> rfl), by repeat (first | (with_reducible first | exact HB.out | apply below_alloc | apply pw_below_drewN | apply below_drew1 | refine below_set ?_ GE111.out) | exact HB.out)⟩

end Go.Proofs.Ytapcfcagjlmgjaa.P
