/- The functions of the seat's laws as plain Lean functions, and that Go's code comes to just their answers. Written by pp.py (wip/tools), a program of this session, on the kit's print. -/
import Derived.Test.YtapcfcagjlmgjaaDoorPx0
namespace Go.Proofs.YtapcfcagjlmgjaaDoor.P
open Go.RowKit Go.Proofs.YtapcfcagjlmgjaaDoorW.PrintWords Go.Proofs.YtapcfcagjlmgjaaDoorW.PrintLast Go.Proofs.YtapcfcagjlmgjaaDoorW.PrintMore
attribute [local go_sem] max2_int min2_int max_two min_two max_three min_three max_four min_four   -- for this text's walks alone
attribute [local go_sem] Instr.field asAgg
set_option linter.unusedVariables false
set_option linter.unusedSimpArgs false

section
open Go.Shelf
attribute [local go_sem] Oper.semAt_some

theorem rd_getElem (l : List S44) (k : Nat) (hk : k < l.length) : rd_T44 l (k : Int) = l[k] := by
 unfold rd_T44; rw [Int.toNat_natCast]; simp [List.getD, hk]
def onI (n : Nat) (a d : Int) : Int := (a + d) % (n : Int)
theorem onI_nonneg {n : Nat} (h : 0 < n) (a d : Int) : 0 ≤ onI n a d := Int.emod_nonneg _ (by omega)
theorem onI_lt {n : Nat} (h : 0 < n) (a d : Int) : onI n a d < n := Int.emod_lt_of_pos _ (by omega)

theorem on_eq (n : Nat) (h : 0 < n) (hn : n ≤ 16383) (a d : Int) (h0 : 0 ≤ a) (h1 : a < n) :
  Int.tmod (wrap64 ((wrap64 (a + (Int.tmod d (n : Int)))) + (n : Int))) (n : Int) = onI n a d := by
 have m0 := Int.lt_tmod_of_pos d (b := (n : Int)) (by omega)
 have m1 := Int.tmod_lt_of_pos d (b := (n : Int)) (by omega)
 have e1 : wrap64 (a + Int.tmod d n) = a + Int.tmod d n := by unfold wrap64; omega
 have e2 : wrap64 (a + Int.tmod d n + n) = a + Int.tmod d n + n := by unfold wrap64; omega
 rw [e1, e2, Int.tmod_eq_emod_of_nonneg (by omega), Int.tmod_def, onI]
 have e3 : a + (d - n * d.tdiv n) + n = a + d + n * (1 - d.tdiv n) := by rw [Int.mul_sub]; omega
 rw [e3, Int.add_mul_emod_self_left]

def sgnI (d : Int) : Int := if d < 0 then -1 else 1
def wayI (n : Nat) (a d : Int) (j : Nat) : Int := (a + d + sgnI d * j) % (n : Int)
theorem wayI_zero (n : Nat) (a d : Int) : wayI n a d 0 = onI n a d := by simp [wayI, onI]
theorem wayI_succ (n : Nat) (a d : Int) (j : Nat) : wayI n a d (j + 1) = onI n (wayI n a d j) (sgnI d) := by
 unfold wayI onI
 rw [Int.emod_add_emod]
 congr 1
 rw [Int.natCast_add, Int.mul_add]; simp; omega
theorem wayI_nonneg {n : Nat} (h : 0 < n) (a d : Int) (j : Nat) : 0 ≤ wayI n a d j := Int.emod_nonneg _ (by omega)
theorem wayI_lt {n : Nat} (h : 0 < n) (a d : Int) (j : Nat) : wayI n a d j < n := Int.emod_lt_of_pos _ (by omega)

def uptoI {α : Type} (f : Nat → α) (k : Nat) : List α := (List.range k).map f
theorem uptoI_succ {α : Type} (f : Nat → α) (k : Nat) : uptoI f (k + 1) = uptoI f k ++ [f k] := by simp [uptoI, List.range_succ]
theorem uptoI_length {α : Type} (f : Nat → α) (k : Nat) : (uptoI f k).length = k := by simp [uptoI]

set_option maxRecDepth 100000 in
set_option maxHeartbeats 1000000 in
theorem On_exact (r c : Int) (A : Option Addr) (n cp : Nat) (cu : Int) (lo ins : Bool) (a d : Int) (w : World) (h : 0 < n) (hn : n ≤ 16383) (h0 : 0 ≤ a) (h1 : a < n) :
  Calls Tryd.prog 29 #[.agg #[.int .i64 r, .int .i64 c, .slice A n cp, .int .i64 cu, .bool lo, .bool ins], .int .i64 a, .int .i64 d] w fun e w' => e = .returned (.int .i64 (onI n a d)) ∧ w' = w.alloc (.cells #[.int .i64 r, .int .i64 c, .slice A n cp, .int .i64 cu, .bool lo, .bool ins] 24) := by
 have hu24 := Tryd.underlying24
 have hz : ((n : Int) == 0) = false := by simp; omega
 have HE := on_eq n h hn a d h0 h1
 go_enter Tryd.func29, Tryd.ntmps29
 go_wp2
 go_ret
 exact ⟨rfl, rfl⟩

set_option maxRecDepth 100000 in
theorem Sign_exact (d : Int) (w : World) : Calls Tryd.prog 50 #[.int .i64 d] w fun e w' => e = .returned (.int .i64 (sgnI d)) ∧ w' = w := by
 by_cases hd : d < 0
 ·have hdb : decide (d < 0) = true := decide_eq_true hd
  go_enter Tryd.func50, Tryd.ntmps50
  go_wp2
  go_ret
  exact ⟨by simp [sgnI, hd], rfl⟩
 ·have hdb : decide (d < 0) = false := decide_eq_false hd
  go_enter Tryd.func50, Tryd.ntmps50
  go_wp2
  go_ret
  exact ⟨by simp [sgnI, hd], rfl⟩

abbrev Rng (n : Nat) := { x : Int // 0 ≤ x ∧ x < n }
def wayS {n : Nat} (h : 0 < n) (a d : Int) (j : Nat) : Rng n := ⟨wayI n a d j, wayI_nonneg h a d j, wayI_lt h a d j⟩

theorem abides_alloc {β : Type} {B : Nat} {J : β → World → Prop} (h : AbidesFrom B J) {s : β} {W : World} (o : Obj) (hs : J s W) : J s (W.alloc o) := h s W _ none hs (World.grownBy_alloc W o none) (fun r e => by cases e)
theorem abides_drew {β : Type} {B : Nat} {J : β → World → Prop} (h : AbidesFrom B J) {s : β} {W : World} (hs : J s W) : J s W.drew := h s W _ none hs ⟨rfl, rfl, rfl, Nat.le_refl _, fun _ _ _ => rfl⟩ (fun r e => by cases e)

/-- What an iterator of 'round' wants kept between two rounds: its three variables. -/
def Keep3 (b1 b2 b3 : Nat) (W W' : World) : Prop := W.heap.size ≤ W'.heap.size ∧ W'.heap[b1]? = W.heap[b1]? ∧ W'.heap[b2]? = W.heap[b2]? ∧ W'.heap[b3]? = W.heap[b3]?
theorem Keep3.refl (b1 b2 b3 : Nat) (W : World) : Keep3 b1 b2 b3 W W := ⟨Nat.le_refl _, rfl, rfl, rfl⟩
theorem Keep3.trans {b1 b2 b3 : Nat} {A B C : World} (h : Keep3 b1 b2 b3 A B) (k : Keep3 b1 b2 b3 B C) : Keep3 b1 b2 b3 A C := ⟨Nat.le_trans h.1 k.1, k.2.1.trans h.2.1, k.2.2.1.trans h.2.2.1, k.2.2.2.trans h.2.2.2⟩
theorem Keep3.below {b1 b2 b3 B : Nat} {W W' : World} (h : Below B W W') (h1 : b1 < B) (h2 : b2 < B) (h3 : b3 < B) : Keep3 b1 b2 b3 W W' := ⟨h.size, h.block _ h1, h.block _ h2, h.block _ h3⟩
theorem Keep3.put {b1 b2 b3 : Nat} {w : World} (h1 : b1 < w.heap.size) (h2 : b2 < w.heap.size) (h3 : b3 < w.heap.size) (W : World) (l : Nat) (o o' : Obj) (hl : w.heap.size ≤ l) (_ : W.heap[l]? = some o) (_ : o.isCells = false) (_ : o.isWalk = false) : Keep3 b1 b2 b3 W (W.putObj l o') :=
 ⟨by simp, World.putObj_heap_other (by omega), World.putObj_heap_other (by omega), World.putObj_heap_other (by omega)⟩

set_option maxRecDepth 100000 in
set_option maxHeartbeats 2000000 in
theorem round1_in (m : Nat) (hm : 1 ≤ m) (l Bs Ba Bb : Nat) (r c : Int) (A : Option Addr) (n cp : Nat) (cu : Int) (lo ins : Bool) (a d : Int) (h : 0 < n) (hn : n ≤ 16383) (h0 : 0 ≤ a) (h1 : a < n)
  (J Jx : List (Rng n) → World → Prop)
  (W : World) (hJ : AbidesFrom W.heap.size J)
  (hY : ∀ pre x W, J pre W → pre.length < n → YieldAt Fence.wide (m - 1) Tryd.prog l #[.int .i64 x.1] W fun e W' =>
   (e = .returned (.bool true) ∧ J (pre ++ [x]) W' ∧ Keep3 Bs Ba Bb W W') ∨ (e = .returned (.bool false) ∧ Jx (pre ++ [x]) W'))
  (hcs : W.heap[Bs]? = some (.cells #[.int .i64 r, .int .i64 c, .slice A n cp, .int .i64 cu, .bool lo, .bool ins] 24 (0, 0))) (hA : W.heap[Ba]? = some (.cells #[.int .i64 a] 3 (0, 0))) (hD : W.heap[Bb]? = some (.cells #[.int .i64 d] 3 (0, 0))) (hJ0 : J [] W) :
  CallsIn Fence.wide m Tryd.prog 49 #[.func (.yield l) #[] #[], .pointer (some ⟨Bs, 0, none⟩), .pointer (some ⟨Ba, 0, none⟩), .pointer (some ⟨Bb, 0, none⟩)] W fun e W' => (∃ v, e = .returned v) ∧
   ((∃ ys, ys = uptoI (wayS h a d) n ∧ J ys W') ∨ (∃ pre, (∃ k, k ≤ n ∧ pre = uptoI (wayS h a d) k) ∧ Jx pre W')) := by
 have hu24 := Tryd.underlying24
 have hca : W.cell? ⟨Ba, 0, none⟩ = some (.int .i64 a) := (blk_cell hA 0).trans rfl
 have hcb : W.cell? ⟨Bb, 0, none⟩ = some (.int .i64 d) := (blk_cell hD 0).trans rfl
 have hc0 : W.cell? ⟨Bs, 0, none⟩ = some (.int .i64 r) := by simp [World.cell?, hcs]
 have hc1 : W.cell? ⟨Bs, 1, none⟩ = some (.int .i64 c) := by simp [World.cell?, hcs]
 have hc2 : W.cell? ⟨Bs, 2, none⟩ = some (.slice A n cp) := by simp [World.cell?, hcs]
 have hc3 : W.cell? ⟨Bs, 3, none⟩ = some (.int .i64 cu) := by simp [World.cell?, hcs]
 have hc4 : W.cell? ⟨Bs, 4, none⟩ = some (.bool lo) := by simp [World.cell?, hcs]
 have hc5 : W.cell? ⟨Bs, 5, none⟩ = some (.bool ins) := by simp [World.cell?, hcs]
 refine callsIn_of_wp Tryd.func49 rfl trivial ?_ rfl
 simp only [Tryd.ntmps49, List.size_toArray, List.length_cons, List.length_nil, Nat.reduceAdd, Nat.reduceSub, Array.replicate_succ, Array.replicate_zero, List.push_toArray, List.append_toArray, List.nil_append, List.cons_append]
 have hbl : Keep3 Bs Ba Bb W (W.alloc (.cells #[.int .i64 r, .int .i64 c, .slice A n cp, .int .i64 cu, .bool lo, .bool ins] 24)) := Keep3.below (below_alloc (Below.refl _ _) _) (blk_lt hcs) (blk_lt hA) (blk_lt hD)
 have p2 : (W.alloc (.cells #[.int .i64 r, .int .i64 c, .slice A n cp, .int .i64 cu, .bool lo, .bool ins] 24)).cell? ⟨Bs, 2, none⟩ = some (.slice A n cp) := (blk_cell (blk_alloc hcs _) 2).trans rfl
 gi_wp2_with (refine ⟨trivial, ?_⟩; gi_at_call 29; refine (callsIn_wide.2 (On_exact r c A n cp cu lo ins a d _ h hn h0 h1)).mono ?_; rintro e w' ⟨rfl, rfl⟩)
 gi_loopw [5, 13] (fun p i wr => ∃ k : Nat, k ≤ n ∧ i = .int .i64 k ∧ p = .int .i64 (wayI n a d k) ∧ J (uptoI (wayS h a d) k) wr ∧ Keep3 Bs Ba Bb W wr)
  (fun _ i _ => n - (intOf i).toNat)
 case atStart => exact ⟨0, Nat.zero_le _, rfl, by rw [wayI_zero], abides_alloc hJ _ hJ0, hbl⟩
 case round =>
  obtain ⟨k, hk, rfl, rfl, hJs, hnx⟩ := hrel
  by_cases hlt : k < n
  ·obtain ⟨fn, tmps, assign, body, hy, hR⟩ := hY _ (wayS h a d k) wr hJs (by rw [uptoI_length]; exact hlt)
   rw [show (wayS h a d k).1 = wayI n a d k from rfl] at hy
   gi_wp2
   refine hR.mono ?_
   rintro e W3 (⟨rfl, hJ3, hk3⟩ | ⟨rfl, hJx3⟩)
   ·have hb3 := hnx.trans hk3
    have gs := hb3.2.1.trans hcs
    have g0 := (blk_cell gs 0).trans rfl
    have g1 := (blk_cell gs 1).trans rfl
    have g2 := (blk_cell gs 2).trans rfl
    have g3 := (blk_cell gs 3).trans rfl
    have g4 := (blk_cell gs 4).trans rfl
    have g5 := (blk_cell gs 5).trans rfl
    have gd := hb3.2.2.2.trans hD
    have gb := (blk_cell gd 0).trans rfl
    have ga := hb3.2.2.1.trans hA
    have hmx : Tryd.prog.follows .mixedOrders = true := by kernel_rfl
    have hs0 := wayI_nonneg h a d k
    have hs1 := wayI_lt h a d k
    gi_wp2
    gi_region_with_o (first
     | (refine ⟨trivial, ?_⟩; gi_at_call 50; refine (callsIn_wide.2 (Sign_exact _ _)).mono ?_; rintro e w' ⟨rfl, rfl⟩)
     | (refine ⟨trivial, ?_⟩; gi_at_call 29; refine (callsIn_wide.2 (On_exact r c A n cp cu lo ins _ _ _ h hn hs0 hs1)).mono ?_; rintro e w' ⟨rfl, rfl⟩))
    all_goals
     gi_wp2
     go_roundw
     case rel => exact ⟨k + 1, by omega, by go_num, by rw [wayI_succ], by rw [uptoI_succ]; exact abides_drew hJ (abides_alloc hJ _ hJ3), hb3.trans (Keep3.below (below_drew (below_alloc (Below.refl _ _) _)) (blk_lt gs) (blk_lt ga) (blk_lt gd))⟩
     case measure => simp [intOf]; omega
   ·gi_wp2
    refine bodyPost_ret (results_none rfl _ _ _) rfl ?_
    exact ⟨⟨_, rfl⟩, .inr ⟨_, ⟨k + 1, by omega, (uptoI_succ _ _).symm⟩, hJx3⟩⟩
  ·obtain rfl : k = n := by omega
   gi_wp2
   go_end0
   exact ⟨⟨_, rfl⟩, .inl ⟨_, rfl, hJs⟩⟩

set_option maxRecDepth 100000 in
theorem Round_exact (r c : Int) (A : Option Addr) (n cp : Nat) (cu : Int) (lo ins : Bool) (a d : Int) (w : World) :
  Calls Tryd.prog 42 #[.agg #[.int .i64 r, .int .i64 c, .slice A n cp, .int .i64 cu, .bool lo, .bool ins], .int .i64 a, .int .i64 d] w fun e w' => e = .returned (.func (.func 49) #[] #[.pointer (some ⟨w.heap.size, 0, none⟩), .pointer (some ⟨w.heap.size + 1, 0, none⟩), .pointer (some ⟨w.heap.size + 1 + 1, 0, none⟩)]) ∧ w' = ((w.alloc (.cells #[.int .i64 r, .int .i64 c, .slice A n cp, .int .i64 cu, .bool lo, .bool ins] 24)).alloc (.cells #[.int .i64 a] 3)).alloc (.cells #[.int .i64 d] 3) := by
 have hu24 := Tryd.underlying24
 go_enter Tryd.func42, Tryd.ntmps42
 go_wp2
 go_ret
 exact ⟨rfl, rfl⟩

/-- The iterator that 'round' hands back, at a world behind its making. -/
theorem round_stops (m : Nat) (hm : 1 ≤ m) (Bs Ba Bb : Nat) (r c : Int) (A : Option Addr) (n cp : Nat) (cu : Int) (lo ins : Bool) (a d : Int) (h : 0 < n) (hn : n ≤ 16383) (h0 : 0 ≤ a) (h1 : a < n)
  (w : World) (hcs : w.heap[Bs]? = some (.cells #[.int .i64 r, .int .i64 c, .slice A n cp, .int .i64 cu, .bool lo, .bool ins] 24 (0, 0))) (hA : w.heap[Ba]? = some (.cells #[.int .i64 a] 3 (0, 0))) (hD : w.heap[Bb]? = some (.cells #[.int .i64 d] 3 (0, 0))) :
  SeqStopsK Fence.wide m Tryd.prog 49 #[.pointer (some ⟨Bs, 0, none⟩), .pointer (some ⟨Ba, 0, none⟩), .pointer (some ⟨Bb, 0, none⟩)] (fun x : Rng n => #[Value.int .i64 x.1]) (Keep3 Bs Ba Bb) (fun ys => ys = uptoI (wayS h a d) n) (fun pre => ∃ k, k ≤ n ∧ pre = uptoI (wayS h a d) k) n w := fun l J Jx W hW hJ _ hY hJ0 =>
 round1_in m hm l Bs Ba Bb r c A n cp cu lo ins a d h hn h0 h1 J Jx W hJ hY (blk_below hcs hW) (blk_below hA hW) (blk_below hD hW) hJ0

theorem infoInt : (Tryd.prog.info? 3).map (fun i => (i.zero, i.size, i.bytes)) = some (some (.int .i64 0), 1, 8) := by kernel_rfl
end

section
open Go.RowKit Go.Extern.Stop Go.Stop Go.Extern
/-- errors.errorType, as the program lays it. -/
def LaidG (w : World) : Prop := w.cell? ⟨0, 0, none⟩ = some (.iface 77 (.agg #[.pointer (some ⟨1, 28, none⟩)]))
theorem laidG_lt {w : World} (h : LaidG w) : 0 < w.heap.size := World.block_lt_of_cell? w _ h
theorem laidG_below {b : Nat} {w w' : World} (h : LaidG w) (hB : Below b w w') (hb : b = w.heap.size) : LaidG w' := by
 subst hb; exact (hB.cell (laidG_lt h)).trans h
theorem laidG_alloc {w : World} (h : LaidG w) (o : Obj) : LaidG (w.alloc o) := (World.cell?_alloc_lt _ _ _ (laidG_lt h)).trans h

theorem laidG_drewN {w : World} (h : LaidG w) (m : Nat) : LaidG (w.drewN m) := h
theorem laidG_drew {w : World} (h : LaidG w) : LaidG w.drew := h

theorem EA.nil_ (t : Value) (w : World) :
  Calls Tryd.prog 22 #[.nilIface, t] w fun e w' => e = .returned (.bool false) ∧ w' = w := by
 go_enter Tryd.func22, Tryd.ntmps22
 go_wp2
 go_ret
 exact ⟨rfl, rfl⟩
theorem EA.valueOfP (t : Addr) (w : World) : (ReflectliteValue.unpack (.iface 49 (.pointer (some t)))).run Tryd.prog w
  = .ok (.agg #[.pointer (some ⟨1, 49, none⟩), .pointer (some ⟨w.heap.size, 0, none⟩), .int .u64 150]) (w.alloc (.cells #[.pointer (some t)] 49)) := by kernel_rfl
theorem EA.typeP (a : Addr) (w : World) : (ReflectliteValue.methodAny (ReflectliteValue.valueError "reflectlite.Value.Type" 0) (fun t _ _ _ => ReflectliteType.toType t) #[.agg #[.pointer (some ⟨1, 49, none⟩), .pointer (some a), .int .u64 150]]).run Tryd.prog w
  = .ok (.iface 77 (.agg #[.pointer (some ⟨1, 49, none⟩)])) w := by kernel_rfl
theorem EA.methodKind (h : Value) (w : World) : (Go.method 220 77 (.agg #[h]) "Kind").run Tryd.prog w = .ok (67, h) w := by kernel_rfl
theorem EA.kindP (w : World) : ((ReflectliteType.abiMethod fun t => (fun a : Nat => Value.int IntKind.u8 (a : Int)) <$> Rtype.kind t) #[.pointer (some ⟨1, 49, none⟩)]).run Tryd.prog w = .ok (.int .u8 22) w := by kernel_rfl
theorem EA.kindE (w : World) : ((ReflectliteType.abiMethod fun t => (fun a : Nat => Value.int IntKind.u8 (a : Int)) <$> Rtype.kind t) #[.pointer (some ⟨1, 47, none⟩)]).run Tryd.prog w = .ok (.int .u8 2) w := by kernel_rfl
theorem EA.rlm (z : Sem Value) (f : TypeId → Addr → Nat → Nat → Sem Value) (v : Value) :
  ReflectliteValue.method z f #[v] = (do match ← ReflectliteValue.parts v with | none => z | some (t, a, fl) => f t a fl (fl % 32)) := rfl
theorem EA.partsP (a : Addr) (w : World) : (ReflectliteValue.parts (.agg #[.pointer (some ⟨1, 49, none⟩), .pointer (some a), .int .u64 150])).run Tryd.prog w = .ok (some (49, a, 150)) w := by kernel_rfl
theorem EA.isNilP (a p : Addr) (W : World) (ha : W.cell? a = some (.pointer (some p))) :
  (ReflectliteValue.method (ReflectliteValue.valueError "reflectlite.Value.IsNil" 0) ReflectliteValue.isNil #[.agg #[.pointer (some ⟨1, 49, none⟩), .pointer (some a), .int .u64 150]]).run Tryd.prog W = .ok (.bool false) W := by
 rw [EA.rlm]
 simp only [Sem.run_bind, EA.partsP, Result.andThen]
 simp [ReflectliteValue.isNil, loadVar, isAgg, underlying, Tryd.underlying49, ha, Result.andThen]
theorem EA.methodElem (h : Value) (w : World) : (Go.method 220 77 (.agg #[h]) "Elem").run Tryd.prog w = .ok (77, .agg #[h]) w := by kernel_rfl
theorem EA.methodImplements (h : Value) (w : World) : (Go.method 220 77 (.agg #[h]) "Implements").run Tryd.prog w = .ok (78, .agg #[h]) w := by kernel_rfl
theorem EA.methodAssignableTo (h : Value) (w : World) : (Go.method 220 77 (.agg #[h]) "AssignableTo").run Tryd.prog w = .ok (75, .agg #[h]) w := by kernel_rfl
theorem EA.elemP (w : World) : (ReflectliteType.method ReflectliteType.elem #[.agg #[.pointer (some ⟨1, 49, none⟩)]]).run Tryd.prog w = .ok (.iface 77 (.agg #[.pointer (some ⟨1, 47, none⟩)])) w := by kernel_rfl
theorem EA.implementsE (w : World) : (ReflectliteType.relation "Implements" ReflectliteType.implements_ #[.agg #[.pointer (some ⟨1, 47, none⟩)], .iface 77 (.agg #[.pointer (some ⟨1, 28, none⟩)])]).run Tryd.prog w = .ok (.bool true) w := by kernel_rfl
theorem EA.typeOfE (v : Value) (w : World) : (ReflectliteType.typeOf #[.iface 47 v]).run Tryd.prog w = .ok (.iface 77 (.agg #[.pointer (some ⟨1, 47, none⟩)])) w := by kernel_rfl
theorem EA.assignableE (w : World) : (ReflectliteType.relation "AssignableTo" ReflectliteType.assignableTo #[.agg #[.pointer (some ⟨1, 47, none⟩)], .iface 77 (.agg #[.pointer (some ⟨1, 47, none⟩)])]).run Tryd.prog w = .ok (.bool true) w := by kernel_rfl
theorem EA.valueOfE (n : Int) (w : World) : (ReflectliteValue.unpack (.iface 47 (.int .i64 n))).run Tryd.prog w
  = .ok (.agg #[.pointer (some ⟨1, 47, none⟩), .pointer (some ⟨w.heap.size, 0, none⟩), .int .u64 130]) (w.alloc (.cells #[.int .i64 n] 47)) := by kernel_rfl
theorem EA.elemOfP (w : World) : (Rtype.elem? 49).run Tryd.prog w = .ok (some 47) w := by kernel_rfl
theorem EA.mkE (p : Addr) (w : World) : (ReflectliteValue.mk 47 p ReflectliteValue.flagAddr).run Tryd.prog w = .ok (.agg #[.pointer (some ⟨1, 47, none⟩), .pointer (some p), .int .u64 386]) w := by kernel_rfl
theorem EA.elemVP (a p : Addr) (W : World) (ha : W.cell? a = some (.pointer (some p))) :
  (ReflectliteValue.method (ReflectliteValue.valueError "reflectlite.Value.Elem" 0) ReflectliteValue.elem #[.agg #[.pointer (some ⟨1, 49, none⟩), .pointer (some a), .int .u64 150]]).run Tryd.prog W
   = .ok (.agg #[.pointer (some ⟨1, 47, none⟩), .pointer (some p), .int .u64 386]) W := by
 rw [EA.rlm]
 simp only [Sem.run_bind, EA.partsP, Result.andThen]
 simp [ReflectliteValue.elem, loadVar, isAgg, underlying, Tryd.underlying49, ha, Result.andThen, EA.elemOfP, EA.mkE]
theorem EA.rls (v x : Value) : ReflectliteValue.set #[v, x] = (do
  let (some (dst, a, fl), some (src, b, _)) := (← ReflectliteValue.parts v, ← ReflectliteValue.parts x)
   | unsupported (.noEntry "extern/(internal/reflectlite.Value).Set.zeroValue")
  if fl / ReflectliteValue.flagAddr % 2 == 0 then unsupported (.noEntry "extern/(internal/reflectlite.Value).Set.unaddressable")
  let val ← loadVar src b
  if ← Rtype.directlyAssignable dst src then storeVar dst a val
  else if ← Rtype.implements dst src then
   if (← Rtype.kind src) == 20 then
    match val with
    | .nilIface => unsupported (.noEntry "extern/reflectlite: a nil value of one interface type handed on as a value of another")
    | _ => storeVar dst a val
   else storeVar dst a (.iface src val)
  else panicString ("reflectlite.Set: value of type " ++ (← Rtype.spelt src) ++ " is not assignable to type " ++ (← Rtype.spelt dst))
  pure (.tuple #[])) := rfl
theorem EA.partsEa (a : Addr) (w : World) : (ReflectliteValue.parts (.agg #[.pointer (some ⟨1, 47, none⟩), .pointer (some a), .int .u64 386])).run Tryd.prog w = .ok (some (47, a, 386)) w := by kernel_rfl
theorem EA.partsE (a : Addr) (w : World) : (ReflectliteValue.parts (.agg #[.pointer (some ⟨1, 47, none⟩), .pointer (some a), .int .u64 130])).run Tryd.prog w = .ok (some (47, a, 130)) w := by kernel_rfl
theorem EA.directE (w : World) : (Rtype.directlyAssignable 47 47).run Tryd.prog w = .ok true w := by kernel_rfl
theorem EA.sizeE (w : World) : (sizeOf 47).run Tryd.prog w = .ok 1 w := by kernel_rfl
theorem EA.setE (ta b : Addr) (n : Int) (old : Value) (W : World) (hb : W.cell? b = some (.int .i64 n)) (ht : W.cell? ta = some old) (hf : W.frozen? ta = false) :
  (ReflectliteValue.set #[.agg #[.pointer (some ⟨1, 47, none⟩), .pointer (some ta), .int .u64 386], .agg #[.pointer (some ⟨1, 47, none⟩), .pointer (some b), .int .u64 130]]).run Tryd.prog W
   = .ok (.tuple #[]) (W.setCell ta (.int .i64 n)) := by
 rw [EA.rls]
 simp only [Sem.run_bind, EA.partsEa, EA.partsE, Result.andThen]
 simp [ReflectliteValue.flagAddr, loadVar, isAgg, underlying, Tryd.underlying47, hb, Result.andThen, EA.directE, storeVar, Value.cells, storeCells, Addr.add]
 rw [run_store Tryd.prog W ta _ _ (by rfl)]
 simp [ht, hf]

set_option maxRecDepth 100000 in
set_option maxHeartbeats 4000000 in
theorem EA.hit (n : Int) (t : Addr) (old : Value) (w : World) (hg : LaidG w) (ht0 : w.cell? t = some old) (hf0 : w.frozen? t = false) :
  Calls Tryd.prog 22 #[.iface 47 (.int .i64 n), .iface 49 (.pointer (some t))] w fun ev w' => ev = .returned (.bool true) ∧ w' = ((((w.alloc (.cells #[.pointer (some t)] 49)).alloc (.cells #[.pointer (some ⟨1, 49, none⟩), .pointer (some ⟨w.heap.size, 0, none⟩), .int .u64 150] 61)).alloc (.cells #[.pointer (some ⟨1, 49, none⟩), .pointer (some ⟨w.heap.size, 0, none⟩), .int .u64 150] 61)).alloc (.cells #[.int .i64 n] 47)).setCell t (.int .i64 n) := by
 have h6 := @run_callFunc_extern Tryd.prog 35 _ (fun args => ReflectliteValue.unpack (args.getD 0 (.tuple #[]))) Tryd.func35 (by kernel_rfl) (by kernel_rfl) (by kernel_rfl) (by kernel_rfl)
 have h7 := @run_callFunc_extern Tryd.prog 36 _ (ReflectliteValue.methodAny (ReflectliteValue.valueError "reflectlite.Value.Type" 0) (fun t _ _ _ => ReflectliteType.toType t)) Tryd.func36 (by kernel_rfl) (by kernel_rfl) (by kernel_rfl) (by kernel_rfl)
 have h8 := @run_callFunc_extern Tryd.prog 37 _ (ReflectliteValue.method (ReflectliteValue.valueError "reflectlite.Value.IsNil" 0) ReflectliteValue.isNil) Tryd.func37 (by kernel_rfl) (by kernel_rfl) (by kernel_rfl) (by kernel_rfl)
 have h27 := @run_callFunc_extern Tryd.prog 67 _ (ReflectliteType.abiMethod fun t => do pure (.int .u8 (← Rtype.kind t))) Tryd.func67 (by kernel_rfl) (by kernel_rfl) (by kernel_rfl) (by kernel_rfl)
 have h37 := @run_callFunc_extern Tryd.prog 77 _ (ReflectliteType.method ReflectliteType.elem) Tryd.func77 (by kernel_rfl) (by kernel_rfl) (by kernel_rfl) (by kernel_rfl)
 have h38 := @run_callFunc_extern Tryd.prog 78 _ (ReflectliteType.relation "Implements" ReflectliteType.implements_) Tryd.func78 (by kernel_rfl) (by kernel_rfl) (by kernel_rfl) (by kernel_rfl)
 have h10 := @run_callFunc_extern Tryd.prog 45 _ ReflectliteType.typeOf Tryd.func45 (by kernel_rfl) (by kernel_rfl) (by kernel_rfl) (by kernel_rfl)
 have h35 := @run_callFunc_extern Tryd.prog 75 _ (ReflectliteType.relation "AssignableTo" ReflectliteType.assignableTo) Tryd.func75 (by kernel_rfl) (by kernel_rfl) (by kernel_rfl) (by kernel_rfl)
 have h11 := @run_callFunc_extern Tryd.prog 46 _ (ReflectliteValue.method (ReflectliteValue.valueError "reflectlite.Value.Elem" 0) ReflectliteValue.elem) Tryd.func46 (by kernel_rfl) (by kernel_rfl) (by kernel_rfl) (by kernel_rfl)
 have h12 := @run_callFunc_extern Tryd.prog 47 _ ReflectliteValue.set Tryd.func47 (by kernel_rfl) (by kernel_rfl) (by kernel_rfl) (by kernel_rfl)
 have tO := EA.typeOfE
 have mA := EA.methodAssignableTo
 have a25 := EA.assignableE
 have v25 := EA.valueOfE
 have f6 := EA.valueOfP
 have f7 := EA.typeP
 have mK := EA.methodKind
 have mE := EA.methodElem
 have mI := EA.methodImplements
 have k27 := EA.kindP
 have k25 := EA.kindE
 have e27 := EA.elemP
 have i25 := EA.implementsE
 have n8 := EA.isNilP ⟨w.heap.size, 0, none⟩ t ((w.alloc (.cells #[.pointer (some t)] 49)).alloc (.cells #[.pointer (some ⟨1, 49, none⟩), .pointer (some ⟨w.heap.size, 0, none⟩), .int .u64 150] 61)) (by simp)
 have hlt := laidG_lt hg
 have hg2 : ((w.alloc (.cells #[.pointer (some t)] 49)).alloc (.cells #[.pointer (some ⟨1, 49, none⟩), .pointer (some ⟨w.heap.size, 0, none⟩), .int .u64 150] 61)).cell? ⟨0, 0, none⟩ = some (.iface 77 (.agg #[.pointer (some ⟨1, 28, none⟩)])) := laidG_alloc (laidG_alloc hg _) _
 have htl : t.block < w.heap.size := by
  rcases Nat.lt_or_ge t.block w.heap.size with h | h
  ·exact h
  ·simp [World.cell?, Array.getElem?_eq_none h] at ht0
 have el := EA.elemVP ⟨w.heap.size, 0, none⟩ t (((w.alloc (.cells #[.pointer (some t)] 49)).alloc (.cells #[.pointer (some ⟨1, 49, none⟩), .pointer (some ⟨w.heap.size, 0, none⟩), .int .u64 150] 61)).alloc (.cells #[.pointer (some ⟨1, 49, none⟩), .pointer (some ⟨w.heap.size, 0, none⟩), .int .u64 150] 61)) (by rw [World.cell?_alloc_lt _ _ ⟨w.heap.size, 0, none⟩ (by simp; omega)]; simp)
 have st := EA.setE t ⟨w.heap.size + 1 + 1 + 1, 0, none⟩ n old ((((w.alloc (.cells #[.pointer (some t)] 49)).alloc (.cells #[.pointer (some ⟨1, 49, none⟩), .pointer (some ⟨w.heap.size, 0, none⟩), .int .u64 150] 61)).alloc (.cells #[.pointer (some ⟨1, 49, none⟩), .pointer (some ⟨w.heap.size, 0, none⟩), .int .u64 150] 61)).alloc (.cells #[.int .i64 n] 47))
  (by rw [World.cell?_alloc_at _ _ _ _ (by simp)]; rfl)
  (by rw [World.cell?_alloc_lt _ _ t (by simp; omega), World.cell?_alloc_lt _ _ t (by simp; omega), World.cell?_alloc_lt _ _ t (by simp; omega), World.cell?_alloc_lt _ _ t htl]; exact ht0)
  (by rw [World.frozen?_alloc_old _ _ t (by simp; omega), World.frozen?_alloc_old _ _ t (by simp; omega), World.frozen?_alloc_old _ _ t (by simp; omega), World.frozen?_alloc_old _ _ t (Nat.ne_of_lt htl)]; exact hf0)
 have HU := hg2
 unfold LaidG at hg
 go_enter Tryd.func22, Tryd.ntmps22
 go_wp2
 refine wp_loop_rounds 1 ?_
 rw [rounds_succ]
 go_wp2
 go_ret
 exact ⟨rfl, rfl⟩
end

/-! ### move_Moves: function 14 -/
def move_Moves.f (a0 : Int) : Option (Bool) := if a0 ≥ 2 then (some (decide (a0 ≤ 9))) else (some false)
set_option maxHeartbeats 8000000 in
set_option maxRecDepth 100000 in
theorem move_Moves.calls (a0 : Int) (r : Bool) (w : World) (h : move_Moves.f a0 = some r) :
  Calls Tryd.prog 14 #[.int .i64 a0] w fun e w' => e = .returned (.bool r) ∧ Drawn0 w w' := by
 have H : (if a0 ≥ 2 then (some (decide (a0 ≤ 9))) else (some false)) = some r := h
 clear h
 by_cases c2 : a0 ≥ 2
 ·rw [if_pos c2] at H
  have c2b0 : decide (2 ≤ a0) = true := decide_eq_true c2
  clear c2
  obtain rfl := Option.some.inj H
  go_enter Tryd.func14, Tryd.ntmps14
  go_wp2
  go_ret
  exact ⟨by first | rfl | (simp; done) | (simp [*]; done), by repeat (first | exact Drawn0.refl _ | apply Drawn0.step)⟩
 ·rw [if_neg c2] at H
  have c2b0 : decide (2 ≤ a0) = false := decide_eq_false c2
  clear c2
  obtain rfl := Option.some.inj H
  go_enter Tryd.func14, Tryd.ntmps14
  go_wp2
  go_ret
  exact ⟨by first | rfl | (simp; done) | (simp [*]; done), by repeat (first | exact Drawn0.refl _ | apply Drawn0.step)⟩

/-! ### slices_Clone_shutter_api_Cell_shutter_api_Cell: function 28 -/
section
/-- slices.Clone of cells: a nil row stays one, any other is made anew. -/
def slices_Clone_shutter_api_Cell_shutter_api_Cell.f (l : List S44) : Option (List S44) := if l.length ≤ 16383 then some l else none
set_option maxRecDepth 100000 in
set_option maxHeartbeats 4000000 in
theorem slices_Clone_shutter_api_Cell_shutter_api_Cell.calls (A0 : Option Addr) (c0 : Nat) (l0 : List (S44)) (r : List (S44)) (w : World) (hr0 : Kd.C k44 w A0 l0.length l0) (hc0 : l0.length ≤ c0) (h : slices_Clone_shutter_api_Cell_shutter_api_Cell.f l0 = some r) :
  Calls Tryd.prog 28 #[.slice A0 l0.length c0] w fun e w' => ∃ v0_ : Value, e = .returned (v0_) ∧ Kd.R k44 44 w' w.heap.size (fun _ => True) v0_ r ∧ Below w.heap.size w w' := by
 unfold slices_Clone_shutter_api_Cell_shutter_api_Cell.f at h
 by_cases hn : l0.length ≤ 16383
 ·rw [if_pos hn] at h
  obtain rfl := Option.some.inj h
  have HR := Aside0.mk hr0
  clear h hr0
  rcases A0 with _ | ad
  ·have hl : l0 = [] := by
    rcases Nat.eq_zero_or_pos l0.length with h0 | h0
    ·exact List.eq_nil_of_length_eq_zero h0
    ·obtain ⟨ad, h, _⟩ := HR.out.2.2 h0
     cases h
   subst hl
   have hE := fun (w : World) => Lib.run_eql_slice_nil (P := Tryd.prog) w 22 44 none 0 c0 0 0 Tryd.underlying22
   rw [List.length_nil]
   go_enter Tryd.func28, Tryd.ntmps28
   go_wp2
   go_ret
   exact ⟨_, rfl, Kd.R_nil _ _ _ _ _, Below.refl _ _⟩
  ·have HB := Aside0.mk (Below.refl w.heap.size w)
   have hE := fun (w : World) => Lib.run_eql_slice_nil (P := Tryd.prog) w 22 44 (some ad) l0.length c0 0 0 Tryd.underlying22
   go_enter Tryd.func28, Tryd.ntmps28
   go_wp2_with (first
    | ((with_reducible refine gate_dst (N := 5) rfl ?_); refine Kd.R_lit k44 w.heap.size 44 ?hg (N := 5) ?hd (xs := ([] : List (S44))) (inner := []) (ok := fun _ => True) (okp := fun _ => True) ?hr ?hp (fun _ hk => hk) trivial (Below.refl _ _) (Nat.le_refl _) (by simp) ?_; (case hd => rfl); (case hg => rfl); (case hr => first | (go_simp; done) | (go_simp; rfl)); (case hp => exact (Reps.none _ _)); intro v1 w1 ho hb hg_ hnew_; clear hg_ hnew_; have HO := Aside0.mk ho; have hB := Aside0.mk hb; clear ho hb HB; have HB := hB; clear hB)
    | ((with_reducible refine gate_builtin (b := .append) (xs := #[.tmp 5, .tmp 6]) rfl ?_); at_builtin; refine Kd.R_append_rows k44 (w0 := w) w.heap.size rfl (.tmp 5) (.tmp 6) 22 44 (.agg #[(.bool false), (.bool false), (.bool false), (.int .i64 0), (.bool false), (.int .u8 0)]) 40 rfl Tryd.underlying22 info44 rfl (by decide) (by omega) v1 ([] : List S44) l0 _ _ _ (fun _ => True) (fun _ => False) rfl rfl ?aO ?aR (fun _ _ h => h) (fun _ h => h.elim) ?aF ?aB ?aS ?aL ?_; (case aR => repeat (first | exact (Kd.C_below HR.out HB.out) | (with_reducible apply pC))); (case aB => exact bl_); (case aF => exact (fun _ _ => trivial)); (case aO => exact (by (with_reducible repeat apply pR); exact HO.out)); (case aS => exact (below_size bl_)); (case aL => simp only [List.length_nil]; omega); intro v2 w2 ho2 hb2 hg2 hat2; clear hg2 hat2; have HO2 := Aside0.mk ho2; have HB2 := Aside0.mk hb2; clear ho2 hb2))
   go_ret
   exact ⟨_, rfl, by have := HO2.out; rwa [List.nil_append] at this, HB2.out⟩
 ·rw [if_neg hn] at h
  cases h
end

/-! ### grid_Copy: function 19 -/
def grid_Copy.f (a0_0 : Int) (a0_1 : Int) (l0_2 : List (S44)) (a0_3 : Int) (a0_4 : Bool) (a0_5 : Bool) : Option (Int × Int × (List (S44)) × Int × Bool × Bool) := (slices_Clone_shutter_api_Cell_shutter_api_Cell.f l0_2).bind fun t103 => (some (a0_0, a0_1, t103, a0_3, a0_4, a0_5))
set_option maxHeartbeats 8000000 in
set_option maxRecDepth 100000 in
theorem grid_Copy.calls (a0_0 : Int) (a0_1 : Int) (A0_2 : Option Addr) (c0_2 : Nat) (l0_2 : List (S44)) (a0_3 : Int) (a0_4 : Bool) (a0_5 : Bool) (r1 : Int) (r2 : Int) (r3 : List (S44)) (r4 : Int) (r5 : Bool) (r6 : Bool) (w : World) (hr0_2 : Kd.C k44 w A0_2 l0_2.length l0_2) (hc0_2 : l0_2.length ≤ c0_2) (h : grid_Copy.f a0_0 a0_1 l0_2 a0_3 a0_4 a0_5 = some (r1, r2, r3, r4, r5, r6)) :
  Calls Tryd.prog 19 #[.agg #[.int .i64 a0_0, .int .i64 a0_1, .slice A0_2 l0_2.length c0_2, .int .i64 a0_3, .bool a0_4, .bool a0_5]] w fun e w' => ∃ v2_ : Value, e = .returned (.agg #[.int .i64 r1, .int .i64 r2, v2_, .int .i64 r4, .bool r5, .bool r6]) ∧ Kd.R k44 44 w' w.heap.size (fun _ => True) v2_ r3 ∧ Below w.heap.size w w' := by
 have hu24 := Tryd.underlying24
 have HR0_2 := Aside0.mk hr0_2
 have HC0_2 := Aside0.mk hc0_2
 clear hr0_2 hc0_2
 have HB := Aside0.mk (Below.refl w.heap.size w)
 have H : ((slices_Clone_shutter_api_Cell_shutter_api_Cell.f l0_2).bind fun t103 => (some (a0_0, a0_1, t103, a0_3, a0_4, a0_5))) = some (r1, r2, r3, r4, r5, r6) := h
 clear h
 replace H := Option.bind_eq_some_iff.mp H
 obtain ⟨t103, A20, H⟩ := H
 replace H : (some (a0_0, a0_1, t103, a0_3, a0_4, a0_5)) = some (r1, r2, r3, r4, r5, r6) := H
 have A2 := Aside0.mk A20
 clear A20
 simp only [Option.some.injEq, Prod.mk.injEq] at H
 obtain ⟨rfl, rfl, rfl, rfl, rfl, rfl⟩ := H
 go_enter Tryd.func19, Tryd.ntmps19
 go_wp2_with (first | ((with_reducible refine gate_dst (N := 1) rfl ?_); refine box_event ?hg (N := 1) ?hd (cs := #[.int .i64 a0_0, .int .i64 a0_1, .slice A0_2 l0_2.length c0_2, .int .i64 a0_3, .bool a0_4, .bool a0_5]) (t := 24) ?hr ?_; (case hd => rfl); (case hg => rfl); (case hr => first | (go_simp; done) | (go_simp; rfl)); intro gb101 hg w3 hbox hb; have n0_ := Aside0.mk (below_step bl_ hb); have n1_ := Aside0.mk (hbox); have n2_ := Aside0.mk ((le_new hg (below_size bl_) : w.heap.size ≤ gb101)); have n3_ := Aside0.mk ((le_new hg (below_size bl_) : w.heap.size ≤ gb101)); clear HB; have HB := n0_; have BK101 := n1_; have GW101 := n2_; have GE101 := n3_; clear n0_ n1_ n2_ n3_; clear hb hbox hg) | ((with_reducible refine gate_dst (N := 2) rfl ?_); refine box_event ?hg (N := 2) ?hd (cs := #[.int .i64 0, .int .i64 0, .slice none 0 0, .int .i64 0, .bool false, .bool false]) (t := 24) ?hr ?_; (case hd => rfl); (case hg => rfl); (case hr => first | (go_simp; done) | (go_simp; rfl)); intro gb102 hg w4 hbox hb; have n0_ := Aside0.mk (blk_below (g := gb101) (o := .cells #[.int .i64 a0_0, .int .i64 a0_1, .slice A0_2 l0_2.length c0_2, .int .i64 a0_3, .bool a0_4, .bool a0_5] 24 (0, 0)) (by (with_reducible repeat apply pK); exact BK101.out) hb); have n1_ := Aside0.mk (below_step bl_ hb); have n2_ := Aside0.mk (hbox); have n3_ := Aside0.mk ((le_new hg (below_size bl_) : w.heap.size ≤ gb102)); have n4_ := Aside0.mk ((le_new hg (below_size bl_) : w.heap.size ≤ gb102)); have n5_ := Aside0.mk ((by rw [hg]; exact Nat.ne_of_lt (blk_lt (g := gb101) (o := .cells #[.int .i64 a0_0, .int .i64 a0_1, .slice A0_2 l0_2.length c0_2, .int .i64 a0_3, .bool a0_4, .bool a0_5] 24 (0, 0)) (by (with_reducible repeat apply pK); exact BK101.out)) : gb101 ≠ gb102)); have n6_ := Aside0.mk ((by rw [hg]; exact Nat.ne_of_gt (blk_lt (g := gb101) (o := .cells #[.int .i64 a0_0, .int .i64 a0_1, .slice A0_2 l0_2.length c0_2, .int .i64 a0_3, .bool a0_4, .bool a0_5] 24 (0, 0)) (by (with_reducible repeat apply pK); exact BK101.out)) : gb102 ≠ gb101)); clear BK101; clear HB; have BK101 := n0_; have HB := n1_; have BK102 := n2_; have GW102 := n3_; have GE102 := n4_; have NB101_102 := n5_; have NB102_101 := n6_; clear n0_ n1_ n2_ n3_ n4_ n5_ n6_; clear hb hbox hg; have hnb5 := NB101_102.out; have hnc5 := NB102_101.out; obtain ⟨hcz6_0, hcz6_1, hcz6_2, hcz6_3, hcz6_4, hcz6_5, hfz6_0, hfz6_1, hfz6_2, hfz6_3, hfz6_4, hfz6_5⟩ := cells6 (show w4.heap[gb101]? = some (.cells #[.int .i64 a0_0, .int .i64 a0_1, .slice A0_2 l0_2.length c0_2, .int .i64 a0_3, .bool a0_4, .bool a0_5] _ (0, 0)) from BK101.out)) | ((with_reducible refine gate_callee (f := 28) rfl ?_); refine goesL_ (some 5) rfl rfl Tryd.func28 (by kernel_rfl) rfl #[.slice A0_2 l0_2.length c0_2] rfl ag_ ?_; (with_reducible refine (slices_Clone_shutter_api_Cell_shutter_api_Cell.calls _ _ l0_2 t103 _ ?side1 ?side2 A2.out).mono ?_); (case side1 => repeat (first | exact (Kd.C_below HR0_2.out HB.out) | (with_reducible apply pC))); (case side2 => exact HC0_2.out); rintro e w7 ⟨v104, rfl, ho0, hb⟩; refine ⟨_, rfl, ?_⟩; have n0_ := Aside0.mk (Kd.R_lower ho0 (below_size bl_)); have n1_ := Aside0.mk (blk_below (g := gb101) (o := .cells #[.int .i64 a0_0, .int .i64 a0_1, .slice A0_2 l0_2.length c0_2, .int .i64 a0_3, .bool a0_4, .bool a0_5] 24 (0, 0)) (by (with_reducible repeat apply pK); exact BK101.out) hb); have n2_ := Aside0.mk (blk_below (g := gb102) (o := .cells #[.int .i64 0, .int .i64 0, .slice none 0 0, .int .i64 0, .bool false, .bool false] 24 (0, 0)) (by (with_reducible repeat apply pK); exact BK102.out) hb); have n3_ := Aside0.mk (below_step bl_ hb); clear BK101; clear BK102; clear HB; have HO105 := n0_; have BK101 := n1_; have BK102 := n2_; have HB := n3_; clear n0_ n1_ n2_ n3_; (try clear hb); (try clear hb2); (try clear hk); (try clear hi); (try clear ho0); obtain ⟨Ao8, co8, eo8⟩ := Kd.R_slice HO105.out; subst eo8; obtain ⟨hcz9_0, hcz9_1, hcz9_2, hcz9_3, hcz9_4, hcz9_5, hfz9_0, hfz9_1, hfz9_2, hfz9_3, hfz9_4, hfz9_5⟩ := cells6 (show w7.heap[gb101]? = some (.cells #[.int .i64 a0_0, .int .i64 a0_1, .slice A0_2 l0_2.length c0_2, .int .i64 a0_3, .bool a0_4, .bool a0_5] _ (0, 0)) from BK101.out); obtain ⟨hcz10_0, hcz10_1, hcz10_2, hcz10_3, hcz10_4, hcz10_5, hfz10_0, hfz10_1, hfz10_2, hfz10_3, hfz10_4, hfz10_5⟩ := cells6 (show w7.heap[gb102]? = some (.cells #[.int .i64 0, .int .i64 0, .slice none 0 0, .int .i64 0, .bool false, .bool false] _ (0, 0)) from BK102.out)))
 refine bodyPost_ret (results_cell_row rfl _ _ gb102 24 #[.int .i64 a0_0, .int .i64 a0_1, .slice Ao8 t103.length co8, .int .i64 a0_3, .bool a0_4, .bool a0_5] (0, 0) _ rfl (by (with_reducible repeat apply pK); refine blk_put (cs := #[.int .i64 a0_0, .int .i64 a0_1, .slice Ao8 t103.length co8, .int .i64 a0_3, .bool a0_4, .bool false]) ?_ 5 _ rfl; (with_reducible repeat apply pK); refine blk_put (cs := #[.int .i64 a0_0, .int .i64 a0_1, .slice Ao8 t103.length co8, .int .i64 a0_3, .bool false, .bool false]) ?_ 4 _ rfl; (with_reducible repeat apply pK); refine blk_put (cs := #[.int .i64 a0_0, .int .i64 a0_1, .slice Ao8 t103.length co8, .int .i64 0, .bool false, .bool false]) ?_ 3 _ rfl; (with_reducible repeat apply pK); refine blk_put (cs := #[.int .i64 a0_0, .int .i64 a0_1, .slice none 0 0, .int .i64 0, .bool false, .bool false]) ?_ 2 _ rfl; (with_reducible repeat apply pK); refine blk_put (cs := #[.int .i64 a0_0, .int .i64 0, .slice none 0 0, .int .i64 0, .bool false, .bool false]) ?_ 1 _ rfl; (with_reducible repeat apply pK); refine blk_put (cs := #[.int .i64 0, .int .i64 0, .slice none 0 0, .int .i64 0, .bool false, .bool false]) ?_ 0 _ rfl; (with_reducible repeat apply pK); refine blk_far ?_ NB102_101.out _; (with_reducible repeat apply pK); exact BK102.out) Tryd.underlying24 rfl (by kernel_rfl)) rfl ?_
 exact ⟨_, by first | rfl | (simp [errW_none, errW_some] <;> rfl) | (simp [*, errW_none, errW_some] <;> rfl), by (with_reducible repeat apply pR); exact Kd.R_mono (Kd.R_far (p := ⟨gb102, 5, none⟩) (Kd.R_far (p := ⟨gb102, 4, none⟩) (Kd.R_far (p := ⟨gb102, 3, none⟩) (Kd.R_far (p := ⟨gb102, 2, none⟩) (Kd.R_far (p := ⟨gb102, 1, none⟩) (Kd.R_far (p := ⟨gb102, 0, none⟩) (Kd.R_far (p := ⟨gb101, 2, none⟩) (Kd.R_types (Kd.R_types HO105.out BK101.out (by decide)) BK102.out (by decide)) (fun _ hk => hk.1.2) (.slice Ao8 t103.length co8)) (fun _ hk => hk.2) (.int .i64 a0_0)) (fun _ hk => hk.2) (.int .i64 a0_1)) (fun _ hk => hk.2) (.slice Ao8 t103.length co8)) (fun _ hk => hk.2) (.int .i64 a0_3)) (fun _ hk => hk.2) (.bool a0_4)) (fun _ hk => hk.2) (.bool a0_5)) (fun _ hk => trivial), bl_⟩

/-! ### grid_On: function 29 -/
def grid_On.f (a0_0 : Int) (a0_1 : Int) (l0_2 : List (S44)) (a0_3 : Int) (a0_4 : Bool) (a0_5 : Bool) (a1 : Int) (a2 : Int) : Option (Int) := if (l0_2.length : Int) = 0 then (none) else (some (Int.tmod (wrap64 ((wrap64 (a1 + (Int.tmod a2 (l0_2.length : Int)))) + (l0_2.length : Int))) (l0_2.length : Int)))
set_option maxHeartbeats 8000000 in
set_option maxRecDepth 100000 in
theorem grid_On.calls (a0_0 : Int) (a0_1 : Int) (A0_2 : Option Addr) (c0_2 : Nat) (l0_2 : List (S44)) (a0_3 : Int) (a0_4 : Bool) (a0_5 : Bool) (a1 : Int) (a2 : Int) (r : Int) (w : World) (hr0_2 : Kd.C k44 w A0_2 l0_2.length l0_2) (hc0_2 : l0_2.length ≤ c0_2) (h : grid_On.f a0_0 a0_1 l0_2 a0_3 a0_4 a0_5 a1 a2 = some r) :
  Calls Tryd.prog 29 #[.agg #[.int .i64 a0_0, .int .i64 a0_1, .slice A0_2 l0_2.length c0_2, .int .i64 a0_3, .bool a0_4, .bool a0_5], .int .i64 a1, .int .i64 a2] w fun e w' => e = .returned (.int .i64 r) ∧ Below w.heap.size w w' := by
 have hu24 := Tryd.underlying24
 have HR0_2 := Aside0.mk hr0_2
 have HC0_2 := Aside0.mk hc0_2
 clear hr0_2 hc0_2
 have HB := Aside0.mk (Below.refl w.heap.size w)
 have H : (if (l0_2.length : Int) = 0 then (none) else (some (Int.tmod (wrap64 ((wrap64 (a1 + (Int.tmod a2 (l0_2.length : Int)))) + (l0_2.length : Int))) (l0_2.length : Int)))) = some r := h
 clear h
 by_cases c4 : (l0_2.length : Int) = 0
 ·rw [if_pos c4] at H
  exact absurd H (by simp)
 ·rw [if_neg c4] at H
  have c4b0 : ((l0_2.length : Int) == 0) = false := beq_eq_false_iff_ne.mpr c4
  have c4b1 : ((l0_2.length : Int) != 0) = true := bne_iff_ne.mpr c4
  have c4b2 : ¬ (l0_2 = []) := fun h_ => c4 (by rw [h_]; rfl)
  obtain rfl := Option.some.inj H
  go_enter Tryd.func29, Tryd.ntmps29
  go_wp2_with (first | ((with_reducible refine gate_dst (N := 3) rfl ?_); refine box_event ?hg (N := 3) ?hd (cs := #[.int .i64 a0_0, .int .i64 a0_1, .slice A0_2 l0_2.length c0_2, .int .i64 a0_3, .bool a0_4, .bool a0_5]) (t := 24) ?hr ?_; (case hd => rfl); (case hg => rfl); (case hr => first | (go_simp; done) | (go_simp; rfl)); intro gb106 hg w5 hbox hb; have n0_ := Aside0.mk (below_step bl_ hb); have n1_ := Aside0.mk (hbox); have n2_ := Aside0.mk ((le_new hg (below_size bl_) : w.heap.size ≤ gb106)); have n3_ := Aside0.mk ((le_new hg (below_size bl_) : w.heap.size ≤ gb106)); clear HB; have HB := n0_; have BK106 := n1_; have GW106 := n2_; have GE106 := n3_; clear n0_ n1_ n2_ n3_; clear hb hbox hg; obtain ⟨hcz6_0, hcz6_1, hcz6_2, hcz6_3, hcz6_4, hcz6_5, hfz6_0, hfz6_1, hfz6_2, hfz6_3, hfz6_4, hfz6_5⟩ := cells6 (show w5.heap[gb106]? = some (.cells #[.int .i64 a0_0, .int .i64 a0_1, .slice A0_2 l0_2.length c0_2, .int .i64 a0_3, .bool a0_4, .bool a0_5] _ (0, 0)) from BK106.out)))
  go_ret
  exact ⟨by first | rfl | (simp [errW_none, errW_some] <;> rfl) | (simp [*, errW_none, errW_some] <;> rfl), bl_⟩

end Go.Proofs.YtapcfcagjlmgjaaDoor.P
