/- pp.py and press2.py (wip/tools) wrote this text. -/
import Derived.Test.YtphboakgkmjpbaaGreatDoorJHostDoes1
namespace Go.Proofs.YtphboakgkmjpbaaGreatDoor.P
open Go.RowKit Go.Proofs.YtphboakgkmjpbaaGreatDoorW.PrintWords Go.Proofs.YtphboakgkmjpbaaGreatDoorW.PrintLast Go.Proofs.YtphboakgkmjpbaaGreatDoorW.PrintMore
attribute [local go_sem] max2_int min2_int max_two min_two max_three min_three max_four min_four
attribute [local go_sem] Instr.field asAgg
set_option linter.unusedVariables false
set_option linter.unusedSimpArgs false
set_option maxHeartbeats 8000000
set_option maxRecDepth 100000

section
open Go.Shelf
attribute [local go_sem] Oper.semAt_some

theorem rd_getElem (l : List S47) (k : Nat) (hk : k < l.length) : rd_T47 l (k : Int) = l[k] := by
 unfold rd_T47; rw [Int.toNat_natCast]; simp [List.getD, hk]
def onI (n : Nat) (a d : Int) : Int := (a + d) % (n : Int)
theorem onI_nonneg {n : Nat} (h : 0 < n) (a d : Int) : 0 ≤ onI n a d := Int.emod_nonneg _ (by omega)
theorem onI_lt {n : Nat} (h : 0 < n) (a d : Int) : onI n a d < n := Int.emod_lt_of_pos _ (by omega)

theorem on_eq (n : Nat) (h : 0 < n) (hn : n ≤ 16383) (a d : Int) (g : 0 ≤ a) (i : a < n) :
  Int.tmod (wrap64 ((wrap64 (a + (Int.tmod d (n : Int)))) + (n : Int))) (n : Int) = onI n a d := by
 have j := Int.lt_tmod_of_pos d (b := (n : Int)) (by omega)
 have k := Int.tmod_lt_of_pos d (b := (n : Int)) (by omega)
 have c : wrap64 (a + Int.tmod d n) = a + Int.tmod d n := by unfold wrap64; omega
 have e : wrap64 (a + Int.tmod d n + n) = a + Int.tmod d n + n := by unfold wrap64; omega
 rw [c, e, Int.tmod_eq_emod_of_nonneg (by omega), Int.tmod_def, onI]
 have f : a + (d - n * d.tdiv n) + n = a + d + n * (1 - d.tdiv n) := by rw [Int.mul_sub]; omega
 rw [f, Int.add_mul_emod_self_left]

def sgnI (d : Int) : Int := if d < 0 then -1 else 1
def wayI (n : Nat) (a d : Int) (j : Nat) : Int := (a + d + sgnI d * j) % (n : Int)
theorem wayI_zero (n : Nat) (a d : Int) : wayI n a d 0 = onI n a d := by simp [wayI, onI]
theorem wayI_succ (n : Nat) (a d : Int) (j : Nat) : wayI n a d (j + 1) = onI n (wayI n a d j) (sgnI d) := by
 unfold wayI onI
 rw [Int.emod_add_emod]
 congr 1
 rw [Int.natCast_add, Int.mul_add]; simp; omega
theorem wayI_nonneg {n : Nat} (h : 0 < n) (a d : Int) (j : Nat) : 0 ≤ wayI n a d j := Int.emod_nonneg _ (by omega)
theorem wayI_lt {n : Nat} (h : 0 < n) (a d : Int) (j : Nat) : wayI n a d j < n := Int.emod_lt_of_pos _ (by omega)

def uptoI {α : Type} (f : Nat → α) (k : Nat) : List α := (List.range k).map f
theorem uptoI_succ {α : Type} (f : Nat → α) (k : Nat) : uptoI f (k + 1) = uptoI f k ++ [f k] := by simp [uptoI, List.range_succ]
theorem uptoI_length {α : Type} (f : Nat → α) (k : Nat) : (uptoI f k).length = k := by simp [uptoI]

theorem On_exact (r c : Int) (A : Option Addr) (n cp : Nat) (cu : Int) (lo ins : Bool) (a d : Int) (w : World) (h : 0 < n) (hn : n ≤ 16383) (b : 0 ≤ a) (f : a < n) :
  Calls Tryz.prog 85 #[.agg #[.int .i64 r, .int .i64 c, .slice A n cp, .int .i64 cu, .bool lo, .bool ins], .int .i64 a, .int .i64 d] w fun e w' => e = .returned (.int .i64 (onI n a d)) ∧ w' = w.alloc (.cells #[.int .i64 r, .int .i64 c, .slice A n cp, .int .i64 cu, .bool lo, .bool ins] 24) := by
 have g := Tryz.underlying24
 have hz : ((n : Int) == 0) = false := by simp; omega
 have HE := on_eq n h hn a d b f
 go_enter Tryz.func85, Tryz.ntmps85
 go_wp2
 go_ret
 exact ⟨rfl, rfl⟩

theorem Sign_exact (d : Int) (w : World) : Calls Tryz.prog 89 #[.int .i64 d] w fun e w' => e = .returned (.int .i64 (sgnI d)) ∧ w' = w := by
 by_cases hd : d < 0
 ·have hdb : decide (d < 0) = true := decide_eq_true hd
  go_enter Tryz.func89, Tryz.ntmps89
  go_wp2
  go_ret
  exact ⟨by simp [sgnI, hd], rfl⟩
 have hdb : decide (d < 0) = false := decide_eq_false hd
 go_enter Tryz.func89, Tryz.ntmps89
 go_wp2
 go_ret
 exact ⟨by simp [sgnI, hd], rfl⟩

abbrev Rng (n : Nat) := { x : Int // 0 ≤ x ∧ x < n }
def wayS {n : Nat} (h : 0 < n) (a d : Int) (j : Nat) : Rng n := ⟨wayI n a d j, wayI_nonneg h a d j, wayI_lt h a d j⟩

theorem abides_alloc {β : Type} {B : Nat} {J : β → World → Prop} (h : AbidesFrom B J) {s : β} {W : World} (o : Obj) (hs : J s W) : J s (W.alloc o) := h s W _ none hs (World.grownBy_alloc W o none) (fun r e => by cases e)
theorem abides_drew {β : Type} {B : Nat} {J : β → World → Prop} (h : AbidesFrom B J) {s : β} {W : World} (hs : J s W) : J s W.drew := h s W _ none hs ⟨rfl, rfl, rfl, Nat.le_refl _, fun _ _ _ => rfl⟩ (fun r e => by cases e)

/-- What an iterator of 'round' wants kept between two rounds: its three variables. -/
def Keep3 (a b b3 : Nat) (W W' : World) : Prop := W.heap.size ≤ W'.heap.size ∧ W'.heap[a]? = W.heap[a]? ∧ W'.heap[b]? = W.heap[b]? ∧ W'.heap[b3]? = W.heap[b3]?
theorem Keep3.refl (a b b3 : Nat) (W : World) : Keep3 a b b3 W W := ⟨Nat.le_refl _, rfl, rfl, rfl⟩
theorem Keep3.trans {a b b3 : Nat} {A B C : World} (h : Keep3 a b b3 A B) (k : Keep3 a b b3 B C) : Keep3 a b b3 A C := ⟨Nat.le_trans h.1 k.1, k.2.1.trans h.2.1, k.2.2.1.trans h.2.2.1, k.2.2.2.trans h.2.2.2⟩
theorem Keep3.below {a b b3 B : Nat} {W W' : World} (h : Below B W W') (c : a < B) (d : b < B) (e : b3 < B) : Keep3 a b b3 W W' := ⟨h.size, h.block _ c, h.block _ d, h.block _ e⟩
theorem Keep3.put {a b b3 : Nat} {w : World} (c : a < w.heap.size) (d : b < w.heap.size) (e : b3 < w.heap.size) (W : World) (l : Nat) (o o' : Obj) (hl : w.heap.size ≤ l) (_ : W.heap[l]? = some o) (_ : o.isCells = false) (_ : o.isWalk = false) : Keep3 a b b3 W (W.putObj l o') :=
 ⟨by simp, World.putObj_heap_other (by omega), World.putObj_heap_other (by omega), World.putObj_heap_other (by omega)⟩

theorem round1_in (m : Nat) (hm : 1 ≤ m) (l Bs Ba Bb : Nat) (r c : Int) (A : Option Addr) (n cp : Nat) (cu : Int) (lo ins : Bool) (a d : Int) (h : 0 < n) (hn : n ≤ 16383) (t : 0 ≤ a) (u : a < n)
  (J Jx : List (Rng n) → World → Prop)
  (W : World) (hJ : AbidesFrom W.heap.size J)
  (hY : ∀ pre x W, J pre W → pre.length < n → YieldAt Fence.wide (m - 1) Tryz.prog l #[.int .i64 x.1] W fun e W' =>
   (e = .returned (.bool true) ∧ J (pre ++ [x]) W' ∧ Keep3 Bs Ba Bb W W') ∨ (e = .returned (.bool false) ∧ Jx (pre ++ [x]) W'))
  (hcs : W.heap[Bs]? = some (.cells #[.int .i64 r, .int .i64 c, .slice A n cp, .int .i64 cu, .bool lo, .bool ins] 24 (0, 0))) (hA : W.heap[Ba]? = some (.cells #[.int .i64 a] 3 (0, 0))) (hD : W.heap[Bb]? = some (.cells #[.int .i64 d] 3 (0, 0))) (g : J [] W) :
  CallsIn Fence.wide m Tryz.prog 88 #[.func (.yield l) #[] #[], .pointer (some ⟨Bs, 0, none⟩), .pointer (some ⟨Ba, 0, none⟩), .pointer (some ⟨Bb, 0, none⟩)] W fun e W' => (∃ v, e = .returned v) ∧
   ((∃ ys, ys = uptoI (wayS h a d) n ∧ J ys W') ∨ (∃ pre, (∃ k, k ≤ n ∧ pre = uptoI (wayS h a d) k) ∧ Jx pre W')) := by
 have w := Tryz.underlying24
 have hca : W.cell? ⟨Ba, 0, none⟩ = some (.int .i64 a) := (blk_cell hA 0).trans rfl
 have hcb : W.cell? ⟨Bb, 0, none⟩ = some (.int .i64 d) := (blk_cell hD 0).trans rfl
 have y : W.cell? ⟨Bs, 0, none⟩ = some (.int .i64 r) := by simp [World.cell?, hcs]
 have z : W.cell? ⟨Bs, 1, none⟩ = some (.int .i64 c) := by simp [World.cell?, hcs]
 have B : W.cell? ⟨Bs, 2, none⟩ = some (.slice A n cp) := by simp [World.cell?, hcs]
 have C : W.cell? ⟨Bs, 3, none⟩ = some (.int .i64 cu) := by simp [World.cell?, hcs]
 have D : W.cell? ⟨Bs, 4, none⟩ = some (.bool lo) := by simp [World.cell?, hcs]
 have E : W.cell? ⟨Bs, 5, none⟩ = some (.bool ins) := by simp [World.cell?, hcs]
 refine callsIn_of_wp Tryz.func88 rfl trivial ?_ rfl
 simp only [Tryz.ntmps88, List.size_toArray, List.length_cons, List.length_nil, Nat.reduceAdd, Nat.reduceSub, Array.replicate_succ, Array.replicate_zero, List.push_toArray, List.append_toArray, List.nil_append, List.cons_append]
 have hbl : Keep3 Bs Ba Bb W (W.alloc (.cells #[.int .i64 r, .int .i64 c, .slice A n cp, .int .i64 cu, .bool lo, .bool ins] 24)) := Keep3.below (below_alloc (Below.refl _ _) _) (blk_lt hcs) (blk_lt hA) (blk_lt hD)
 have p2 : (W.alloc (.cells #[.int .i64 r, .int .i64 c, .slice A n cp, .int .i64 cu, .bool lo, .bool ins] 24)).cell? ⟨Bs, 2, none⟩ = some (.slice A n cp) := (blk_cell (blk_alloc hcs _) 2).trans rfl
 gi_wp2_with (refine ⟨trivial, ?_⟩; gi_at_call 85; refine (callsIn_wide.2 (On_exact r c A n cp cu lo ins a d _ h hn t u)).mono ?_; rintro e w' ⟨rfl, rfl⟩)
 gi_loopw [5, 13] (fun p i wr => ∃ k : Nat, k ≤ n ∧ i = .int .i64 k ∧ p = .int .i64 (wayI n a d k) ∧ J (uptoI (wayS h a d) k) wr ∧ Keep3 Bs Ba Bb W wr)
  (fun _ i _ => n - (intOf i).toNat)
 case atStart => exact ⟨0, Nat.zero_le _, rfl, by rw [wayI_zero], abides_alloc hJ _ g, hbl⟩
 case round =>
  obtain ⟨k, hk, rfl, rfl, hJs, hnx⟩ := hrel
  by_cases hlt : k < n
  ·obtain ⟨fn, tmps, assign, body, hy, hR⟩ := hY _ (wayS h a d k) wr hJs (by rw [uptoI_length]; exact hlt)
   rw [show (wayS h a d k).1 = wayI n a d k from rfl] at hy
   gi_wp2
   refine hR.mono ?_
   rintro e F (⟨rfl, j, o⟩ | ⟨rfl, f⟩)
   ·have b := hnx.trans o
    have gs := b.2.1.trans hcs
    have G := (blk_cell gs 0).trans rfl
    have H := (blk_cell gs 1).trans rfl
    have I := (blk_cell gs 2).trans rfl
    have K := (blk_cell gs 3).trans rfl
    have L := (blk_cell gs 4).trans rfl
    have M := (blk_cell gs 5).trans rfl
    have gd := b.2.2.2.trans hD
    have gb := (blk_cell gd 0).trans rfl
    have ga := b.2.2.1.trans hA
    have hmx : Tryz.prog.follows .mixedOrders = true := by kernel_rfl
    have q := wayI_nonneg h a d k
    have s := wayI_lt h a d k
    gi_wp2
    gi_region_with_o (first
     | (refine ⟨trivial, ?_⟩; gi_at_call 89; refine (callsIn_wide.2 (Sign_exact _ _)).mono ?_; rintro e w' ⟨rfl, rfl⟩)
     | (refine ⟨trivial, ?_⟩; gi_at_call 85; refine (callsIn_wide.2 (On_exact r c A n cp cu lo ins _ _ _ h hn q s)).mono ?_; rintro e w' ⟨rfl, rfl⟩))
    all_goals
     gi_wp2
     go_roundw
     case rel => exact ⟨k + 1, by omega, by go_num, by rw [wayI_succ], by rw [uptoI_succ]; exact abides_drew hJ (abides_alloc hJ _ j), b.trans (Keep3.below (below_drew (below_alloc (Below.refl _ _) _)) (blk_lt gs) (blk_lt ga) (blk_lt gd))⟩
     case measure => simp [intOf]; omega
   ·gi_wp2
    refine bodyPost_ret (results_none rfl _ _ _) rfl ?_
    exact ⟨⟨_, rfl⟩, .inr ⟨_, ⟨k + 1, by omega, (uptoI_succ _ _).symm⟩, f⟩⟩
  ·obtain rfl : k = n := by omega
   gi_wp2
   go_end0
   exact ⟨⟨_, rfl⟩, .inl ⟨_, rfl, hJs⟩⟩

theorem Round_exact (r c : Int) (A : Option Addr) (n cp : Nat) (cu : Int) (lo ins : Bool) (a d : Int) (w : World) :
  Calls Tryz.prog 72 #[.agg #[.int .i64 r, .int .i64 c, .slice A n cp, .int .i64 cu, .bool lo, .bool ins], .int .i64 a, .int .i64 d] w fun e w' => e = .returned (.func (.func 88) #[] #[.pointer (some ⟨w.heap.size, 0, none⟩), .pointer (some ⟨w.heap.size + 1, 0, none⟩), .pointer (some ⟨w.heap.size + 1 + 1, 0, none⟩)]) ∧ w' = ((w.alloc (.cells #[.int .i64 r, .int .i64 c, .slice A n cp, .int .i64 cu, .bool lo, .bool ins] 24)).alloc (.cells #[.int .i64 a] 3)).alloc (.cells #[.int .i64 d] 3) := by
 have b := Tryz.underlying24
 go_enter Tryz.func72, Tryz.ntmps72
 go_wp2
 go_ret
 exact ⟨rfl, rfl⟩

/-- The iterator that 'round' hands back, at a world behind its making. -/
theorem round_stops (m : Nat) (hm : 1 ≤ m) (Bs Ba Bb : Nat) (r c : Int) (A : Option Addr) (n cp : Nat) (cu : Int) (lo ins : Bool) (a d : Int) (h : 0 < n) (hn : n ≤ 16383) (e : 0 ≤ a) (f : a < n)
  (w : World) (hcs : w.heap[Bs]? = some (.cells #[.int .i64 r, .int .i64 c, .slice A n cp, .int .i64 cu, .bool lo, .bool ins] 24 (0, 0))) (hA : w.heap[Ba]? = some (.cells #[.int .i64 a] 3 (0, 0))) (hD : w.heap[Bb]? = some (.cells #[.int .i64 d] 3 (0, 0))) :
  SeqStopsK Fence.wide m Tryz.prog 88 #[.pointer (some ⟨Bs, 0, none⟩), .pointer (some ⟨Ba, 0, none⟩), .pointer (some ⟨Bb, 0, none⟩)] (fun x : Rng n => #[Value.int .i64 x.1]) (Keep3 Bs Ba Bb) (fun ys => ys = uptoI (wayS h a d) n) (fun pre => ∃ k, k ≤ n ∧ pre = uptoI (wayS h a d) k) n w := fun l J Jx W hW hJ _ hY b =>
 round1_in m hm l Bs Ba Bb r c A n cp cu lo ins a d h hn e f J Jx W hJ hY (blk_below hcs hW) (blk_below hA hW) (blk_below hD hW) b

end

section
open Go.RowKit Go.Extern.Stop Go.Stop Go.Extern
/-- errors.errorType, as the program lays it. -/
def LaidG (w : World) : Prop := w.cell? ⟨0, 0, none⟩ = some (.iface 122 (.agg #[.pointer (some ⟨1, 34, none⟩)]))
theorem laidG_lt {w : World} (h : LaidG w) : 0 < w.heap.size := bk_ w _ h
theorem laidG_below {b : Nat} {w w' : World} (h : LaidG w) (hB : Below b w w') (hb : b = w.heap.size) : LaidG w' := by
 subst hb; exact (hB.cell (laidG_lt h)).trans h
theorem laidG_alloc {w : World} (h : LaidG w) (o : Obj) : LaidG (w.alloc o) := (World.cell?_alloc_lt _ _ _ (laidG_lt h)).trans h

theorem EA.valueOfP (t : Addr) (w : World) : (ReflectliteValue.unpack (.iface 63 (.pointer (some t)))).run Tryz.prog w
  = .ok (.agg #[.pointer (some ⟨1, 63, none⟩), .pointer (some ⟨w.heap.size, 0, none⟩), .int .u64 150]) (w.alloc (.cells #[.pointer (some t)] 63)) := by kernel_rfl
theorem EA.typeP (a : Addr) (w : World) : (ReflectliteValue.methodAny (ReflectliteValue.valueError "reflectlite.Value.Type" 0) (fun t _ _ _ => ReflectliteType.toType t) #[.agg #[.pointer (some ⟨1, 63, none⟩), .pointer (some a), .int .u64 150]]).run Tryz.prog w
  = .ok (.iface 122 (.agg #[.pointer (some ⟨1, 63, none⟩)])) w := by kernel_rfl
theorem EA.methodKind (h : Value) (w : World) : (Go.method 275 122 (.agg #[h]) "Kind").run Tryz.prog w = .ok (107, h) w := by kernel_rfl
theorem EA.kindP (w : World) : ((ReflectliteType.abiMethod fun t => (fun a : Nat => Value.int IntKind.u8 (a : Int)) <$> Rtype.kind t) #[.pointer (some ⟨1, 63, none⟩)]).run Tryz.prog w = .ok (.int .u8 22) w := by kernel_rfl
theorem EA.kindE (w : World) : ((ReflectliteType.abiMethod fun t => (fun a : Nat => Value.int IntKind.u8 (a : Int)) <$> Rtype.kind t) #[.pointer (some ⟨1, 61, none⟩)]).run Tryz.prog w = .ok (.int .u8 2) w := by kernel_rfl
theorem EA.rlm (z : Sem Value) (f : TypeId → Addr → Nat → Nat → Sem Value) (v : Value) :
  ReflectliteValue.method z f #[v] = (do match ← ReflectliteValue.parts v with | none => z | some (t, a, fl) => f t a fl (fl % 32)) := rfl
theorem EA.partsP (a : Addr) (w : World) : (ReflectliteValue.parts (.agg #[.pointer (some ⟨1, 63, none⟩), .pointer (some a), .int .u64 150])).run Tryz.prog w = .ok (some (63, a, 150)) w := by kernel_rfl
theorem EA.isNilP (a p : Addr) (W : World) (ha : W.cell? a = some (.pointer (some p))) :
  (ReflectliteValue.method (ReflectliteValue.valueError "reflectlite.Value.IsNil" 0) ReflectliteValue.isNil #[.agg #[.pointer (some ⟨1, 63, none⟩), .pointer (some a), .int .u64 150]]).run Tryz.prog W = .ok (.bool false) W := by
 rw [EA.rlm]
 simp only [Sem.run_bind, EA.partsP, Result.andThen]
 simp [ReflectliteValue.isNil, loadVar, isAgg, underlying, Tryz.underlying63, ha, Result.andThen]
theorem EA.methodElem (h : Value) (w : World) : (Go.method 275 122 (.agg #[h]) "Elem").run Tryz.prog w = .ok (119, .agg #[h]) w := by kernel_rfl
theorem EA.methodImplements (h : Value) (w : World) : (Go.method 275 122 (.agg #[h]) "Implements").run Tryz.prog w = .ok (120, .agg #[h]) w := by kernel_rfl
theorem EA.methodAssignableTo (h : Value) (w : World) : (Go.method 275 122 (.agg #[h]) "AssignableTo").run Tryz.prog w = .ok (117, .agg #[h]) w := by kernel_rfl
theorem EA.elemP (w : World) : (ReflectliteType.method ReflectliteType.elem #[.agg #[.pointer (some ⟨1, 63, none⟩)]]).run Tryz.prog w = .ok (.iface 122 (.agg #[.pointer (some ⟨1, 61, none⟩)])) w := by kernel_rfl
theorem EA.implementsE (w : World) : (ReflectliteType.relation "Implements" ReflectliteType.implements_ #[.agg #[.pointer (some ⟨1, 61, none⟩)], .iface 122 (.agg #[.pointer (some ⟨1, 34, none⟩)])]).run Tryz.prog w = .ok (.bool true) w := by kernel_rfl
theorem EA.typeOfE (v : Value) (w : World) : (ReflectliteType.typeOf #[.iface 61 v]).run Tryz.prog w = .ok (.iface 122 (.agg #[.pointer (some ⟨1, 61, none⟩)])) w := by kernel_rfl
theorem EA.assignableE (w : World) : (ReflectliteType.relation "AssignableTo" ReflectliteType.assignableTo #[.agg #[.pointer (some ⟨1, 61, none⟩)], .iface 122 (.agg #[.pointer (some ⟨1, 61, none⟩)])]).run Tryz.prog w = .ok (.bool true) w := by kernel_rfl
theorem EA.valueOfE (n : Int) (w : World) : (ReflectliteValue.unpack (.iface 61 (.int .i64 n))).run Tryz.prog w
  = .ok (.agg #[.pointer (some ⟨1, 61, none⟩), .pointer (some ⟨w.heap.size, 0, none⟩), .int .u64 130]) (w.alloc (.cells #[.int .i64 n] 61)) := by kernel_rfl
theorem EA.elemOfP (w : World) : (Rtype.elem? 63).run Tryz.prog w = .ok (some 61) w := by kernel_rfl
theorem EA.mkE (p : Addr) (w : World) : (ReflectliteValue.mk 61 p ReflectliteValue.flagAddr).run Tryz.prog w = .ok (.agg #[.pointer (some ⟨1, 61, none⟩), .pointer (some p), .int .u64 386]) w := by kernel_rfl
theorem EA.elemVP (a p : Addr) (W : World) (ha : W.cell? a = some (.pointer (some p))) :
  (ReflectliteValue.method (ReflectliteValue.valueError "reflectlite.Value.Elem" 0) ReflectliteValue.elem #[.agg #[.pointer (some ⟨1, 63, none⟩), .pointer (some a), .int .u64 150]]).run Tryz.prog W
   = .ok (.agg #[.pointer (some ⟨1, 61, none⟩), .pointer (some p), .int .u64 386]) W := by
 rw [EA.rlm]
 simp only [Sem.run_bind, EA.partsP, Result.andThen]
 simp [ReflectliteValue.elem, loadVar, isAgg, underlying, Tryz.underlying63, ha, Result.andThen, EA.elemOfP, EA.mkE]
theorem EA.rls (v x : Value) : ReflectliteValue.set #[v, x] = (do
  let (some (dst, a, fl), some (src, b, _)) := (← ReflectliteValue.parts v, ← ReflectliteValue.parts x)
   | unsupported (.noEntry "extern/(internal/reflectlite.Value).Set.zeroValue")
  if fl / ReflectliteValue.flagAddr % 2 == 0 then unsupported (.noEntry "extern/(internal/reflectlite.Value).Set.unaddressable")
  let val ← loadVar src b
  if ← Rtype.directlyAssignable dst src then storeVar dst a val
  else if ← Rtype.implements dst src then
   if (← Rtype.kind src) == 20 then
    match val with
    | .nilIface => unsupported (.noEntry "extern/reflectlite: a nil value of one interface type handed on as a value of another")
    | _ => storeVar dst a val
   else storeVar dst a (.iface src val)
  else panicString ("reflectlite.Set: value of type " ++ (← Rtype.spelt src) ++ " is not assignable to type " ++ (← Rtype.spelt dst))
  pure (.tuple #[])) := rfl
theorem EA.partsEa (a : Addr) (w : World) : (ReflectliteValue.parts (.agg #[.pointer (some ⟨1, 61, none⟩), .pointer (some a), .int .u64 386])).run Tryz.prog w = .ok (some (61, a, 386)) w := by kernel_rfl
theorem EA.partsE (a : Addr) (w : World) : (ReflectliteValue.parts (.agg #[.pointer (some ⟨1, 61, none⟩), .pointer (some a), .int .u64 130])).run Tryz.prog w = .ok (some (61, a, 130)) w := by kernel_rfl
theorem EA.directE (w : World) : (Rtype.directlyAssignable 61 61).run Tryz.prog w = .ok true w := by kernel_rfl
theorem EA.setE (ta b : Addr) (n : Int) (old : Value) (W : World) (hb : W.cell? b = some (.int .i64 n)) (ht : W.cell? ta = some old) (hf : W.frozen? ta = false) :
  (ReflectliteValue.set #[.agg #[.pointer (some ⟨1, 61, none⟩), .pointer (some ta), .int .u64 386], .agg #[.pointer (some ⟨1, 61, none⟩), .pointer (some b), .int .u64 130]]).run Tryz.prog W
   = .ok (.tuple #[]) (W.setCell ta (.int .i64 n)) := by
 rw [EA.rls]
 simp only [Sem.run_bind, EA.partsEa, EA.partsE, Result.andThen]
 simp [ReflectliteValue.flagAddr, loadVar, isAgg, underlying, Tryz.underlying61, hb, Result.andThen, EA.directE, storeVar, Value.cells, storeCells, Addr.add]
 rw [run_store Tryz.prog W ta _ _ (by rfl)]
 simp [ht, hf]

theorem EA.hit (n : Int) (t : Addr) (old : Value) (w : World) (hg : LaidG w) (a : w.cell? t = some old) (b : w.frozen? t = false) :
  Calls Tryz.prog 26 #[.iface 61 (.int .i64 n), .iface 63 (.pointer (some t))] w fun ev w' => ev = .returned (.bool true) ∧ w' = ((((w.alloc (.cells #[.pointer (some t)] 63)).alloc (.cells #[.pointer (some ⟨1, 63, none⟩), .pointer (some ⟨w.heap.size, 0, none⟩), .int .u64 150] 89)).alloc (.cells #[.pointer (some ⟨1, 63, none⟩), .pointer (some ⟨w.heap.size, 0, none⟩), .int .u64 150] 89)).alloc (.cells #[.int .i64 n] 61)).setCell t (.int .i64 n) := by
 have p := @run_callFunc_extern Tryz.prog 48 _ (fun args => ReflectliteValue.unpack (args.getD 0 (.tuple #[]))) Tryz.func48 (by kernel_rfl) (by kernel_rfl) (by kernel_rfl) (by kernel_rfl)
 have q := @run_callFunc_extern Tryz.prog 49 _ (ReflectliteValue.methodAny (ReflectliteValue.valueError "reflectlite.Value.Type" 0) (fun t _ _ _ => ReflectliteType.toType t)) Tryz.func49 (by kernel_rfl) (by kernel_rfl) (by kernel_rfl) (by kernel_rfl)
 have r := @run_callFunc_extern Tryz.prog 50 _ (ReflectliteValue.method (ReflectliteValue.valueError "reflectlite.Value.IsNil" 0) ReflectliteValue.isNil) Tryz.func50 (by kernel_rfl) (by kernel_rfl) (by kernel_rfl) (by kernel_rfl)
 have j := @run_callFunc_extern Tryz.prog 107 _ (ReflectliteType.abiMethod fun t => do pure (.int .u8 (← Rtype.kind t))) Tryz.func107 (by kernel_rfl) (by kernel_rfl) (by kernel_rfl) (by kernel_rfl)
 have l := @run_callFunc_extern Tryz.prog 119 _ (ReflectliteType.method ReflectliteType.elem) Tryz.func119 (by kernel_rfl) (by kernel_rfl) (by kernel_rfl) (by kernel_rfl)
 have m := @run_callFunc_extern Tryz.prog 120 _ (ReflectliteType.relation "Implements" ReflectliteType.implements_) Tryz.func120 (by kernel_rfl) (by kernel_rfl) (by kernel_rfl) (by kernel_rfl)
 have f := @run_callFunc_extern Tryz.prog 74 _ ReflectliteType.typeOf Tryz.func74 (by kernel_rfl) (by kernel_rfl) (by kernel_rfl) (by kernel_rfl)
 have k := @run_callFunc_extern Tryz.prog 117 _ (ReflectliteType.relation "AssignableTo" ReflectliteType.assignableTo) Tryz.func117 (by kernel_rfl) (by kernel_rfl) (by kernel_rfl) (by kernel_rfl)
 have g := @run_callFunc_extern Tryz.prog 75 _ (ReflectliteValue.method (ReflectliteValue.valueError "reflectlite.Value.Elem" 0) ReflectliteValue.elem) Tryz.func75 (by kernel_rfl) (by kernel_rfl) (by kernel_rfl) (by kernel_rfl)
 have i := @run_callFunc_extern Tryz.prog 76 _ ReflectliteValue.set Tryz.func76 (by kernel_rfl) (by kernel_rfl) (by kernel_rfl) (by kernel_rfl)
 have tO := EA.typeOfE
 have mA := EA.methodAssignableTo
 have d := EA.assignableE
 have o := EA.valueOfE
 have f6 := EA.valueOfP
 have f7 := EA.typeP
 have mK := EA.methodKind
 have mE := EA.methodElem
 have mI := EA.methodImplements
 have k27 := EA.kindP
 have k25 := EA.kindE
 have e := EA.elemP
 have i25 := EA.implementsE
 have n8 := EA.isNilP ⟨w.heap.size, 0, none⟩ t ((w.alloc (.cells #[.pointer (some t)] 63)).alloc (.cells #[.pointer (some ⟨1, 63, none⟩), .pointer (some ⟨w.heap.size, 0, none⟩), .int .u64 150] 89)) (by simp)
 have hlt := laidG_lt hg
 have c : ((w.alloc (.cells #[.pointer (some t)] 63)).alloc (.cells #[.pointer (some ⟨1, 63, none⟩), .pointer (some ⟨w.heap.size, 0, none⟩), .int .u64 150] 89)).cell? ⟨0, 0, none⟩ = some (.iface 122 (.agg #[.pointer (some ⟨1, 34, none⟩)])) := laidG_alloc (laidG_alloc hg _) _
 have htl : t.block < w.heap.size := by
  rcases Nat.lt_or_ge t.block w.heap.size with h | h
  ·exact h
  ·simp [World.cell?, Array.getElem?_eq_none h] at a
 have el := EA.elemVP ⟨w.heap.size, 0, none⟩ t (((w.alloc (.cells #[.pointer (some t)] 63)).alloc (.cells #[.pointer (some ⟨1, 63, none⟩), .pointer (some ⟨w.heap.size, 0, none⟩), .int .u64 150] 89)).alloc (.cells #[.pointer (some ⟨1, 63, none⟩), .pointer (some ⟨w.heap.size, 0, none⟩), .int .u64 150] 89)) (by rw [World.cell?_alloc_lt _ _ ⟨w.heap.size, 0, none⟩ (by simp; omega)]; simp)
 have st := EA.setE t ⟨w.heap.size + 1 + 1 + 1, 0, none⟩ n old ((((w.alloc (.cells #[.pointer (some t)] 63)).alloc (.cells #[.pointer (some ⟨1, 63, none⟩), .pointer (some ⟨w.heap.size, 0, none⟩), .int .u64 150] 89)).alloc (.cells #[.pointer (some ⟨1, 63, none⟩), .pointer (some ⟨w.heap.size, 0, none⟩), .int .u64 150] 89)).alloc (.cells #[.int .i64 n] 61))
  (by rw [World.cell?_alloc_at _ _ _ _ (by simp)]; rfl)
  (by rw [World.cell?_alloc_lt _ _ t (by simp; omega), World.cell?_alloc_lt _ _ t (by simp; omega), World.cell?_alloc_lt _ _ t (by simp; omega), World.cell?_alloc_lt _ _ t htl]; exact a)
  (by rw [World.frozen?_alloc_old _ _ t (by simp; omega), World.frozen?_alloc_old _ _ t (by simp; omega), World.frozen?_alloc_old _ _ t (by simp; omega), World.frozen?_alloc_old _ _ t (Nat.ne_of_lt htl)]; exact b)
 have HU := c
 unfold LaidG at hg
 go_enter Tryz.func26, Tryz.ntmps26
 go_wp2
 refine wp_loop_rounds 1 ?_
 rw [rounds_succ]
 go_wp2
 go_ret
 exact ⟨rfl, rfl⟩
end

section
/-! ### the builtin clear over a row of cells -/
def zcA : Array Value := #[.bool false, .bool false, .bool false, .int .i64 0, .bool false, .int .u8 0]
def zl (n : Nat) : List Value := (Builtin.zeroCells zcA n).toList
theorem setCells_app (b : Nat) : ∀ (l1 l2 : List Value) (o : Nat) (w : World), w.setCells b o (l1 ++ l2) = (w.setCells b o l1).setCells b (o + l1.length) l2
 | [], l2, o, w => rfl
 | v :: r, l2, o, w => by
  show (w.setCell ⟨b, o, none⟩ v).setCells b (o + 1) (r ++ l2) = ((w.setCell ⟨b, o, none⟩ v).setCells b (o + 1) r).setCells b (o + (r.length + 1)) l2
  rw [setCells_app b r l2, show o + 1 + r.length = o + (r.length + 1) by omega]
theorem zl_len (n : Nat) : (zl n).length = n * 6 := by simp [zl, Builtin.zeroCells, zcA]
theorem zl_get (n i : Nat) (h : i < n * 6) : (zl n)[i]? = some (zcA[i % 6]!) := by
 simp [zl, Builtin.zeroCells, zcA, h]
theorem zl_succ (n : Nat) : zl (n + 1) = zl n ++ zcA.toList := by
 apply List.ext_getElem?
 intro i
 by_cases h : i < n * 6
 ·rw [zl_get (n + 1) i (by omega), List.getElem?_append_left (by rw [zl_len]; exact h), zl_get n i h]
 ·rw [List.getElem?_append_right (by rw [zl_len]; omega), zl_len]
  by_cases a : i < (n + 1) * 6
  ·rw [zl_get (n + 1) i a]
   obtain ⟨j, rfl⟩ : ∃ j, i = n * 6 + j := ⟨i - n * 6, by omega⟩
   have hj : j < 6 := by omega
   rw [show n * 6 + j - n * 6 = j by omega, show (n * 6 + j) % 6 = j by omega]
   match j, hj with
   | 0, _ => rfl
   | 1, _ => rfl
   | 2, _ => rfl
   | 3, _ => rfl
   | 4, _ => rfl
   | 5, _ => rfl
  ·rw [List.getElem?_eq_none (by rw [zl_len]; omega), List.getElem?_eq_none (by simp [zcA]; omega)]
theorem zl_cell (n : Nat) : ∀ v ∈ zl n, v.oneCell' = true := by
 induction n with
 | zero => intro v hv; simp [zl, Builtin.zeroCells] at hv
 | succ n ih =>
  intro v hv
  rw [zl_succ] at hv
  rcases List.mem_append.1 hv with hv | hv
  ·exact ih v hv
  ·simp only [zcA, List.mem_cons, List.not_mem_nil, or_false] at hv
   rcases hv with rfl | rfl | rfl | rfl | rfl | rfl <;> rfl
theorem clear_R {base : Nat} {w : World} {g n cap : Nat} {ok : Nat → Prop} {xs : List S47} (h : Kd.R k47 47 w base ok (.slice (some ⟨g, 0, none⟩) n cap) xs) : ∀ i, i ≤ n → Kd.R k47 47 (w.setCells g 0 (zl i)) base ok (.slice (some ⟨g, 0, none⟩) n cap) (List.replicate i z47 ++ xs.drop i) ∧ w.grownBy (w.setCells g 0 (zl i)) (some g)
 | 0, _ => by
  have e : zl 0 = [] := by simp [zl, Builtin.zeroCells]
  rw [e]; exact ⟨h, World.grownBy.refl _ _⟩
 | i + 1, hi => by
  obtain ⟨hR, hg⟩ := clear_R h i (by omega)
  have hn := (Kd.R_reads' h).1
  obtain ⟨c, hcl, _, hcc, _⟩ := Kd.R_elem hR z47 (i : Int) (by omega) (by omega)
  have hS := Kd.R_seg hR (i : Int) (by omega) (by omega) (seg := zcA.toList) (j := 0) hcl hcc (by decide) (x' := z47) (okp := fun k => ok k ∧ k ≠ g) (by
   have e : c.take 0 ++ zcA.toList ++ c.drop (0 + zcA.toList.length) = zcA.toList := by
    rw [List.drop_eq_nil_of_le (by rw [hcl]; decide)]; simp
   rw [e]; exact k47_mkM _ _ _ z47) (fun _ hk => hk)
  have ew : w.setCells g 0 (zl (i + 1)) = (w.setCells g 0 (zl i)).setCells g ((i : Int).toNat * (k47).sz + 0) zcA.toList := by
   rw [zl_succ, setCells_app, zl_len]; congr 1; simp [show (k47).sz = 6 from rfl]
  have ex : List.replicate (i + 1) z47 ++ xs.drop (i + 1) = (List.replicate i z47 ++ xs.drop i).set (i : Int).toNat z47 := by
   rw [Int.toNat_natCast, List.set_append_right _ _ (by simp), List.drop_eq_getElem_cons (by omega : i < xs.length), List.replicate_succ', List.append_assoc, List.length_replicate, Nat.sub_self, sB]
   rfl
  rw [ew, ex]
  exact ⟨hS.1, hg.trans hS.2⟩
theorem clear_run {base : Nat} {w : World} {g n cap : Nat} {ok : Nat → Prop} {xs : List S47} (h : Kd.R k47 47 w base ok (.slice (some ⟨g, 0, none⟩) n cap) xs) (ty : TypeId) : (Builtin.clear_ #[22] ty #[.slice (some ⟨g, 0, none⟩) n cap]).run Tryz.prog w = .ok (.tuple #[]) (w.setCells g 0 (zl n)) := by
 have hcf : ∀ j, j < (zl n).length → (w.cell? ⟨g, 0 + 0 + j, none⟩).isSome = true ∧ w.frozen? ⟨g, 0 + 0 + j, none⟩ = false := fun j hj => by
  rw [zl_len] at hj
  have hi : j / 6 < n := by omega
  obtain ⟨c, hcl, _, hcc, hfr⟩ := Kd.R_elem h z47 ((j / 6 : Nat) : Int) (by omega) (by omega)
  have hlt : j % 6 < c.length := by rw [hcl]; show j % 6 < 6; omega
  have e : ((j / 6 : Nat) : Int).toNat * (k47).sz + j % 6 = 0 + 0 + j := by rw [Int.toNat_natCast]; show j / 6 * 6 + j % 6 = _; omega
  have a := hcc (j % 6) _ (List.getElem?_eq_getElem hlt)
  have b := hfr (j % 6)
  rw [e] at a b
  exact ⟨by rw [a]; rfl, b⟩
 have hst := run_storeCells_cells (P := Tryz.prog) g 0 (zl n) 0 w (fun j hj => (hcf j hj).1) (fun j hj => (hcf j hj).2) (zl_cell n)
 rw [show (0 : Nat) + 0 = 0 from rfl] at hst
 have hz : ∀ w, (zeroValue 47).run Tryz.prog w = .ok (.agg zcA) w := fun w => by kernel_rfl
 cases n with
 | zero =>
  have e : zl 0 = [] := by simp [zl, Builtin.zeroCells]
  rw [e]
  simp [Builtin.clear_, run_underlying Tryz.underlying22]
  rfl
 | succ m =>
  have hc : Value.cells (.agg zcA) = zcA := by rfl
  unfold zl at hst ⊢
  simp [Builtin.clear_, run_underlying Tryz.underlying22, hz, hc, hst]
theorem clear_all {base : Nat} {w : World} {g n cap : Nat} {ok : Nat → Prop} {xs : List S47} (h : Kd.R k47 47 w base ok (.slice (some ⟨g, 0, none⟩) n cap) xs) : Kd.R k47 47 (w.setCells g 0 (zl n)) base ok (.slice (some ⟨g, 0, none⟩) n cap) (List.replicate xs.length z47) ∧ w.grownBy (w.setCells g 0 (zl n)) (some g) := by
 have hn : n = xs.length := (Kd.R_reads' h).1
 have a := clear_R h n (by omega)
 rw [hn, List.drop_length, List.append_nil] at a
 rw [hn]; exact a
end

section
open Go.RowKit Go.Extern.Stop Go.Stop Go.Extern
/-! ### errors.As where the error is a spot, or where a spot is asked for -/
theorem spot_C {W : World} {g : Nat} {a n : Int} (h : W.heap[g]? = some (.cells #[.int .i64 a, .iface ERNT (.int .i64 n)] 67 (0, 0))) : Kd.C k177 W (some ⟨g, 0, none⟩) 1 [(⟨a, n⟩ : S177)] := by
 obtain ⟨b, c, _, _⟩ := cells2 h
 refine ⟨rfl, by decide, fun _ => ⟨_, rfl, fun j p hp => ?_⟩⟩
 match j, hp with
 | 0, hp =>
  obtain rfl : (⟨a, n⟩ : S177) = p := by simpa using hp
  refine ⟨_, rfl, k177_mk W _, fun i u hu => ?_⟩
  match i, hu with
  | 0, hu =>
   obtain rfl : (Value.int .i64 a) = u := by simpa using hu
   exact b
  | 1, hu =>
   obtain rfl : (Value.iface ERNT (.int .i64 n)) = u := by simpa using hu
   exact c
theorem spot_V {W : World} {g base : Nat} {ok : Nat → Prop} {a n : Int} (h : W.heap[g]? = some (.cells #[.int .i64 a, .iface ERNT (.int .i64 n)] 67 (0, 0))) (hok : ok g) : Kd.V k177 177 W base ok (.slice (some ⟨g, 0, none⟩) 1 1) [(⟨a, n⟩ : S177)] :=
 Kd.V_mk (xs := [(⟨a, n⟩ : S177)]) (c := 1) (Nat.le_refl _) (fun _ hW => spot_C ((hW g hok (blk_lt h)).trans h))
theorem spot_at {W : World} {A : Option Addr} {s : S177} (h : Kd.C k177 W A 1 [s]) : ∃ ad, A = some ad ∧ W.cell? ad = some (.int .i64 s.f0) ∧ W.cell? ⟨ad.block, ad.off + 1, none⟩ = some (.iface ERNT (.int .i64 s.f1)) := by
 obtain ⟨ad, e, a, b⟩ := at_T177 h 0 (by decide) (by decide)
 refine ⟨ad, e, ?_, ?_⟩
 ·simp only [show (0 : Int).toNat = 0 from rfl, Nat.zero_mul, Addr.add_zero'] at a
  exact a
 ·simp only [show (0 : Int).toNat = 0 from rfl, Nat.zero_mul, Addr.add_zero'] at b
  exact b
theorem EW.valueOfP (t : Addr) (w : World) : (ReflectliteValue.unpack (.iface 65 (.pointer (some t)))).run Tryz.prog w
  = .ok (.agg #[.pointer (some ⟨1, 65, none⟩), .pointer (some ⟨w.heap.size, 0, none⟩), .int .u64 150]) (w.alloc (.cells #[.pointer (some t)] 65)) := by kernel_rfl
theorem EW.typeP (a : Addr) (w : World) : (ReflectliteValue.methodAny (ReflectliteValue.valueError "reflectlite.Value.Type" 0) (fun t _ _ _ => ReflectliteType.toType t) #[.agg #[.pointer (some ⟨1, 65, none⟩), .pointer (some a), .int .u64 150]]).run Tryz.prog w
  = .ok (.iface 122 (.agg #[.pointer (some ⟨1, 65, none⟩)])) w := by kernel_rfl
theorem EW.kindP (w : World) : ((ReflectliteType.abiMethod fun t => (fun a : Nat => Value.int IntKind.u8 (a : Int)) <$> Rtype.kind t) #[.pointer (some ⟨1, 65, none⟩)]).run Tryz.prog w = .ok (.int .u8 22) w := by kernel_rfl
theorem EW.kindE (w : World) : ((ReflectliteType.abiMethod fun t => (fun a : Nat => Value.int IntKind.u8 (a : Int)) <$> Rtype.kind t) #[.pointer (some ⟨1, 64, none⟩)]).run Tryz.prog w = .ok (.int .u8 22) w := by kernel_rfl
theorem EW.partsP (a : Addr) (w : World) : (ReflectliteValue.parts (.agg #[.pointer (some ⟨1, 65, none⟩), .pointer (some a), .int .u64 150])).run Tryz.prog w = .ok (some (65, a, 150)) w := by kernel_rfl
theorem EW.elemP (w : World) : (ReflectliteType.method ReflectliteType.elem #[.agg #[.pointer (some ⟨1, 65, none⟩)]]).run Tryz.prog w = .ok (.iface 122 (.agg #[.pointer (some ⟨1, 64, none⟩)])) w := by kernel_rfl
theorem EW.implementsE (w : World) : (ReflectliteType.relation "Implements" ReflectliteType.implements_ #[.agg #[.pointer (some ⟨1, 64, none⟩)], .iface 122 (.agg #[.pointer (some ⟨1, 34, none⟩)])]).run Tryz.prog w = .ok (.bool true) w := by kernel_rfl
theorem EW.typeOfE (v : Value) (w : World) : (ReflectliteType.typeOf #[.iface 64 v]).run Tryz.prog w = .ok (.iface 122 (.agg #[.pointer (some ⟨1, 64, none⟩)])) w := by kernel_rfl
theorem EW.assignableE (w : World) : (ReflectliteType.relation "AssignableTo" ReflectliteType.assignableTo #[.agg #[.pointer (some ⟨1, 64, none⟩)], .iface 122 (.agg #[.pointer (some ⟨1, 64, none⟩)])]).run Tryz.prog w = .ok (.bool true) w := by kernel_rfl
theorem EW.noSpot (w : World) : (ReflectliteType.relation "AssignableTo" ReflectliteType.assignableTo #[.agg #[.pointer (some ⟨1, 64, none⟩)], .iface 122 (.agg #[.pointer (some ⟨1, 61, none⟩)])]).run Tryz.prog w = .ok (.bool false) w := by kernel_rfl
theorem EW.noNum (w : World) : (ReflectliteType.relation "AssignableTo" ReflectliteType.assignableTo #[.agg #[.pointer (some ⟨1, 61, none⟩)], .iface 122 (.agg #[.pointer (some ⟨1, 64, none⟩)])]).run Tryz.prog w = .ok (.bool false) w := by kernel_rfl
theorem EW.valueOfE (p : Addr) (w : World) : (ReflectliteValue.unpack (.iface 64 (.pointer (some p)))).run Tryz.prog w
  = .ok (.agg #[.pointer (some ⟨1, 64, none⟩), .pointer (some ⟨w.heap.size, 0, none⟩), .int .u64 150]) (w.alloc (.cells #[.pointer (some p)] 64)) := by kernel_rfl
theorem EW.elemOfP (w : World) : (Rtype.elem? 65).run Tryz.prog w = .ok (some 64) w := by kernel_rfl
theorem EW.mkE (p : Addr) (w : World) : (ReflectliteValue.mk 64 p ReflectliteValue.flagAddr).run Tryz.prog w = .ok (.agg #[.pointer (some ⟨1, 64, none⟩), .pointer (some p), .int .u64 406]) w := by kernel_rfl
theorem EW.partsEa (a : Addr) (w : World) : (ReflectliteValue.parts (.agg #[.pointer (some ⟨1, 64, none⟩), .pointer (some a), .int .u64 406])).run Tryz.prog w = .ok (some (64, a, 406)) w := by kernel_rfl
theorem EW.partsE (a : Addr) (w : World) : (ReflectliteValue.parts (.agg #[.pointer (some ⟨1, 64, none⟩), .pointer (some a), .int .u64 150])).run Tryz.prog w = .ok (some (64, a, 150)) w := by kernel_rfl
theorem EW.directE (w : World) : (Rtype.directlyAssignable 64 64).run Tryz.prog w = .ok true w := by kernel_rfl
theorem EW.asS (v : Value) (w : World) : (Instr.typeAssert (.iface 64 v) 34 127 true).run Tryz.prog w = .ok (.tuple #[.nilIface, .bool false]) w := run_typeAssert_lacksB Tryz.underlying127 (by kernel_rfl) (by kernel_rfl) v _ w
theorem EW.unS (v : Value) (w : World) : (Instr.typeAssert (.iface 64 v) 34 130 true).run Tryz.prog w = .ok (.tuple #[.iface 64 v, .bool true]) w := by kernel_rfl
theorem EW.asN (v : Value) (w : World) : (Instr.typeAssert (.iface 61 v) 34 127 true).run Tryz.prog w = .ok (.tuple #[.nilIface, .bool false]) w := run_typeAssert_lacksB Tryz.underlying127 (by kernel_rfl) (by kernel_rfl) v _ w
theorem EW.unN (v : Value) (w : World) : (Instr.typeAssert (.iface 61 v) 34 130 true).run Tryz.prog w = .ok (.tuple #[.nilIface, .bool false]) w := run_typeAssert_lacksB Tryz.underlying130 (by kernel_rfl) (by kernel_rfl) v _ w
theorem EW.unN2 (v : Value) (w : World) : (Instr.typeAssert (.iface 61 v) 34 132 true).run Tryz.prog w = .ok (.tuple #[.nilIface, .bool false]) w := run_typeAssert_lacksB Tryz.underlying132 (by kernel_rfl) (by kernel_rfl) v _ w
theorem EW.methodUnwrap (h : Value) (w : World) : (Go.method 275 64 h "Unwrap").run Tryz.prog w = .ok (112, h) w := by kernel_rfl
theorem EW.unwrap (b : Addr) (n : Int) (w : World) (hb : w.cell? ⟨b.block, b.off + 1, none⟩ = some (.iface ERNT (.int .i64 n))) : Calls Tryz.prog 112 #[.pointer (some b)] w fun e w' => e = .returned (.iface ERNT (.int .i64 n)) ∧ w' = w := by
 have hu := Tryz.underlying67
 go_enter Tryz.func112, Tryz.ntmps112
 go_wp2
 go_ret
 exact ⟨rfl, rfl⟩
theorem EW.isNilP (a p : Addr) (W : World) (ha : W.cell? a = some (.pointer (some p))) :
  (ReflectliteValue.method (ReflectliteValue.valueError "reflectlite.Value.IsNil" 0) ReflectliteValue.isNil #[.agg #[.pointer (some ⟨1, 65, none⟩), .pointer (some a), .int .u64 150]]).run Tryz.prog W = .ok (.bool false) W := by
 rw [EA.rlm]
 simp only [Sem.run_bind, EW.partsP, Result.andThen]
 simp [ReflectliteValue.isNil, loadVar, isAgg, underlying, Tryz.underlying65, ha, Result.andThen]
theorem EW.elemVP (a p : Addr) (W : World) (ha : W.cell? a = some (.pointer (some p))) :
  (ReflectliteValue.method (ReflectliteValue.valueError "reflectlite.Value.Elem" 0) ReflectliteValue.elem #[.agg #[.pointer (some ⟨1, 65, none⟩), .pointer (some a), .int .u64 150]]).run Tryz.prog W
   = .ok (.agg #[.pointer (some ⟨1, 64, none⟩), .pointer (some p), .int .u64 406]) W := by
 rw [EA.rlm]
 simp only [Sem.run_bind, EW.partsP, Result.andThen]
 simp [ReflectliteValue.elem, loadVar, isAgg, underlying, Tryz.underlying65, ha, Result.andThen, EW.elemOfP, EW.mkE]
theorem EW.setE (ta b p : Addr) (old : Value) (W : World) (hb : W.cell? b = some (.pointer (some p))) (ht : W.cell? ta = some old) (hf : W.frozen? ta = false) :
  (ReflectliteValue.set #[.agg #[.pointer (some ⟨1, 64, none⟩), .pointer (some ta), .int .u64 406], .agg #[.pointer (some ⟨1, 64, none⟩), .pointer (some b), .int .u64 150]]).run Tryz.prog W
   = .ok (.tuple #[]) (W.setCell ta (.pointer (some p))) := by
 rw [EA.rls]
 simp only [Sem.run_bind, EW.partsEa, EW.partsE, Result.andThen]
 simp [ReflectliteValue.flagAddr, loadVar, isAgg, underlying, Tryz.underlying64, hb, Result.andThen, EW.directE, storeVar, Value.cells, storeCells, Addr.add]
 rw [run_store Tryz.prog W ta _ _ (by rfl)]
 simp [ht, hf]

theorem EW.hit (p t : Addr) (old : Value) (w : World) (hg : LaidG w) (a : w.cell? t = some old) (b : w.frozen? t = false) :
  Calls Tryz.prog 26 #[.iface 64 (.pointer (some p)), .iface 65 (.pointer (some t))] w fun ev w' => ev = .returned (.bool true) ∧ w' = ((((w.alloc (.cells #[.pointer (some t)] 65)).alloc (.cells #[.pointer (some ⟨1, 65, none⟩), .pointer (some ⟨w.heap.size, 0, none⟩), .int .u64 150] 89)).alloc (.cells #[.pointer (some ⟨1, 65, none⟩), .pointer (some ⟨w.heap.size, 0, none⟩), .int .u64 150] 89)).alloc (.cells #[.pointer (some p)] 64)).setCell t (.pointer (some p)) := by
 have o := @run_callFunc_extern Tryz.prog 48 _ (fun args => ReflectliteValue.unpack (args.getD 0 (.tuple #[]))) Tryz.func48 (by kernel_rfl) (by kernel_rfl) (by kernel_rfl) (by kernel_rfl)
 have q := @run_callFunc_extern Tryz.prog 49 _ (ReflectliteValue.methodAny (ReflectliteValue.valueError "reflectlite.Value.Type" 0) (fun t _ _ _ => ReflectliteType.toType t)) Tryz.func49 (by kernel_rfl) (by kernel_rfl) (by kernel_rfl) (by kernel_rfl)
 have r := @run_callFunc_extern Tryz.prog 50 _ (ReflectliteValue.method (ReflectliteValue.valueError "reflectlite.Value.IsNil" 0) ReflectliteValue.isNil) Tryz.func50 (by kernel_rfl) (by kernel_rfl) (by kernel_rfl) (by kernel_rfl)
 have j := @run_callFunc_extern Tryz.prog 107 _ (ReflectliteType.abiMethod fun t => do pure (.int .u8 (← Rtype.kind t))) Tryz.func107 (by kernel_rfl) (by kernel_rfl) (by kernel_rfl) (by kernel_rfl)
 have l := @run_callFunc_extern Tryz.prog 119 _ (ReflectliteType.method ReflectliteType.elem) Tryz.func119 (by kernel_rfl) (by kernel_rfl) (by kernel_rfl) (by kernel_rfl)
 have m := @run_callFunc_extern Tryz.prog 120 _ (ReflectliteType.relation "Implements" ReflectliteType.implements_) Tryz.func120 (by kernel_rfl) (by kernel_rfl) (by kernel_rfl) (by kernel_rfl)
 have f := @run_callFunc_extern Tryz.prog 74 _ ReflectliteType.typeOf Tryz.func74 (by kernel_rfl) (by kernel_rfl) (by kernel_rfl) (by kernel_rfl)
 have k := @run_callFunc_extern Tryz.prog 117 _ (ReflectliteType.relation "AssignableTo" ReflectliteType.assignableTo) Tryz.func117 (by kernel_rfl) (by kernel_rfl) (by kernel_rfl) (by kernel_rfl)
 have g := @run_callFunc_extern Tryz.prog 75 _ (ReflectliteValue.method (ReflectliteValue.valueError "reflectlite.Value.Elem" 0) ReflectliteValue.elem) Tryz.func75 (by kernel_rfl) (by kernel_rfl) (by kernel_rfl) (by kernel_rfl)
 have i := @run_callFunc_extern Tryz.prog 76 _ ReflectliteValue.set Tryz.func76 (by kernel_rfl) (by kernel_rfl) (by kernel_rfl) (by kernel_rfl)
 have tO := EW.typeOfE
 have mA := EA.methodAssignableTo
 have d := EW.assignableE
 have n := EW.valueOfE
 have f6 := EW.valueOfP
 have f7 := EW.typeP
 have mK := EA.methodKind
 have mE := EA.methodElem
 have mI := EA.methodImplements
 have k27 := EW.kindP
 have k25 := EW.kindE
 have e := EW.elemP
 have i25 := EW.implementsE
 have n8 := EW.isNilP ⟨w.heap.size, 0, none⟩ t ((w.alloc (.cells #[.pointer (some t)] 65)).alloc (.cells #[.pointer (some ⟨1, 65, none⟩), .pointer (some ⟨w.heap.size, 0, none⟩), .int .u64 150] 89)) (by simp)
 have hlt := laidG_lt hg
 have c : ((w.alloc (.cells #[.pointer (some t)] 65)).alloc (.cells #[.pointer (some ⟨1, 65, none⟩), .pointer (some ⟨w.heap.size, 0, none⟩), .int .u64 150] 89)).cell? ⟨0, 0, none⟩ = some (.iface 122 (.agg #[.pointer (some ⟨1, 34, none⟩)])) := laidG_alloc (laidG_alloc hg _) _
 have htl : t.block < w.heap.size := by
  rcases Nat.lt_or_ge t.block w.heap.size with h | h
  ·exact h
  ·simp [World.cell?, Array.getElem?_eq_none h] at a
 have el := EW.elemVP ⟨w.heap.size, 0, none⟩ t (((w.alloc (.cells #[.pointer (some t)] 65)).alloc (.cells #[.pointer (some ⟨1, 65, none⟩), .pointer (some ⟨w.heap.size, 0, none⟩), .int .u64 150] 89)).alloc (.cells #[.pointer (some ⟨1, 65, none⟩), .pointer (some ⟨w.heap.size, 0, none⟩), .int .u64 150] 89)) (by rw [World.cell?_alloc_lt _ _ ⟨w.heap.size, 0, none⟩ (by simp; omega)]; simp)
 have st := EW.setE t ⟨w.heap.size + 1 + 1 + 1, 0, none⟩ p old ((((w.alloc (.cells #[.pointer (some t)] 65)).alloc (.cells #[.pointer (some ⟨1, 65, none⟩), .pointer (some ⟨w.heap.size, 0, none⟩), .int .u64 150] 89)).alloc (.cells #[.pointer (some ⟨1, 65, none⟩), .pointer (some ⟨w.heap.size, 0, none⟩), .int .u64 150] 89)).alloc (.cells #[.pointer (some p)] 64))
  (by rw [World.cell?_alloc_at _ _ _ _ (by simp)]; rfl)
  (by rw [World.cell?_alloc_lt _ _ t (by simp; omega), World.cell?_alloc_lt _ _ t (by simp; omega), World.cell?_alloc_lt _ _ t (by simp; omega), World.cell?_alloc_lt _ _ t htl]; exact a)
  (by rw [World.frozen?_alloc_old _ _ t (by simp; omega), World.frozen?_alloc_old _ _ t (by simp; omega), World.frozen?_alloc_old _ _ t (by simp; omega), World.frozen?_alloc_old _ _ t (Nat.ne_of_lt htl)]; exact b)
 have HU := c
 unfold LaidG at hg
 go_enter Tryz.func26, Tryz.ntmps26
 go_wp2
 refine wp_loop_rounds 1 ?_
 rw [rounds_succ]
 go_wp2
 go_ret
 exact ⟨rfl, rfl⟩
theorem EA.spot (b : Addr) (n : Int) (t : Addr) (old : Value) (w : World) (hb : w.cell? ⟨b.block, b.off + 1, none⟩ = some (.iface ERNT (.int .i64 n))) (hg : LaidG w) (a : w.cell? t = some old) (c : w.frozen? t = false) :
  Calls Tryz.prog 26 #[.iface 64 (.pointer (some b)), .iface 63 (.pointer (some t))] w fun ev w' => ev = .returned (.bool true) ∧ w' = ((((w.alloc (.cells #[.pointer (some t)] 63)).alloc (.cells #[.pointer (some ⟨1, 63, none⟩), .pointer (some ⟨w.heap.size, 0, none⟩), .int .u64 150] 89)).alloc (.cells #[.pointer (some ⟨1, 63, none⟩), .pointer (some ⟨w.heap.size, 0, none⟩), .int .u64 150] 89)).alloc (.cells #[.int .i64 n] 61)).setCell t (.int .i64 n) := by
 have r := @run_callFunc_extern Tryz.prog 48 _ (fun args => ReflectliteValue.unpack (args.getD 0 (.tuple #[]))) Tryz.func48 (by kernel_rfl) (by kernel_rfl) (by kernel_rfl) (by kernel_rfl)
 have s := @run_callFunc_extern Tryz.prog 49 _ (ReflectliteValue.methodAny (ReflectliteValue.valueError "reflectlite.Value.Type" 0) (fun t _ _ _ => ReflectliteType.toType t)) Tryz.func49 (by kernel_rfl) (by kernel_rfl) (by kernel_rfl) (by kernel_rfl)
 have u := @run_callFunc_extern Tryz.prog 50 _ (ReflectliteValue.method (ReflectliteValue.valueError "reflectlite.Value.IsNil" 0) ReflectliteValue.isNil) Tryz.func50 (by kernel_rfl) (by kernel_rfl) (by kernel_rfl) (by kernel_rfl)
 have l := @run_callFunc_extern Tryz.prog 107 _ (ReflectliteType.abiMethod fun t => do pure (.int .u8 (← Rtype.kind t))) Tryz.func107 (by kernel_rfl) (by kernel_rfl) (by kernel_rfl) (by kernel_rfl)
 have o := @run_callFunc_extern Tryz.prog 119 _ (ReflectliteType.method ReflectliteType.elem) Tryz.func119 (by kernel_rfl) (by kernel_rfl) (by kernel_rfl) (by kernel_rfl)
 have p := @run_callFunc_extern Tryz.prog 120 _ (ReflectliteType.relation "Implements" ReflectliteType.implements_) Tryz.func120 (by kernel_rfl) (by kernel_rfl) (by kernel_rfl) (by kernel_rfl)
 have i := @run_callFunc_extern Tryz.prog 74 _ ReflectliteType.typeOf Tryz.func74 (by kernel_rfl) (by kernel_rfl) (by kernel_rfl) (by kernel_rfl)
 have m := @run_callFunc_extern Tryz.prog 117 _ (ReflectliteType.relation "AssignableTo" ReflectliteType.assignableTo) Tryz.func117 (by kernel_rfl) (by kernel_rfl) (by kernel_rfl) (by kernel_rfl)
 have j := @run_callFunc_extern Tryz.prog 75 _ (ReflectliteValue.method (ReflectliteValue.valueError "reflectlite.Value.Elem" 0) ReflectliteValue.elem) Tryz.func75 (by kernel_rfl) (by kernel_rfl) (by kernel_rfl) (by kernel_rfl)
 have k := @run_callFunc_extern Tryz.prog 76 _ ReflectliteValue.set Tryz.func76 (by kernel_rfl) (by kernel_rfl) (by kernel_rfl) (by kernel_rfl)
 have tO := EA.typeOfE
 have mA := EA.methodAssignableTo
 have f := EA.assignableE
 have q := EA.valueOfE
 have f6 := EA.valueOfP
 have f7 := EA.typeP
 have mK := EA.methodKind
 have mE := EA.methodElem
 have mI := EA.methodImplements
 have k27 := EA.kindP
 have k25 := EA.kindE
 have g := EA.elemP
 have i25 := EA.implementsE
 have n8 := EA.isNilP ⟨w.heap.size, 0, none⟩ t ((w.alloc (.cells #[.pointer (some t)] 63)).alloc (.cells #[.pointer (some ⟨1, 63, none⟩), .pointer (some ⟨w.heap.size, 0, none⟩), .int .u64 150] 89)) (by simp)
 have hlt := laidG_lt hg
 have d : ((w.alloc (.cells #[.pointer (some t)] 63)).alloc (.cells #[.pointer (some ⟨1, 63, none⟩), .pointer (some ⟨w.heap.size, 0, none⟩), .int .u64 150] 89)).cell? ⟨0, 0, none⟩ = some (.iface 122 (.agg #[.pointer (some ⟨1, 34, none⟩)])) := laidG_alloc (laidG_alloc hg _) _
 have htl : t.block < w.heap.size := by
  rcases Nat.lt_or_ge t.block w.heap.size with h | h
  ·exact h
  ·simp [World.cell?, Array.getElem?_eq_none h] at a
 have el := EA.elemVP ⟨w.heap.size, 0, none⟩ t (((w.alloc (.cells #[.pointer (some t)] 63)).alloc (.cells #[.pointer (some ⟨1, 63, none⟩), .pointer (some ⟨w.heap.size, 0, none⟩), .int .u64 150] 89)).alloc (.cells #[.pointer (some ⟨1, 63, none⟩), .pointer (some ⟨w.heap.size, 0, none⟩), .int .u64 150] 89)) (by rw [World.cell?_alloc_lt _ _ ⟨w.heap.size, 0, none⟩ (by simp; omega)]; simp)
 have st := EA.setE t ⟨w.heap.size + 1 + 1 + 1, 0, none⟩ n old ((((w.alloc (.cells #[.pointer (some t)] 63)).alloc (.cells #[.pointer (some ⟨1, 63, none⟩), .pointer (some ⟨w.heap.size, 0, none⟩), .int .u64 150] 89)).alloc (.cells #[.pointer (some ⟨1, 63, none⟩), .pointer (some ⟨w.heap.size, 0, none⟩), .int .u64 150] 89)).alloc (.cells #[.int .i64 n] 61))
  (by rw [World.cell?_alloc_at _ _ _ _ (by simp)]; rfl)
  (by rw [World.cell?_alloc_lt _ _ t (by simp; omega), World.cell?_alloc_lt _ _ t (by simp; omega), World.cell?_alloc_lt _ _ t (by simp; omega), World.cell?_alloc_lt _ _ t htl]; exact a)
  (by rw [World.frozen?_alloc_old _ _ t (by simp; omega), World.frozen?_alloc_old _ _ t (by simp; omega), World.frozen?_alloc_old _ _ t (by simp; omega), World.frozen?_alloc_old _ _ t (Nat.ne_of_lt htl)]; exact c)
 have HU := d
 have hbl : b.block < w.heap.size := bk_ w ⟨b.block, b.off + 1, none⟩ hb
 have HUN := Z (EW.unwrap b n (((w.alloc (.cells #[.pointer (some t)] 63)).alloc (.cells #[.pointer (some ⟨1, 63, none⟩), .pointer (some ⟨w.heap.size, 0, none⟩), .int .u64 150] 89)).alloc (.cells #[.pointer (some ⟨1, 63, none⟩), .pointer (some ⟨w.heap.size, 0, none⟩), .int .u64 150] 89)) (by rw [World.cell?_alloc_lt _ _ _ (by simp; omega), World.cell?_alloc_lt _ _ _ (by simp; omega), World.cell?_alloc_lt _ _ ⟨b.block, b.off + 1, none⟩ hbl]; exact hb))
 clear hb
 have tS := EW.typeOfE
 have aS := EW.noSpot
 have v := EW.asS
 have x := EW.unS
 have mU := EW.methodUnwrap
 have hE : ERNT = 61 := rfl
 unfold LaidG at hg
 go_enter Tryz.func26, Tryz.ntmps26
 go_wp2
 refine wp_loop_rounds 2 ?_
 rw [rounds_succ]
 go_wp2_with (refine HUN.out.mono ?_; rintro e w' ⟨rfl, rfl⟩)
 rw [rounds_succ]
 go_wp2
 go_ret
 exact ⟨rfl, rfl⟩
theorem EW.miss (n : Int) (t : Addr) (old : Value) (w : World) (hg : LaidG w) (b : w.cell? t = some old) (m : w.frozen? t = false) :
  Calls Tryz.prog 26 #[.iface 61 (.int .i64 n), .iface 65 (.pointer (some t))] w fun ev w' => ev = .returned (.bool false) ∧ w' = (((w.alloc (.cells #[.pointer (some t)] 65)).alloc (.cells #[.pointer (some ⟨1, 65, none⟩), .pointer (some ⟨w.heap.size, 0, none⟩), .int .u64 150] 89)).alloc (.cells #[.pointer (some ⟨1, 65, none⟩), .pointer (some ⟨w.heap.size, 0, none⟩), .int .u64 150] 89)) := by
 have o := @run_callFunc_extern Tryz.prog 48 _ (fun args => ReflectliteValue.unpack (args.getD 0 (.tuple #[]))) Tryz.func48 (by kernel_rfl) (by kernel_rfl) (by kernel_rfl) (by kernel_rfl)
 have p := @run_callFunc_extern Tryz.prog 49 _ (ReflectliteValue.methodAny (ReflectliteValue.valueError "reflectlite.Value.Type" 0) (fun t _ _ _ => ReflectliteType.toType t)) Tryz.func49 (by kernel_rfl) (by kernel_rfl) (by kernel_rfl) (by kernel_rfl)
 have q := @run_callFunc_extern Tryz.prog 50 _ (ReflectliteValue.method (ReflectliteValue.valueError "reflectlite.Value.IsNil" 0) ReflectliteValue.isNil) Tryz.func50 (by kernel_rfl) (by kernel_rfl) (by kernel_rfl) (by kernel_rfl)
 have i := @run_callFunc_extern Tryz.prog 107 _ (ReflectliteType.abiMethod fun t => do pure (.int .u8 (← Rtype.kind t))) Tryz.func107 (by kernel_rfl) (by kernel_rfl) (by kernel_rfl) (by kernel_rfl)
 have k := @run_callFunc_extern Tryz.prog 119 _ (ReflectliteType.method ReflectliteType.elem) Tryz.func119 (by kernel_rfl) (by kernel_rfl) (by kernel_rfl) (by kernel_rfl)
 have l := @run_callFunc_extern Tryz.prog 120 _ (ReflectliteType.relation "Implements" ReflectliteType.implements_) Tryz.func120 (by kernel_rfl) (by kernel_rfl) (by kernel_rfl) (by kernel_rfl)
 have e := @run_callFunc_extern Tryz.prog 74 _ ReflectliteType.typeOf Tryz.func74 (by kernel_rfl) (by kernel_rfl) (by kernel_rfl) (by kernel_rfl)
 have j := @run_callFunc_extern Tryz.prog 117 _ (ReflectliteType.relation "AssignableTo" ReflectliteType.assignableTo) Tryz.func117 (by kernel_rfl) (by kernel_rfl) (by kernel_rfl) (by kernel_rfl)
 have f := @run_callFunc_extern Tryz.prog 75 _ (ReflectliteValue.method (ReflectliteValue.valueError "reflectlite.Value.Elem" 0) ReflectliteValue.elem) Tryz.func75 (by kernel_rfl) (by kernel_rfl) (by kernel_rfl) (by kernel_rfl)
 have g := @run_callFunc_extern Tryz.prog 76 _ ReflectliteValue.set Tryz.func76 (by kernel_rfl) (by kernel_rfl) (by kernel_rfl) (by kernel_rfl)
 have tO := EW.typeOfE
 have mA := EA.methodAssignableTo
 have c := EW.assignableE
 have tN := EA.typeOfE
 have aN := EW.noNum
 have r := EW.asN
 have s := EW.unN
 have n3 := EW.unN2
 have f6 := EW.valueOfP
 have f7 := EW.typeP
 have mK := EA.methodKind
 have mE := EA.methodElem
 have mI := EA.methodImplements
 have k27 := EW.kindP
 have k25 := EW.kindE
 have d := EW.elemP
 have i25 := EW.implementsE
 have n8 := EW.isNilP ⟨w.heap.size, 0, none⟩ t ((w.alloc (.cells #[.pointer (some t)] 65)).alloc (.cells #[.pointer (some ⟨1, 65, none⟩), .pointer (some ⟨w.heap.size, 0, none⟩), .int .u64 150] 89)) (by simp)
 have hlt := laidG_lt hg
 have a : ((w.alloc (.cells #[.pointer (some t)] 65)).alloc (.cells #[.pointer (some ⟨1, 65, none⟩), .pointer (some ⟨w.heap.size, 0, none⟩), .int .u64 150] 89)).cell? ⟨0, 0, none⟩ = some (.iface 122 (.agg #[.pointer (some ⟨1, 34, none⟩)])) := laidG_alloc (laidG_alloc hg _) _
 have htl : t.block < w.heap.size := by
  rcases Nat.lt_or_ge t.block w.heap.size with h | h
  ·exact h
  ·simp [World.cell?, Array.getElem?_eq_none h] at b
 have HU := a
 unfold LaidG at hg
 go_enter Tryz.func26, Tryz.ntmps26
 go_wp2
 refine wp_loop_rounds 1 ?_
 rw [rounds_succ]
 go_wp2
 go_ret
 exact ⟨rfl, rfl⟩
end

/-! ### stream_known: function 34 -/
def stream_known.j0 : Nat → Int → Bool → Option (Bool)
 | 0, _, _ => none
 | k + 1, a, b => if b = true then (some true) else (if a = 111 then (some true) else (if a = 242 then (some true) else (if a = 246 then (some true) else (some false))))
def stream_known.f (k : Nat) (a0 : Int) : Option (Bool) := if a0 = 241 then (stream_known.j0 k a0 (a0 == 241)) else (stream_known.j0 k a0 (a0 == 245))
theorem stream_known.mono_l : ∀ k, (∀ b c, LeO (stream_known.j0 k b c) (stream_known.j0 (k + 1) b c))
 | 0 => fun _ _ r h => by simp [stream_known.j0] at h
 | k + 1 => by
  have a := stream_known.mono_l k
  ·intro b c
   unfold stream_known.j0
   repeat' first
   | (with_reducible exact a _ _)
   | (with_reducible exact LeO.refl _)
   | (with_reducible exact LeO.none _)
   | (with_reducible refine LeO.ite ?_ ?_)
   | (with_reducible refine LeO.bind ?_ (fun _ => ?_))
   | exact a _ _
   | exact LeO.none _
   | refine LeO.ite ?_ ?_
   | refine LeO.bind ?_ (fun _ => ?_)
theorem stream_known.mono : ∀ a0 k, LeO (stream_known.f k a0) (stream_known.f (k + 1) a0) := by
 intro a0 k
 have a := stream_known.mono_l k
 unfold stream_known.f
 repeat' first
   | (with_reducible exact a _ _)
   | (with_reducible exact LeO.refl _)
   | (with_reducible exact LeO.none _)
   | (with_reducible refine LeO.ite ?_ ?_)
   | (with_reducible refine LeO.bind ?_ (fun _ => ?_))
   | exact a _ _
   | exact LeO.none _
   | refine LeO.ite ?_ ?_
   | refine LeO.bind ?_ (fun _ => ?_)
theorem stream_known.calls (k : Nat) (a0 : Int) (r : Bool) (w : World) (h : stream_known.f k a0 = some r) :
  Calls Tryz.prog 34 #[.int .i64 a0] w fun e w' => e = .returned (.bool r) ∧ Drawn0 w w' := by
 have H : (if a0 = 241 then (stream_known.j0 k a0 (a0 == 241)) else (stream_known.j0 k a0 (a0 == 245))) = some r := h
 clear h
 have c := Z H
 clear H
 go_enter Tryz.func34, Tryz.ntmps34
 go_upto_if 4 with (fail)
 go_cut [4] (fun o wc => ∃ (kq : Nat) (b : Bool), o = .bool b ∧ Aside0 (stream_known.j0 kq a0 b = some r) ∧ Aside0 (kq ≤ k) ∧ Drawn0 w wc)
 case first =>
  have H := c.out
  clear c
  by_cases c3 : a0 = 241
  ·rw [if_pos c3] at H
   obtain ⟨a, d⟩ := eT_ c3
   clear c3
   (first | rw [a] | (simp only [i64_w, i32_w]; rw [a]) | skip)
   have H' := Z H
   clear H
   go_wp2
   go_meet
   case rel => exact ⟨_, ((a0 == 241)), (dn_), H', ⟨by first | omega | exact Nat.le_refl _⟩, dr_⟩
  rw [if_neg c3] at H
  obtain ⟨a, d⟩ := eF_ c3
  (first | rw [a] | (simp only [i64_w, i32_w]; rw [a]) | skip)
  have H' := Z H
  clear H
  go_wp2
  go_meet
  case rel => exact ⟨_, ((a0 == 245)), (dn_), H', ⟨by first | omega | exact Nat.le_refl _⟩, dr_⟩
 clear c
 obtain ⟨kq, b, rfl, HA, p, ⟨s, rfl⟩⟩ := hcut
 cases kq with
 | zero => exact absurd HA.out (by simp [stream_known.j0])
 | succ q =>
  have H := HA.out
  clear HA
  simp only [stream_known.j0] at H
  by_cases c4 : b = true
  ·subst c4
   have H1 : (some true) = some r := by rw [if_pos rfl] at H; exact H
   clear H
   have H := H1
   clear H1
   obtain rfl := Option.some.inj H
   go_wp2
   go_ret
   exact ⟨dn_, dr_⟩
  replace c4 := Bool.eq_false_iff.mpr c4
  subst c4
  have H1 : (if a0 = 111 then (some true) else (if a0 = 242 then (some true) else (if a0 = 246 then (some true) else (some false)))) = some r := by rw [if_neg (show ¬ (false = true) by decide)] at H; exact H
  clear H
  have H := H1
  clear H1
  by_cases c5 : a0 = 111
  ·rw [if_pos c5] at H
   obtain ⟨g, i⟩ := eT_ c5
   clear c5
   obtain rfl := Option.some.inj H
   go_wp2
   go_ret
   exact ⟨dn_, dr_⟩
  rw [if_neg c5] at H
  obtain ⟨g, i⟩ := eF_ c5
  by_cases c6 : a0 = 242
  ·rw [if_pos c6] at H
   obtain ⟨j, l⟩ := eT_ c6
   clear c6
   obtain rfl := Option.some.inj H
   go_wp2
   go_ret
   exact ⟨dn_, dr_⟩
  rw [if_neg c6] at H
  obtain ⟨j, l⟩ := eF_ c6
  by_cases c7 : a0 = 246
  ·rw [if_pos c7] at H
   obtain ⟨m, n⟩ := eT_ c7
   clear c7
   obtain rfl := Option.some.inj H
   go_wp2
   go_ret
   exact ⟨dn_, dr_⟩
  rw [if_neg c7] at H
  obtain ⟨m, n⟩ := eF_ c7
  obtain rfl := Option.some.inj H
  go_wp2
  go_ret
  exact ⟨dn_, dr_⟩

/-! ### stream_Writes: function 35 -/
def stream_Writes.f (a0 : Int) : Option (Bool) := if a0 = 241 then (some true) else (some (a0 == 245))
theorem stream_Writes.calls (a0 : Int) (r : Bool) (w : World) (h : stream_Writes.f a0 = some r) :
  Calls Tryz.prog 35 #[.int .i64 a0] w fun e w' => e = .returned (.bool r) ∧ Drawn0 w w' := by
 have H : (if a0 = 241 then (some true) else (some (a0 == 245))) = some r := h
 clear h
 by_cases c2 : a0 = 241
 ·rw [if_pos c2] at H
  obtain ⟨a, b⟩ := eT_ c2
  clear c2
  obtain rfl := Option.some.inj H
  go_enter Tryz.func35, Tryz.ntmps35
  go_wp2
  go_ret
  exact ⟨dn_, dr_⟩
 rw [if_neg c2] at H
 obtain ⟨a, b⟩ := eF_ c2
 obtain rfl := Option.some.inj H
 go_enter Tryz.func35, Tryz.ntmps35
 go_wp2
 go_ret
 exact ⟨dn_, dr_⟩

/-! ### order_has: function 61 -/
def order_has.f (a0 : Int) : Option (Bool × Bool × Bool × Bool) := if a0 = 1 then (some (true, false, false, false)) else (if a0 = 2 then (some (false, true, false, false)) else (if a0 = 6 then (some (false, false, true, true)) else (if a0 = 3 then (some (false, false, true, false)) else (if a0 = 7 then (some (false, false, true, false)) else (some (false, false, false, false))))))
theorem order_has.calls (a0 : Int) (n o p q : Bool) (w : World) (h : order_has.f a0 = some (n, o, p, q)) :
  Calls Tryz.prog 61 #[.int .i64 a0] w fun e w' => e = .returned (.tuple #[.bool n, .bool o, .bool p, .bool q]) ∧ Drawn0 w w' := by
 have H : (if a0 = 1 then (some (true, false, false, false)) else (if a0 = 2 then (some (false, true, false, false)) else (if a0 = 6 then (some (false, false, true, true)) else (if a0 = 3 then (some (false, false, true, false)) else (if a0 = 7 then (some (false, false, true, false)) else (some (false, false, false, false))))))) = some (n, o, p, q) := h
 clear h
 by_cases c2 : a0 = 1
 ·rw [if_pos c2] at H
  obtain ⟨a, b⟩ := eT_ c2
  clear c2
  simp only [Option.some.injEq, Prod.mk.injEq] at H
  obtain ⟨rfl, rfl, rfl, rfl⟩ := H
  go_enter Tryz.func61, Tryz.ntmps61
  go_wp2
  refine bodyPost_ret (results_list (rs := [.tmp 2, .tmp 3, .tmp 4, .tmp 5]) rfl (by simp) (.tmp (.tmp (.tmp (.tmp .nil))))) rfl ?_
  exact ⟨dn_, dr_⟩
 rw [if_neg c2] at H
 obtain ⟨a, b⟩ := eF_ c2
 by_cases c3 : a0 = 2
 ·rw [if_pos c3] at H
  obtain ⟨c, d⟩ := eT_ c3
  clear c3
  simp only [Option.some.injEq, Prod.mk.injEq] at H
  obtain ⟨rfl, rfl, rfl, rfl⟩ := H
  go_enter Tryz.func61, Tryz.ntmps61
  go_wp2
  refine bodyPost_ret (results_list (rs := [.tmp 2, .tmp 3, .tmp 4, .tmp 5]) rfl (by simp) (.tmp (.tmp (.tmp (.tmp .nil))))) rfl ?_
  exact ⟨dn_, dr_⟩
 rw [if_neg c3] at H
 obtain ⟨c, d⟩ := eF_ c3
 by_cases c4 : a0 = 6
 ·rw [if_pos c4] at H
  obtain ⟨g, i⟩ := eT_ c4
  clear c4
  simp only [Option.some.injEq, Prod.mk.injEq] at H
  obtain ⟨rfl, rfl, rfl, rfl⟩ := H
  go_enter Tryz.func61, Tryz.ntmps61
  go_wp2
  refine bodyPost_ret (results_list (rs := [.tmp 2, .tmp 3, .tmp 4, .tmp 5]) rfl (by simp) (.tmp (.tmp (.tmp (.tmp .nil))))) rfl ?_
  exact ⟨dn_, dr_⟩
 rw [if_neg c4] at H
 obtain ⟨g, i⟩ := eF_ c4
 by_cases c5 : a0 = 3
 ·rw [if_pos c5] at H
  obtain ⟨j, k⟩ := eT_ c5
  clear c5
  simp only [Option.some.injEq, Prod.mk.injEq] at H
  obtain ⟨rfl, rfl, rfl, rfl⟩ := H
  go_enter Tryz.func61, Tryz.ntmps61
  go_wp2
  refine bodyPost_ret (results_list (rs := [.tmp 2, .tmp 3, .tmp 4, .tmp 5]) rfl (by simp) (.tmp (.tmp (.tmp (.tmp .nil))))) rfl ?_
  exact ⟨dn_, dr_⟩
 rw [if_neg c5] at H
 obtain ⟨j, k⟩ := eF_ c5
 by_cases c6 : a0 = 7
 ·rw [if_pos c6] at H
  obtain ⟨l, m⟩ := eT_ c6
  clear c6
  simp only [Option.some.injEq, Prod.mk.injEq] at H
  obtain ⟨rfl, rfl, rfl, rfl⟩ := H
  go_enter Tryz.func61, Tryz.ntmps61
  go_wp2
  refine bodyPost_ret (results_list (rs := [.tmp 2, .tmp 3, .tmp 4, .tmp 5]) rfl (by simp) (.tmp (.tmp (.tmp (.tmp .nil))))) rfl ?_
  exact ⟨dn_, dr_⟩
 rw [if_neg c6] at H
 obtain ⟨l, m⟩ := eF_ c6
 simp only [Option.some.injEq, Prod.mk.injEq] at H
 obtain ⟨rfl, rfl, rfl, rfl⟩ := H
 go_enter Tryz.func61, Tryz.ntmps61
 go_wp2
 refine bodyPost_ret (results_list (rs := [.tmp 2, .tmp 3, .tmp 4, .tmp 5]) rfl (by simp) (.tmp (.tmp (.tmp (.tmp .nil))))) rfl ?_
 exact ⟨dn_, dr_⟩

/-! ### six_digit: function 92 -/
def six_digit.f (a0 : Int) : Option (Int) := if a0 ≥ 97 then (some (wrap64 ((wrap64 ((wrap64 (a0)) - 39)) - 48))) else (some (wrap64 ((wrap64 (a0)) - 48)))
theorem six_digit.calls (a0 r : Int) (w : World) (h : six_digit.f a0 = some r) :
  Calls Tryz.prog 92 #[.int .u8 a0] w fun e w' => e = .returned (.int .i64 r) ∧ Drawn0 w w' := by
 have H : (if a0 ≥ 97 then (some (wrap64 ((wrap64 ((wrap64 (a0)) - 39)) - 48))) else (some (wrap64 ((wrap64 (a0)) - 48)))) = some r := h
 clear h
 by_cases c2 : a0 ≥ 97
 ·rw [if_pos c2] at H
  have a : decide (97 ≤ a0) = true := decide_eq_true c2
  clear c2
  obtain rfl := Option.some.inj H
  go_enter Tryz.func92, Tryz.ntmps92
  go_wp2
  go_ret
  exact ⟨dn_, dr_⟩
 rw [if_neg c2] at H
 have a : decide (97 ≤ a0) = false := decide_eq_false c2
 clear c2
 obtain rfl := Option.some.inj H
 go_enter Tryz.func92, Tryz.ntmps92
 go_wp2
 go_ret
 exact ⟨dn_, dr_⟩

end Go.Proofs.YtphboakgkmjpbaaGreatDoor.P
