
/- The functions of the seat's laws as plain Lean functions, and that Go's code comes to just their answers. Written by pp.py (wip/tools), a program of this session, on the kit's print. -/
import Derived.Test.YtggecanpjkpkiaaDoorPx0
import Derived.Test.YtggecanpjkpkiaaDoorPx3
namespace Go.Proofs.YtggecanpjkpkiaaDoor.P
open Go.RowKit Go.Proofs.YtggecanpjkpkiaaDoorW.PrintWords Go.Proofs.YtggecanpjkpkiaaDoorW.PrintLast Go.Proofs.YtggecanpjkpkiaaDoorW.PrintMore
attribute [local go_sem] max2_int min2_int max_two min_two max_three min_three max_four min_four   -- for this text's walks alone
attribute [local go_sem] Instr.field asAgg
set_option linter.unusedVariables false
set_option linter.unusedSimpArgs false

theorem V_ne_33 {α : Type} {d : Kd α} {e base g n c : Nat} {ok : Nat → Prop} {W : World} {ad : Addr} {xs : List α} (h : Kd.V d e W base ok (.slice (some ad) n c) xs) (hg : ∀ k, ok k → k ≠ g) (hn : 0 < n) (hs : 0 < d.sz) : ad.block ≠ g := by
 intro he
 have hl := (Kd.V_at h).1
 have hC : d.C { W with heap := W.heap.setIfInBounds g (.cells #[] 0) } (some ad) xs.length xs := (Kd.V_at h).2.2 _ (fun k hk _ => by simp [Ne.symm (hg k hk)])
 obtain ⟨ad', hea, hc⟩ := hC.2.2 (by omega)
 injection hea with hea
 subst hea
 obtain ⟨cl, hcl, _, hcell⟩ := hc 0 _ (List.getElem?_eq_getElem (by omega))
 have a := hcell 0 _ (List.getElem?_eq_getElem (by omega))
 rw [Nat.zero_mul, Nat.zero_add, Addr.add_zero'] at a
 subst he
 by_cases hlt : ad.block < W.heap.size <;> simp [World.cell?, hlt] at a
/-! ### keys_Refused: function 63 -/
section
open Go.RowKit Go.Extern.Stop Go.Stop Go.Extern
/-! ### errors.Is of a number, or of a spot that bears one, and a number -/
theorem IS.equalIn (w : World) (d : Nat) {ti tn : TypeId} {ms : Array (String × TypeId)} {i : TypeInfo} {k : IntKind} (a b : Int)
  (hi : Tryd.prog.underlying ti = some (.interface ms)) (hn : Tryd.prog.underlying tn = some (.int k)) (hinfo : Tryd.prog.info? tn = some i) (hcomp : i.comparable = true) :
  (Op.equalIn (d + 2) ti (.iface tn (.int k a)) (.iface tn (.int k b))).run Tryd.prog w = .ok (a == b) w := by
 simp [Op.equalIn, run_underlying hi, run_underlying hn, typeInfo, hinfo, hcomp]
theorem IS.eql (w : World) {ti tn : TypeId} {ms : Array (String × TypeId)} {i : TypeInfo} {k : IntKind} (a b : Int)
  (hi : Tryd.prog.underlying ti = some (.interface ms)) (hn : Tryd.prog.underlying tn = some (.int k)) (hinfo : Tryd.prog.info? tn = some i) (hcomp : i.comparable = true) :
  (binOp .eql ti (.iface tn (.int k a)) (.iface tn (.int k b))).run Tryd.prog w = .ok (.bool (a == b)) w := by
 simp only [binOp]
 simp [Op.equal, Op.maxDepth, IS.equalIn w 9998 a b hi hn hinfo hcomp]
theorem IS.typeOf (v : Value) (w : World) : (Extern.ReflectliteType.typeOf #[.iface 52 v]).run Tryd.prog w = .ok (.iface 112 (.agg #[.pointer (some ⟨1, 52, none⟩)])) w := by kernel_rfl
theorem IS.comp (w : World) : ((Extern.ReflectliteType.method fun t => do Rtype.noPackHeld "Comparable" t; pure (.bool (← typeInfo t).comparable)) #[.agg #[.pointer (some ⟨1, 52, none⟩)]]).run Tryd.prog w = .ok (.bool true) w := by kernel_rfl
theorem IS.call (w : World) : (callFunc 129 #[.agg #[.pointer (some ⟨1, 52, none⟩)]]).run Tryd.prog w = .ok (.value (.bool true)) w := by
 rw [@run_callFunc_extern Tryd.prog 129 _ (Extern.ReflectliteType.method fun t => do Rtype.noPackHeld "Comparable" t; pure (.bool (← typeInfo t).comparable)) Tryd.func129 (by kernel_rfl) (by kernel_rfl) (by kernel_rfl) (by kernel_rfl), IS.comp]
 rfl
theorem IS.meth (v : Value) (w : World) : (Go.method 262 112 v "Comparable").run Tryd.prog w = .ok (129, v) w := by kernel_rfl
theorem IS.info : (Tryd.prog.info? 52).map (·.comparable) = some true := by kernel_rfl
theorem IS.noIsE (v : Value) (xT : TypeId) (w : World) : (Instr.typeAssert (.iface 52 v) xT 131 true).run Tryd.prog w = .ok (.tuple #[.nilIface, .bool false]) w := run_typeAssert_lacksB Tryd.underlying131 (by kernel_rfl) (by kernel_rfl) v xT w
theorem IS.noUnE (v : Value) (xT : TypeId) (w : World) : (Instr.typeAssert (.iface 52 v) xT 120 true).run Tryd.prog w = .ok (.tuple #[.nilIface, .bool false]) w := run_typeAssert_lacksB Tryd.underlying120 (by kernel_rfl) (by kernel_rfl) v xT w
theorem IS.noUnsE (v : Value) (xT : TypeId) (w : World) : (Instr.typeAssert (.iface 52 v) xT 122 true).run Tryd.prog w = .ok (.tuple #[.nilIface, .bool false]) w := run_typeAssert_lacksB Tryd.underlying122 (by kernel_rfl) (by kernel_rfl) v xT w
theorem IS.noIsS (v : Value) (xT : TypeId) (w : World) : (Instr.typeAssert (.iface 76 v) xT 131 true).run Tryd.prog w = .ok (.tuple #[.nilIface, .bool false]) w := run_typeAssert_lacksB Tryd.underlying131 (by kernel_rfl) (by kernel_rfl) v xT w
theorem IS.hasUnS (v : Value) (xT : TypeId) (w : World) : (Instr.typeAssert (.iface 76 v) xT 120 true).run Tryd.prog w = .ok (.tuple #[.iface 76 v, .bool true]) w := run_typeAssert_hasB Tryd.underlying120 (by kernel_rfl) v xT w
theorem IS.methUn (v : Value) (w : World) : (Go.method 262 76 v "Unwrap").run Tryd.prog w = .ok (123, v) w := by kernel_rfl
set_option maxRecDepth 100000 in
set_option maxHeartbeats 4000000 in
theorem IS.num (n m : Int) (w : World) : Calls Tryd.prog 83 #[.iface 52 (.int .i64 n), .iface 52 (.int .i64 m)] w fun e w' => e = .returned (.bool (n == m)) ∧ w' = w := by
 obtain ⟨i, hi, hcmp⟩ := Option.map_eq_some_iff.1 IS.info
 have a := @run_callFunc_extern Tryd.prog 90 _ Extern.ReflectliteType.typeOf Tryd.func90 (by kernel_rfl) (by kernel_rfl) (by kernel_rfl) (by kernel_rfl)
 have hC := IS.call
 have tT := IS.typeOf
 have mR := IS.meth
 have nE := IS.noIsE
 have uE := IS.noUnE
 have vE := IS.noUnsE
 have heq := fun w => IS.eql w n m Tryd.underlying28 Tryd.underlying52 hi hcmp
 clear hi hcmp
 cases hb : (n == m) with
 | true =>
  go_enter Tryd.func83, Tryd.ntmps83
  go_wp2
  refine wp_loop_rounds 1 ?_
  rw [rounds_succ]
  go_wp2
  go_ret
  exact ⟨rfl, rfl⟩
 | false =>
  go_enter Tryd.func83, Tryd.ntmps83
  go_wp2
  refine wp_loop_rounds 1 ?_
  rw [rounds_succ]
  go_wp2
  go_ret
  exact ⟨rfl, rfl⟩
set_option maxRecDepth 100000 in
set_option maxHeartbeats 4000000 in
theorem IS.nil (m : Int) (w : World) : Calls Tryd.prog 83 #[.nilIface, .iface 52 (.int .i64 m)] w fun e w' => e = .returned (.bool false) ∧ w' = w := by
 have hn := run_eql_iface_nil_left (P := Tryd.prog) w 52 (.int .i64 m) Tryd.underlying28
 go_enter Tryd.func83, Tryd.ntmps83
 go_wp2
 go_ret
 exact ⟨rfl, rfl⟩
set_option maxRecDepth 100000 in
set_option maxHeartbeats 4000000 in
theorem IS.spot (ad : Addr) (n m : Int) (w : World) (a : w.cell? ⟨ad.block, ad.off + 1, none⟩ = some (.iface 52 (.int .i64 n))) : Calls Tryd.prog 83 #[.iface 76 (.pointer (some ad)), .iface 52 (.int .i64 m)] w fun e w' => e = .returned (.bool (n == m)) ∧ w' = w := by
 obtain ⟨i, hi, hcmp⟩ := Option.map_eq_some_iff.1 IS.info
 have c := @run_callFunc_extern Tryd.prog 90 _ Extern.ReflectliteType.typeOf Tryd.func90 (by kernel_rfl) (by kernel_rfl) (by kernel_rfl) (by kernel_rfl)
 have hC := IS.call
 have tT := IS.typeOf
 have mR := IS.meth
 have nE := IS.noIsE
 have uE := IS.noUnE
 have vE := IS.noUnsE
 have nW := IS.noIsS
 have uW := IS.hasUnS
 have mU := IS.methUn
 have hty := run_eql_iface_types (P := Tryd.prog) 76 52 (.pointer (some ad)) (.int .i64 m) Tryd.underlying28 (by decide) w
 have heq := fun w => IS.eql w n m Tryd.underlying28 Tryd.underlying52 hi hcmp
 have hu := Tryd.underlying79
 clear hi hcmp
 obtain ⟨b, o, s⟩ := ad
 cases hb : (n == m) with
 | true =>
  go_enter Tryd.func83, Tryd.ntmps83
  go_wp2
  refine wp_loop_rounds 2 ?_
  rw [rounds_succ]
  go_wp2
  rw [rounds_succ]
  go_wp2
  go_ret
  exact ⟨rfl, rfl⟩
 | false =>
  go_enter Tryd.func83, Tryd.ntmps83
  go_wp2
  refine wp_loop_rounds 2 ?_
  rw [rounds_succ]
  go_wp2
  rw [rounds_succ]
  go_wp2
  go_ret
  exact ⟨rfl, rfl⟩
/-- keys.Refused: of a key that was: its error's number, or its spot's, is one of four. -/
def refusedI (n : Int) : Bool := decide (7 ≤ n ∧ n ≤ 10)
def keys_Refused.f (a : Option Er) (b : List S164) : Option Bool :=
 match a with
 | none => some false
 | some (.num n) => some (refusedI n)
 | some .spot => match b with | [s] => some (refusedI s.f1) | _ => none
def refO : Option Int → Bool
 | none => false
 | some n => refusedI n
theorem refO_false {x : Option Int} (b : (x == some 7) = false) (c : (x == some 8) = false) (d : (x == some 9) = false) (a : (x == some 10) = false) : refO x = false := by
 cases x with
 | none => rfl
 | some n =>
  simp only [Option.some_beq_some, beq_eq_false_iff_ne] at b c d a
  exact decide_eq_false (by omega)
theorem refO_true {x : Option Int} {m : Int} (h : (x == some m) = true) (a : 7 ≤ m ∧ m ≤ 10) : refO x = true := by
 obtain rfl := of_decide_eq_true (by simpa using h : decide (x = some m) = true)
 exact decide_eq_true a
set_option maxRecDepth 100000 in
set_option maxHeartbeats 4000000 in
theorem refused_walk (v : Value) (x : Option Int) (w : World) (hI : ∀ (m : Int) (W : World), Below w.heap.size w W → Calls Tryd.prog 83 #[v, .iface 52 (.int .i64 m)] W fun e w' => e = .returned (.bool (x == some m)) ∧ w' = W) :
  Calls Tryd.prog 63 #[v] w fun e w' => e = .returned (.bool (refO x)) ∧ Below w.heap.size w w' := by
 have HI := Z hI
 have hu := Tryd.underlying107
 clear hI
 cases b : (x == some 7) with
 | true =>
  rw [refO_true b (by decide)]
  go_enter Tryd.func63, Tryd.ntmps63
  go_wp2
  refine wp_loop_rounds 1 ?_
  rw [rounds_succ]
  go_wp2_with (go_at_call 83; (with_reducible refine (HI.out _ _ ?bl_).mono ?_); (case bl_ => repeat (first | exact Below.refl _ _ | refine below_alloc ?_ _)); rintro e w' ⟨rfl, rfl⟩)
  go_ret
  exact ⟨rfl, below_alloc (Below.refl _ _) _⟩
 | false =>
  cases c : (x == some 8) with
  | true =>
   rw [refO_true c (by decide)]
   go_enter Tryd.func63, Tryd.ntmps63
   go_wp2
   refine wp_loop_rounds 2 ?_
   rw [rounds_succ]
   go_wp2_with (go_at_call 83; (with_reducible refine (HI.out _ _ ?bl_).mono ?_); (case bl_ => repeat (first | exact Below.refl _ _ | refine below_alloc ?_ _)); rintro e w' ⟨rfl, rfl⟩)
   rw [rounds_succ]
   go_wp2_with (go_at_call 83; (with_reducible refine (HI.out _ _ ?bl_).mono ?_); (case bl_ => repeat (first | exact Below.refl _ _ | refine below_alloc ?_ _)); rintro e w' ⟨rfl, rfl⟩)
   go_ret
   exact ⟨rfl, below_alloc (Below.refl _ _) _⟩
  | false =>
   cases d : (x == some 9) with
   | true =>
    rw [refO_true d (by decide)]
    go_enter Tryd.func63, Tryd.ntmps63
    go_wp2
    refine wp_loop_rounds 3 ?_
    rw [rounds_succ]
    go_wp2_with (go_at_call 83; (with_reducible refine (HI.out _ _ ?bl_).mono ?_); (case bl_ => repeat (first | exact Below.refl _ _ | refine below_alloc ?_ _)); rintro e w' ⟨rfl, rfl⟩)
    rw [rounds_succ]
    go_wp2_with (go_at_call 83; (with_reducible refine (HI.out _ _ ?bl_).mono ?_); (case bl_ => repeat (first | exact Below.refl _ _ | refine below_alloc ?_ _)); rintro e w' ⟨rfl, rfl⟩)
    rw [rounds_succ]
    go_wp2_with (go_at_call 83; (with_reducible refine (HI.out _ _ ?bl_).mono ?_); (case bl_ => repeat (first | exact Below.refl _ _ | refine below_alloc ?_ _)); rintro e w' ⟨rfl, rfl⟩)
    go_ret
    exact ⟨rfl, below_alloc (Below.refl _ _) _⟩
   | false =>
    cases a : (x == some 10) with
    | true =>
     rw [refO_true a (by decide)]
     go_enter Tryd.func63, Tryd.ntmps63
     go_wp2
     refine wp_loop_rounds 4 ?_
     rw [rounds_succ]
     go_wp2_with (go_at_call 83; (with_reducible refine (HI.out _ _ ?bl_).mono ?_); (case bl_ => repeat (first | exact Below.refl _ _ | refine below_alloc ?_ _)); rintro e w' ⟨rfl, rfl⟩)
     rw [rounds_succ]
     go_wp2_with (go_at_call 83; (with_reducible refine (HI.out _ _ ?bl_).mono ?_); (case bl_ => repeat (first | exact Below.refl _ _ | refine below_alloc ?_ _)); rintro e w' ⟨rfl, rfl⟩)
     rw [rounds_succ]
     go_wp2_with (go_at_call 83; (with_reducible refine (HI.out _ _ ?bl_).mono ?_); (case bl_ => repeat (first | exact Below.refl _ _ | refine below_alloc ?_ _)); rintro e w' ⟨rfl, rfl⟩)
     rw [rounds_succ]
     go_wp2_with (go_at_call 83; (with_reducible refine (HI.out _ _ ?bl_).mono ?_); (case bl_ => repeat (first | exact Below.refl _ _ | refine below_alloc ?_ _)); rintro e w' ⟨rfl, rfl⟩)
     go_ret
     exact ⟨rfl, below_alloc (Below.refl _ _) _⟩
    | false =>
     rw [refO_false b c d a]
     go_enter Tryd.func63, Tryd.ntmps63
     go_wp2
     refine wp_loop_rounds 5 ?_
     rw [rounds_succ]
     go_wp2_with (go_at_call 83; (with_reducible refine (HI.out _ _ ?bl_).mono ?_); (case bl_ => repeat (first | exact Below.refl _ _ | refine below_alloc ?_ _)); rintro e w' ⟨rfl, rfl⟩)
     rw [rounds_succ]
     go_wp2_with (go_at_call 83; (with_reducible refine (HI.out _ _ ?bl_).mono ?_); (case bl_ => repeat (first | exact Below.refl _ _ | refine below_alloc ?_ _)); rintro e w' ⟨rfl, rfl⟩)
     rw [rounds_succ]
     go_wp2_with (go_at_call 83; (with_reducible refine (HI.out _ _ ?bl_).mono ?_); (case bl_ => repeat (first | exact Below.refl _ _ | refine below_alloc ?_ _)); rintro e w' ⟨rfl, rfl⟩)
     rw [rounds_succ]
     go_wp2_with (go_at_call 83; (with_reducible refine (HI.out _ _ ?bl_).mono ?_); (case bl_ => repeat (first | exact Below.refl _ _ | refine below_alloc ?_ _)); rintro e w' ⟨rfl, rfl⟩)
     rw [rounds_succ]
     go_wp2
     go_ret
     exact ⟨rfl, below_alloc (Below.refl _ _) _⟩
theorem keys_Refused.calls (b : Option Er) (d : Option Addr) (c : Nat) (a : List S164) (r : Bool) (w : World) (i : Kd.C k164 w d a.length a) (g : a.length ≤ c) (h : keys_Refused.f b a = some r) :
  Calls Tryd.prog 63 #[errW (.slice d a.length c) b] w fun e w' => e = .returned (.bool r) ∧ Below w.heap.size w w' := by
 rcases b with _ | q
 ·obtain rfl := Option.some.inj h
  rw [errW_none]
  exact refused_walk .nilIface none w (fun m W _ => IS.nil m W)
 ·cases q with
  | num n =>
   obtain rfl := Option.some.inj h
   rw [errW_some, show (Er.num n).ty = 52 from rfl, show (Er.num n).pay _ = .int .i64 n from rfl]
   exact refused_walk _ (some n) w (fun m W _ => by rw [Option.some_beq_some]; exact IS.num n m W)
  | spot =>
   match a, i, g, h with
   | [s], hr, hc, h =>
    obtain rfl := Option.some.inj h
    obtain ⟨ad, rfl, k, j⟩ := spot_at hr
    rw [errW_some, show Er.spot.ty = 76 from rfl, show Er.spot.pay (.slice (some ad) ([s] : List S164).length c) = .pointer (some ad) from rfl]
    have hlt := bk_ w ⟨ad.block, ad.off + 1, none⟩ j
    exact refused_walk _ (some s.f1) w (fun m W hB => by rw [Option.some_beq_some]; exact IS.spot ad s.f1 m W ((hB.cell (p := ⟨ad.block, ad.off + 1, none⟩) hlt).trans j))
end

end Go.Proofs.YtggecanpjkpkiaaDoor.P
