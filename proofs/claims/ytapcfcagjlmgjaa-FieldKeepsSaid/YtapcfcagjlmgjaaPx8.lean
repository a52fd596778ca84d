/- The functions of the seat's laws as plain Lean functions, and that Go's code comes to just their answers. Written by pp.py (wip/tools), a program of this session, on the kit's print. -/
import Derived.Test.YtapcfcagjlmgjaaPx0
import Derived.Test.YtapcfcagjlmgjaaPx1
import Derived.Test.YtapcfcagjlmgjaaPx3
import Derived.Test.YtapcfcagjlmgjaaPx5
import Derived.Test.YtapcfcagjlmgjaaPx6
import Derived.Test.YtapcfcagjlmgjaaPx7
namespace Go.Proofs.Ytapcfcagjlmgjaa.P
open Go.RowKit Go.Proofs.YtapcfcagjlmgjaaW.PrintWords Go.Proofs.YtapcfcagjlmgjaaW.PrintLast Go.Proofs.YtapcfcagjlmgjaaW.PrintMore
attribute [local go_sem] max2_int min2_int max_two min_two max_three min_three max_four min_four   -- for this text's walks alone
attribute [local go_sem] Instr.field asAgg
set_option linter.unusedVariables false
set_option linter.unusedSimpArgs false

attribute [local go_sem high] eqA33
/-! ### shutterlaw11_FieldAsks: function 3 -/
def shutterlaw11_FieldAsks.f (k : Nat) (a0_0 : Int) (a0_1 : Int) (l0_2 : List (S39)) (a0_3 : Int) (a0_4 : Bool) (a0_5 : Bool) (a1 : Int) : Option (Bool) := (shutterlaw11_awake.f k).bind fun t179 => (if t179 = true then ((shutterref10_Few.f k a0_0 a0_1 l0_2 a0_3 a0_4 a0_5).bind fun t180 => (if t180 = true then (if (l0_2.length : Int) = 0 then (none) else ((field_Formatted.f a0_0 a0_1 l0_2 a0_3 a0_4 a0_5).bind fun t182 => ((shutterref11_Formatted.f k a0_0 a0_1 l0_2 a0_3 a0_4 a0_5).bind fun t183 => (if (t182 != t183) = true then (none) else ((field_Begin.f a0_0 a0_1 l0_2 a0_3 a0_4 a0_5 (Int.tmod (wrap64 (a1)) (l0_2.length : Int))).bind fun t184 => ((shutterref11_Begin.f k a0_0 a0_1 l0_2 a0_3 a0_4 a0_5 (Int.tmod (wrap64 (a1)) (l0_2.length : Int))).bind fun t185 => (if t184 = t185 then ((field_Cells.f a0_0 a0_1 l0_2 a0_3 a0_4 a0_5 (Int.tmod (wrap64 (a1)) (l0_2.length : Int))).bind fun t186 => ((shutterref11_Cells.f k a0_0 a0_1 l0_2 a0_3 a0_4 a0_5 (Int.tmod (wrap64 (a1)) (l0_2.length : Int))).bind fun t189 => ((shutterref10_Ints.f k t186 t189).bind fun t192 => (if t192 = true then ((field_Of.f a0_0 a0_1 l0_2 a0_3 a0_4 a0_5 (Int.tmod (wrap64 (a1)) (l0_2.length : Int))).bind fun bt193 => ((shutterref11_Of.f k a0_0 a0_1 l0_2 a0_3 a0_4 a0_5 (Int.tmod (wrap64 (a1)) (l0_2.length : Int))).bind fun bt197 => (if (bt193.1 == bt197.1 && (bt193.2.1 == bt197.2.1 && (bt193.2.2.1 == bt197.2.2.1 && (bt193.2.2.2 == bt197.2.2.2)))) = true then ((field_Open.f a0_0 a0_1 l0_2 a0_3 a0_4 a0_5 (Int.tmod (wrap64 (a1)) (l0_2.length : Int))).bind fun t201 => ((shutterref11_Open.f k a0_0 a0_1 l0_2 a0_3 a0_4 a0_5 (Int.tmod (wrap64 (a1)) (l0_2.length : Int))).bind fun t202 => (some (t201 == t202)))) else (none)))) else (none))))) else (none)))))))) else ((shutterlaw11_awake.f k).bind fun t181 => (some t181)))) else (none))
theorem shutterlaw11_FieldAsks.mono : ∀ a0 a1 a2 a3 a4 a5 a6 k, LeO (shutterlaw11_FieldAsks.f k a0 a1 a2 a3 a4 a5 a6) (shutterlaw11_FieldAsks.f (k + 1) a0 a1 a2 a3 a4 a5 a6) := by
  intro a0 a1 a2 a3 a4 a5 a6 k
  unfold shutterlaw11_FieldAsks.f
  repeat' first
      | (with_reducible exact shutterlaw11_awake.mono _)
      | (with_reducible exact shutterref10_Few.mono _ _ _ _ _ _ _)
      | (with_reducible exact shutterref10_Ints.mono _ _ _)
      | (with_reducible exact shutterref11_Begin.mono _ _ _ _ _ _ _ _)
      | (with_reducible exact shutterref11_Cells.mono _ _ _ _ _ _ _ _)
      | (with_reducible exact shutterref11_Formatted.mono _ _ _ _ _ _ _)
      | (with_reducible exact shutterref11_Of.mono _ _ _ _ _ _ _ _)
      | (with_reducible exact shutterref11_Open.mono _ _ _ _ _ _ _ _)
      | (with_reducible exact LeO.refl _)
      | (with_reducible exact LeO.none _)
      | (with_reducible refine LeO.ite ?_ ?_)
      | (with_reducible refine LeO.bind ?_ (fun _ => ?_))
      | exact shutterlaw11_awake.mono _
      | exact shutterref10_Few.mono _ _ _ _ _ _ _
      | exact shutterref10_Ints.mono _ _ _
      | exact shutterref11_Begin.mono _ _ _ _ _ _ _ _
      | exact shutterref11_Cells.mono _ _ _ _ _ _ _ _
      | exact shutterref11_Formatted.mono _ _ _ _ _ _ _
      | exact shutterref11_Of.mono _ _ _ _ _ _ _ _
      | exact shutterref11_Open.mono _ _ _ _ _ _ _ _
      | exact LeO.none _
      | refine LeO.ite ?_ ?_
      | refine LeO.bind ?_ (fun _ => ?_)
def shutterlaw11_FieldAsks.T4 : Bool × List (List Nat × List Nat) := (true, [([], []), ([0], [0]), ([], []), ([2, 1], [2]), ([1, 3], [1, 3]), ([4, 3], [4]), ([5], [5]), ([5], [5]), ([6, 7, 5, 5], [5, 6, 7]), ([5], [5]), ([5], [5]), ([9, 10, 8, 5], [5, 9, 10]), ([8, 11, 5], [5, 8, 11]), ([5, 12], [5, 12]), ([13, 11], [13]), ([14], [14]), ([14], [14]), ([15, 16, 14, 14], [14, 15, 16]), ([14], [14]), ([14], [14]), ([18, 19, 17, 14], [14, 18, 19]), ([17, 20, 20, 14], [14, 17, 20]), ([21, 14], [14, 21]), ([14, 22], [14, 22])])
def shutterlaw11_FieldAsks.B4 : List Nat := [0, 1, 0, 7, 15, 31, 63, 63, 255, 63, 63, 2047, 4095, 8191, 16383, 32767, 32767, 131071, 32767, 32767, 1048575, 2097151, 4194303, 8388607]
theorem shutterlaw11_FieldAsks.tab4 : rtab .any (opsOf Try.f3 4) = shutterlaw11_FieldAsks.T4 := by kernel_rfl
theorem shutterlaw11_FieldAsks.bits4 : waitsOk shutterlaw11_FieldAsks.T4.2 shutterlaw11_FieldAsks.B4 = true := by kernel_rfl
def shutterlaw11_FieldAsks.T6 : Bool × List (List Nat × List Nat) := (true, [([], []), ([], []), ([0, 1], [0, 1]), ([], []), ([], []), ([3, 4, 2], [3, 4]), ([2, 5], [2, 5]), ([6, 5], [6]), ([7], [7]), ([7], [7]), ([8, 9, 7, 7], [7, 8, 9]), ([7], [7]), ([7], [7]), ([11, 12, 10, 7], [7, 11, 12]), ([10, 13, 7], [7, 10, 13]), ([7, 14], [7, 14]), ([15, 13, 0, 1, 2, 3, 4, 5, 6, 7, 8, 9, 10, 11, 12, 13, 14, 15], [15])])
def shutterlaw11_FieldAsks.B6 : List Nat := [0, 0, 3, 0, 0, 31, 63, 127, 255, 255, 1023, 255, 255, 8191, 16383, 32767, 65535]
theorem shutterlaw11_FieldAsks.tab6 : rtab .any (opsOf Try.f3 6) = shutterlaw11_FieldAsks.T6 := by kernel_rfl
theorem shutterlaw11_FieldAsks.bits6 : waitsOk shutterlaw11_FieldAsks.T6.2 shutterlaw11_FieldAsks.B6 = true := by kernel_rfl
set_option maxHeartbeats 8000000 in
set_option maxRecDepth 100000 in
theorem shutterlaw11_FieldAsks.calls (k : Nat) (a0_0 : Int) (a0_1 : Int) (A0_2 : Option Addr) (c0_2 : Nat) (l0_2 : List (S39)) (a0_3 : Int) (a0_4 : Bool) (a0_5 : Bool) (a1 : Int) (r : Bool) (w : World) (hr0_2 : Kd.C k39 w A0_2 l0_2.length l0_2) (hc0_2 : l0_2.length ≤ c0_2) (h : shutterlaw11_FieldAsks.f k a0_0 a0_1 l0_2 a0_3 a0_4 a0_5 a1 = some r) :
    Calls Try.prog 3 #[.agg #[.int .i64 a0_0, .int .i64 a0_1, .slice A0_2 l0_2.length c0_2, .int .i64 a0_3, .bool a0_4, .bool a0_5], .int .u16 a1] w fun e w' => e = .returned (.bool r) ∧ Below w.heap.size w w' := by
  have hu24 := Try.underlying24
  have HR0_2 := Aside0.mk hr0_2
  have HC0_2 := Aside0.mk hc0_2
  clear hr0_2 hc0_2
  have HB := Aside0.mk (Below.refl w.heap.size w)
  have H : ((shutterlaw11_awake.f k).bind fun t179 => (if t179 = true then ((shutterref10_Few.f k a0_0 a0_1 l0_2 a0_3 a0_4 a0_5).bind fun t180 => (if t180 = true then (if (l0_2.length : Int) = 0 then (none) else ((field_Formatted.f a0_0 a0_1 l0_2 a0_3 a0_4 a0_5).bind fun t182 => ((shutterref11_Formatted.f k a0_0 a0_1 l0_2 a0_3 a0_4 a0_5).bind fun t183 => (if (t182 != t183) = true then (none) else ((field_Begin.f a0_0 a0_1 l0_2 a0_3 a0_4 a0_5 (Int.tmod (wrap64 (a1)) (l0_2.length : Int))).bind fun t184 => ((shutterref11_Begin.f k a0_0 a0_1 l0_2 a0_3 a0_4 a0_5 (Int.tmod (wrap64 (a1)) (l0_2.length : Int))).bind fun t185 => (if t184 = t185 then ((field_Cells.f a0_0 a0_1 l0_2 a0_3 a0_4 a0_5 (Int.tmod (wrap64 (a1)) (l0_2.length : Int))).bind fun t186 => ((shutterref11_Cells.f k a0_0 a0_1 l0_2 a0_3 a0_4 a0_5 (Int.tmod (wrap64 (a1)) (l0_2.length : Int))).bind fun t189 => ((shutterref10_Ints.f k t186 t189).bind fun t192 => (if t192 = true then ((field_Of.f a0_0 a0_1 l0_2 a0_3 a0_4 a0_5 (Int.tmod (wrap64 (a1)) (l0_2.length : Int))).bind fun bt193 => ((shutterref11_Of.f k a0_0 a0_1 l0_2 a0_3 a0_4 a0_5 (Int.tmod (wrap64 (a1)) (l0_2.length : Int))).bind fun bt197 => (if (bt193.1 == bt197.1 && (bt193.2.1 == bt197.2.1 && (bt193.2.2.1 == bt197.2.2.1 && (bt193.2.2.2 == bt197.2.2.2)))) = true then ((field_Open.f a0_0 a0_1 l0_2 a0_3 a0_4 a0_5 (Int.tmod (wrap64 (a1)) (l0_2.length : Int))).bind fun t201 => ((shutterref11_Open.f k a0_0 a0_1 l0_2 a0_3 a0_4 a0_5 (Int.tmod (wrap64 (a1)) (l0_2.length : Int))).bind fun t202 => (some (t201 == t202)))) else (none)))) else (none))))) else (none)))))))) else ((shutterlaw11_awake.f k).bind fun t181 => (some t181)))) else (none))) = some r := h
  clear h
  replace H := Option.bind_eq_some_iff.mp H
  obtain ⟨t179, A30, H⟩ := H
  replace H : (if t179 = true then ((shutterref10_Few.f k a0_0 a0_1 l0_2 a0_3 a0_4 a0_5).bind fun t180 => (if t180 = true then (if (l0_2.length : Int) = 0 then (none) else ((field_Formatted.f a0_0 a0_1 l0_2 a0_3 a0_4 a0_5).bind fun t182 => ((shutterref11_Formatted.f k a0_0 a0_1 l0_2 a0_3 a0_4 a0_5).bind fun t183 => (if (t182 != t183) = true then (none) else ((field_Begin.f a0_0 a0_1 l0_2 a0_3 a0_4 a0_5 (Int.tmod (wrap64 (a1)) (l0_2.length : Int))).bind fun t184 => ((shutterref11_Begin.f k a0_0 a0_1 l0_2 a0_3 a0_4 a0_5 (Int.tmod (wrap64 (a1)) (l0_2.length : Int))).bind fun t185 => (if t184 = t185 then ((field_Cells.f a0_0 a0_1 l0_2 a0_3 a0_4 a0_5 (Int.tmod (wrap64 (a1)) (l0_2.length : Int))).bind fun t186 => ((shutterref11_Cells.f k a0_0 a0_1 l0_2 a0_3 a0_4 a0_5 (Int.tmod (wrap64 (a1)) (l0_2.length : Int))).bind fun t189 => ((shutterref10_Ints.f k t186 t189).bind fun t192 => (if t192 = true then ((field_Of.f a0_0 a0_1 l0_2 a0_3 a0_4 a0_5 (Int.tmod (wrap64 (a1)) (l0_2.length : Int))).bind fun bt193 => ((shutterref11_Of.f k a0_0 a0_1 l0_2 a0_3 a0_4 a0_5 (Int.tmod (wrap64 (a1)) (l0_2.length : Int))).bind fun bt197 => (if (bt193.1 == bt197.1 && (bt193.2.1 == bt197.2.1 && (bt193.2.2.1 == bt197.2.2.1 && (bt193.2.2.2 == bt197.2.2.2)))) = true then ((field_Open.f a0_0 a0_1 l0_2 a0_3 a0_4 a0_5 (Int.tmod (wrap64 (a1)) (l0_2.length : Int))).bind fun t201 => ((shutterref11_Open.f k a0_0 a0_1 l0_2 a0_3 a0_4 a0_5 (Int.tmod (wrap64 (a1)) (l0_2.length : Int))).bind fun t202 => (some (t201 == t202)))) else (none)))) else (none))))) else (none)))))))) else ((shutterlaw11_awake.f k).bind fun t181 => (some t181)))) else (none)) = some r := H
  have A3 := Aside0.mk A30
  clear A30
  by_cases c4 : t179 = true
  · subst c4
    have H1 : ((shutterref10_Few.f k a0_0 a0_1 l0_2 a0_3 a0_4 a0_5).bind fun t180 => (if t180 = true then (if (l0_2.length : Int) = 0 then (none) else ((field_Formatted.f a0_0 a0_1 l0_2 a0_3 a0_4 a0_5).bind fun t182 => ((shutterref11_Formatted.f k a0_0 a0_1 l0_2 a0_3 a0_4 a0_5).bind fun t183 => (if (t182 != t183) = true then (none) else ((field_Begin.f a0_0 a0_1 l0_2 a0_3 a0_4 a0_5 (Int.tmod (wrap64 (a1)) (l0_2.length : Int))).bind fun t184 => ((shutterref11_Begin.f k a0_0 a0_1 l0_2 a0_3 a0_4 a0_5 (Int.tmod (wrap64 (a1)) (l0_2.length : Int))).bind fun t185 => (if t184 = t185 then ((field_Cells.f a0_0 a0_1 l0_2 a0_3 a0_4 a0_5 (Int.tmod (wrap64 (a1)) (l0_2.length : Int))).bind fun t186 => ((shutterref11_Cells.f k a0_0 a0_1 l0_2 a0_3 a0_4 a0_5 (Int.tmod (wrap64 (a1)) (l0_2.length : Int))).bind fun t189 => ((shutterref10_Ints.f k t186 t189).bind fun t192 => (if t192 = true then ((field_Of.f a0_0 a0_1 l0_2 a0_3 a0_4 a0_5 (Int.tmod (wrap64 (a1)) (l0_2.length : Int))).bind fun bt193 => ((shutterref11_Of.f k a0_0 a0_1 l0_2 a0_3 a0_4 a0_5 (Int.tmod (wrap64 (a1)) (l0_2.length : Int))).bind fun bt197 => (if (bt193.1 == bt197.1 && (bt193.2.1 == bt197.2.1 && (bt193.2.2.1 == bt197.2.2.1 && (bt193.2.2.2 == bt197.2.2.2)))) = true then ((field_Open.f a0_0 a0_1 l0_2 a0_3 a0_4 a0_5 (Int.tmod (wrap64 (a1)) (l0_2.length : Int))).bind fun t201 => ((shutterref11_Open.f k a0_0 a0_1 l0_2 a0_3 a0_4 a0_5 (Int.tmod (wrap64 (a1)) (l0_2.length : Int))).bind fun t202 => (some (t201 == t202)))) else (none)))) else (none))))) else (none)))))))) else ((shutterlaw11_awake.f k).bind fun t181 => (some t181)))) = some r := by rw [if_pos rfl] at H; exact H
    clear H
    have H := H1
    clear H1
    replace H := Option.bind_eq_some_iff.mp H
    obtain ⟨t180, A50, H⟩ := H
    replace H : (if t180 = true then (if (l0_2.length : Int) = 0 then (none) else ((field_Formatted.f a0_0 a0_1 l0_2 a0_3 a0_4 a0_5).bind fun t182 => ((shutterref11_Formatted.f k a0_0 a0_1 l0_2 a0_3 a0_4 a0_5).bind fun t183 => (if (t182 != t183) = true then (none) else ((field_Begin.f a0_0 a0_1 l0_2 a0_3 a0_4 a0_5 (Int.tmod (wrap64 (a1)) (l0_2.length : Int))).bind fun t184 => ((shutterref11_Begin.f k a0_0 a0_1 l0_2 a0_3 a0_4 a0_5 (Int.tmod (wrap64 (a1)) (l0_2.length : Int))).bind fun t185 => (if t184 = t185 then ((field_Cells.f a0_0 a0_1 l0_2 a0_3 a0_4 a0_5 (Int.tmod (wrap64 (a1)) (l0_2.length : Int))).bind fun t186 => ((shutterref11_Cells.f k a0_0 a0_1 l0_2 a0_3 a0_4 a0_5 (Int.tmod (wrap64 (a1)) (l0_2.length : Int))).bind fun t189 => ((shutterref10_Ints.f k t186 t189).bind fun t192 => (if t192 = true then ((field_Of.f a0_0 a0_1 l0_2 a0_3 a0_4 a0_5 (Int.tmod (wrap64 (a1)) (l0_2.length : Int))).bind fun bt193 => ((shutterref11_Of.f k a0_0 a0_1 l0_2 a0_3 a0_4 a0_5 (Int.tmod (wrap64 (a1)) (l0_2.length : Int))).bind fun bt197 => (if (bt193.1 == bt197.1 && (bt193.2.1 == bt197.2.1 && (bt193.2.2.1 == bt197.2.2.1 && (bt193.2.2.2 == bt197.2.2.2)))) = true then ((field_Open.f a0_0 a0_1 l0_2 a0_3 a0_4 a0_5 (Int.tmod (wrap64 (a1)) (l0_2.length : Int))).bind fun t201 => ((shutterref11_Open.f k a0_0 a0_1 l0_2 a0_3 a0_4 a0_5 (Int.tmod (wrap64 (a1)) (l0_2.length : Int))).bind fun t202 => (some (t201 == t202)))) else (none)))) else (none))))) else (none)))))))) else ((shutterlaw11_awake.f k).bind fun t181 => (some t181))) = some r := H
    have A5 := Aside0.mk A50
    clear A50
    by_cases c6 : t180 = true
    · subst c6
      have H1 : (if (l0_2.length : Int) = 0 then (none) else ((field_Formatted.f a0_0 a0_1 l0_2 a0_3 a0_4 a0_5).bind fun t182 => ((shutterref11_Formatted.f k a0_0 a0_1 l0_2 a0_3 a0_4 a0_5).bind fun t183 => (if (t182 != t183) = true then (none) else ((field_Begin.f a0_0 a0_1 l0_2 a0_3 a0_4 a0_5 (Int.tmod (wrap64 (a1)) (l0_2.length : Int))).bind fun t184 => ((shutterref11_Begin.f k a0_0 a0_1 l0_2 a0_3 a0_4 a0_5 (Int.tmod (wrap64 (a1)) (l0_2.length : Int))).bind fun t185 => (if t184 = t185 then ((field_Cells.f a0_0 a0_1 l0_2 a0_3 a0_4 a0_5 (Int.tmod (wrap64 (a1)) (l0_2.length : Int))).bind fun t186 => ((shutterref11_Cells.f k a0_0 a0_1 l0_2 a0_3 a0_4 a0_5 (Int.tmod (wrap64 (a1)) (l0_2.length : Int))).bind fun t189 => ((shutterref10_Ints.f k t186 t189).bind fun t192 => (if t192 = true then ((field_Of.f a0_0 a0_1 l0_2 a0_3 a0_4 a0_5 (Int.tmod (wrap64 (a1)) (l0_2.length : Int))).bind fun bt193 => ((shutterref11_Of.f k a0_0 a0_1 l0_2 a0_3 a0_4 a0_5 (Int.tmod (wrap64 (a1)) (l0_2.length : Int))).bind fun bt197 => (if (bt193.1 == bt197.1 && (bt193.2.1 == bt197.2.1 && (bt193.2.2.1 == bt197.2.2.1 && (bt193.2.2.2 == bt197.2.2.2)))) = true then ((field_Open.f a0_0 a0_1 l0_2 a0_3 a0_4 a0_5 (Int.tmod (wrap64 (a1)) (l0_2.length : Int))).bind fun t201 => ((shutterref11_Open.f k a0_0 a0_1 l0_2 a0_3 a0_4 a0_5 (Int.tmod (wrap64 (a1)) (l0_2.length : Int))).bind fun t202 => (some (t201 == t202)))) else (none)))) else (none))))) else (none)))))))) = some r := by rw [if_pos rfl] at H; exact H
      clear H
      have H := H1
      clear H1
      by_cases c7 : (l0_2.length : Int) = 0
      · rw [if_pos c7] at H
        exact absurd H (by simp)
      · rw [if_neg c7] at H
        have c7b0 : ((l0_2.length : Int) == 0) = false := beq_eq_false_iff_ne.mpr c7
        have c7b1 : ((l0_2.length : Int) != 0) = true := bne_iff_ne.mpr c7
        have c7b2 : ¬ (l0_2 = []) := fun h_ => c7 (by rw [h_]; rfl)
        replace H := Option.bind_eq_some_iff.mp H
        obtain ⟨t182, A80, H⟩ := H
        replace H : ((shutterref11_Formatted.f k a0_0 a0_1 l0_2 a0_3 a0_4 a0_5).bind fun t183 => (if (t182 != t183) = true then (none) else ((field_Begin.f a0_0 a0_1 l0_2 a0_3 a0_4 a0_5 (Int.tmod (wrap64 (a1)) (l0_2.length : Int))).bind fun t184 => ((shutterref11_Begin.f k a0_0 a0_1 l0_2 a0_3 a0_4 a0_5 (Int.tmod (wrap64 (a1)) (l0_2.length : Int))).bind fun t185 => (if t184 = t185 then ((field_Cells.f a0_0 a0_1 l0_2 a0_3 a0_4 a0_5 (Int.tmod (wrap64 (a1)) (l0_2.length : Int))).bind fun t186 => ((shutterref11_Cells.f k a0_0 a0_1 l0_2 a0_3 a0_4 a0_5 (Int.tmod (wrap64 (a1)) (l0_2.length : Int))).bind fun t189 => ((shutterref10_Ints.f k t186 t189).bind fun t192 => (if t192 = true then ((field_Of.f a0_0 a0_1 l0_2 a0_3 a0_4 a0_5 (Int.tmod (wrap64 (a1)) (l0_2.length : Int))).bind fun bt193 => ((shutterref11_Of.f k a0_0 a0_1 l0_2 a0_3 a0_4 a0_5 (Int.tmod (wrap64 (a1)) (l0_2.length : Int))).bind fun bt197 => (if (bt193.1 == bt197.1 && (bt193.2.1 == bt197.2.1 && (bt193.2.2.1 == bt197.2.2.1 && (bt193.2.2.2 == bt197.2.2.2)))) = true then ((field_Open.f a0_0 a0_1 l0_2 a0_3 a0_4 a0_5 (Int.tmod (wrap64 (a1)) (l0_2.length : Int))).bind fun t201 => ((shutterref11_Open.f k a0_0 a0_1 l0_2 a0_3 a0_4 a0_5 (Int.tmod (wrap64 (a1)) (l0_2.length : Int))).bind fun t202 => (some (t201 == t202)))) else (none)))) else (none))))) else (none)))))) = some r := H
        have A8 := Aside0.mk A80
        clear A80
        replace H := Option.bind_eq_some_iff.mp H
        obtain ⟨t183, A90, H⟩ := H
        replace H : (if (t182 != t183) = true then (none) else ((field_Begin.f a0_0 a0_1 l0_2 a0_3 a0_4 a0_5 (Int.tmod (wrap64 (a1)) (l0_2.length : Int))).bind fun t184 => ((shutterref11_Begin.f k a0_0 a0_1 l0_2 a0_3 a0_4 a0_5 (Int.tmod (wrap64 (a1)) (l0_2.length : Int))).bind fun t185 => (if t184 = t185 then ((field_Cells.f a0_0 a0_1 l0_2 a0_3 a0_4 a0_5 (Int.tmod (wrap64 (a1)) (l0_2.length : Int))).bind fun t186 => ((shutterref11_Cells.f k a0_0 a0_1 l0_2 a0_3 a0_4 a0_5 (Int.tmod (wrap64 (a1)) (l0_2.length : Int))).bind fun t189 => ((shutterref10_Ints.f k t186 t189).bind fun t192 => (if t192 = true then ((field_Of.f a0_0 a0_1 l0_2 a0_3 a0_4 a0_5 (Int.tmod (wrap64 (a1)) (l0_2.length : Int))).bind fun bt193 => ((shutterref11_Of.f k a0_0 a0_1 l0_2 a0_3 a0_4 a0_5 (Int.tmod (wrap64 (a1)) (l0_2.length : Int))).bind fun bt197 => (if (bt193.1 == bt197.1 && (bt193.2.1 == bt197.2.1 && (bt193.2.2.1 == bt197.2.2.1 && (bt193.2.2.2 == bt197.2.2.2)))) = true then ((field_Open.f a0_0 a0_1 l0_2 a0_3 a0_4 a0_5 (Int.tmod (wrap64 (a1)) (l0_2.length : Int))).bind fun t201 => ((shutterref11_Open.f k a0_0 a0_1 l0_2 a0_3 a0_4 a0_5 (Int.tmod (wrap64 (a1)) (l0_2.length : Int))).bind fun t202 => (some (t201 == t202)))) else (none)))) else (none))))) else (none))))) = some r := H
        have A9 := Aside0.mk A90
        clear A90
        by_cases c10 : (t182 != t183) = true
        · rw [if_pos c10] at H
          exact absurd H (by simp)
        · rw [if_neg c10] at H
          have c10b0 : (t182 != t183) = false := by simpa using c10
          (try (have c10b1 : decide (t182 = t183) = true := by simpa using c10))
          (try (have c10b2 : (t182 == t183) = true := by simpa using c10))
          clear c10
          replace H := Option.bind_eq_some_iff.mp H
          obtain ⟨t184, A110, H⟩ := H
          replace H : ((shutterref11_Begin.f k a0_0 a0_1 l0_2 a0_3 a0_4 a0_5 (Int.tmod (wrap64 (a1)) (l0_2.length : Int))).bind fun t185 => (if t184 = t185 then ((field_Cells.f a0_0 a0_1 l0_2 a0_3 a0_4 a0_5 (Int.tmod (wrap64 (a1)) (l0_2.length : Int))).bind fun t186 => ((shutterref11_Cells.f k a0_0 a0_1 l0_2 a0_3 a0_4 a0_5 (Int.tmod (wrap64 (a1)) (l0_2.length : Int))).bind fun t189 => ((shutterref10_Ints.f k t186 t189).bind fun t192 => (if t192 = true then ((field_Of.f a0_0 a0_1 l0_2 a0_3 a0_4 a0_5 (Int.tmod (wrap64 (a1)) (l0_2.length : Int))).bind fun bt193 => ((shutterref11_Of.f k a0_0 a0_1 l0_2 a0_3 a0_4 a0_5 (Int.tmod (wrap64 (a1)) (l0_2.length : Int))).bind fun bt197 => (if (bt193.1 == bt197.1 && (bt193.2.1 == bt197.2.1 && (bt193.2.2.1 == bt197.2.2.1 && (bt193.2.2.2 == bt197.2.2.2)))) = true then ((field_Open.f a0_0 a0_1 l0_2 a0_3 a0_4 a0_5 (Int.tmod (wrap64 (a1)) (l0_2.length : Int))).bind fun t201 => ((shutterref11_Open.f k a0_0 a0_1 l0_2 a0_3 a0_4 a0_5 (Int.tmod (wrap64 (a1)) (l0_2.length : Int))).bind fun t202 => (some (t201 == t202)))) else (none)))) else (none))))) else (none))) = some r := H
          have A11 := Aside0.mk A110
          clear A110
          replace H := Option.bind_eq_some_iff.mp H
          obtain ⟨t185, A120, H⟩ := H
          replace H : (if t184 = t185 then ((field_Cells.f a0_0 a0_1 l0_2 a0_3 a0_4 a0_5 (Int.tmod (wrap64 (a1)) (l0_2.length : Int))).bind fun t186 => ((shutterref11_Cells.f k a0_0 a0_1 l0_2 a0_3 a0_4 a0_5 (Int.tmod (wrap64 (a1)) (l0_2.length : Int))).bind fun t189 => ((shutterref10_Ints.f k t186 t189).bind fun t192 => (if t192 = true then ((field_Of.f a0_0 a0_1 l0_2 a0_3 a0_4 a0_5 (Int.tmod (wrap64 (a1)) (l0_2.length : Int))).bind fun bt193 => ((shutterref11_Of.f k a0_0 a0_1 l0_2 a0_3 a0_4 a0_5 (Int.tmod (wrap64 (a1)) (l0_2.length : Int))).bind fun bt197 => (if (bt193.1 == bt197.1 && (bt193.2.1 == bt197.2.1 && (bt193.2.2.1 == bt197.2.2.1 && (bt193.2.2.2 == bt197.2.2.2)))) = true then ((field_Open.f a0_0 a0_1 l0_2 a0_3 a0_4 a0_5 (Int.tmod (wrap64 (a1)) (l0_2.length : Int))).bind fun t201 => ((shutterref11_Open.f k a0_0 a0_1 l0_2 a0_3 a0_4 a0_5 (Int.tmod (wrap64 (a1)) (l0_2.length : Int))).bind fun t202 => (some (t201 == t202)))) else (none)))) else (none))))) else (none)) = some r := H
          have A12 := Aside0.mk A120
          clear A120
          by_cases c13 : t184 = t185
          · rw [if_pos c13] at H
            have c13b0 : (t184 == t185) = true := beq_iff_eq.mpr c13
            have c13b1 : (t184 != t185) = false := bne_eq_false_iff_eq.mpr c13
            clear c13
            replace H := Option.bind_eq_some_iff.mp H
            obtain ⟨t186, A140, H⟩ := H
            replace H : ((shutterref11_Cells.f k a0_0 a0_1 l0_2 a0_3 a0_4 a0_5 (Int.tmod (wrap64 (a1)) (l0_2.length : Int))).bind fun t189 => ((shutterref10_Ints.f k t186 t189).bind fun t192 => (if t192 = true then ((field_Of.f a0_0 a0_1 l0_2 a0_3 a0_4 a0_5 (Int.tmod (wrap64 (a1)) (l0_2.length : Int))).bind fun bt193 => ((shutterref11_Of.f k a0_0 a0_1 l0_2 a0_3 a0_4 a0_5 (Int.tmod (wrap64 (a1)) (l0_2.length : Int))).bind fun bt197 => (if (bt193.1 == bt197.1 && (bt193.2.1 == bt197.2.1 && (bt193.2.2.1 == bt197.2.2.1 && (bt193.2.2.2 == bt197.2.2.2)))) = true then ((field_Open.f a0_0 a0_1 l0_2 a0_3 a0_4 a0_5 (Int.tmod (wrap64 (a1)) (l0_2.length : Int))).bind fun t201 => ((shutterref11_Open.f k a0_0 a0_1 l0_2 a0_3 a0_4 a0_5 (Int.tmod (wrap64 (a1)) (l0_2.length : Int))).bind fun t202 => (some (t201 == t202)))) else (none)))) else (none)))) = some r := H
            have A14 := Aside0.mk A140
            clear A140
            replace H := Option.bind_eq_some_iff.mp H
            obtain ⟨t189, A150, H⟩ := H
            replace H : ((shutterref10_Ints.f k t186 t189).bind fun t192 => (if t192 = true then ((field_Of.f a0_0 a0_1 l0_2 a0_3 a0_4 a0_5 (Int.tmod (wrap64 (a1)) (l0_2.length : Int))).bind fun bt193 => ((shutterref11_Of.f k a0_0 a0_1 l0_2 a0_3 a0_4 a0_5 (Int.tmod (wrap64 (a1)) (l0_2.length : Int))).bind fun bt197 => (if (bt193.1 == bt197.1 && (bt193.2.1 == bt197.2.1 && (bt193.2.2.1 == bt197.2.2.1 && (bt193.2.2.2 == bt197.2.2.2)))) = true then ((field_Open.f a0_0 a0_1 l0_2 a0_3 a0_4 a0_5 (Int.tmod (wrap64 (a1)) (l0_2.length : Int))).bind fun t201 => ((shutterref11_Open.f k a0_0 a0_1 l0_2 a0_3 a0_4 a0_5 (Int.tmod (wrap64 (a1)) (l0_2.length : Int))).bind fun t202 => (some (t201 == t202)))) else (none)))) else (none))) = some r := H
            have A15 := Aside0.mk A150
            clear A150
            replace H := Option.bind_eq_some_iff.mp H
            obtain ⟨t192, A160, H⟩ := H
            replace H : (if t192 = true then ((field_Of.f a0_0 a0_1 l0_2 a0_3 a0_4 a0_5 (Int.tmod (wrap64 (a1)) (l0_2.length : Int))).bind fun bt193 => ((shutterref11_Of.f k a0_0 a0_1 l0_2 a0_3 a0_4 a0_5 (Int.tmod (wrap64 (a1)) (l0_2.length : Int))).bind fun bt197 => (if (bt193.1 == bt197.1 && (bt193.2.1 == bt197.2.1 && (bt193.2.2.1 == bt197.2.2.1 && (bt193.2.2.2 == bt197.2.2.2)))) = true then ((field_Open.f a0_0 a0_1 l0_2 a0_3 a0_4 a0_5 (Int.tmod (wrap64 (a1)) (l0_2.length : Int))).bind fun t201 => ((shutterref11_Open.f k a0_0 a0_1 l0_2 a0_3 a0_4 a0_5 (Int.tmod (wrap64 (a1)) (l0_2.length : Int))).bind fun t202 => (some (t201 == t202)))) else (none)))) else (none)) = some r := H
            have A16 := Aside0.mk A160
            clear A160
            by_cases c17 : t192 = true
            · subst c17
              have H1 : ((field_Of.f a0_0 a0_1 l0_2 a0_3 a0_4 a0_5 (Int.tmod (wrap64 (a1)) (l0_2.length : Int))).bind fun bt193 => ((shutterref11_Of.f k a0_0 a0_1 l0_2 a0_3 a0_4 a0_5 (Int.tmod (wrap64 (a1)) (l0_2.length : Int))).bind fun bt197 => (if (bt193.1 == bt197.1 && (bt193.2.1 == bt197.2.1 && (bt193.2.2.1 == bt197.2.2.1 && (bt193.2.2.2 == bt197.2.2.2)))) = true then ((field_Open.f a0_0 a0_1 l0_2 a0_3 a0_4 a0_5 (Int.tmod (wrap64 (a1)) (l0_2.length : Int))).bind fun t201 => ((shutterref11_Open.f k a0_0 a0_1 l0_2 a0_3 a0_4 a0_5 (Int.tmod (wrap64 (a1)) (l0_2.length : Int))).bind fun t202 => (some (t201 == t202)))) else (none)))) = some r := by rw [if_pos rfl] at H; exact H
              clear H
              have H := H1
              clear H1
              replace H := Option.bind_eq_some_iff.mp H
              obtain ⟨⟨t193, t194, t195, t196⟩, A180, H⟩ := H
              replace H : ((shutterref11_Of.f k a0_0 a0_1 l0_2 a0_3 a0_4 a0_5 (Int.tmod (wrap64 (a1)) (l0_2.length : Int))).bind fun bt197 => (if (t193 == bt197.1 && (t194 == bt197.2.1 && (t195 == bt197.2.2.1 && (t196 == bt197.2.2.2)))) = true then ((field_Open.f a0_0 a0_1 l0_2 a0_3 a0_4 a0_5 (Int.tmod (wrap64 (a1)) (l0_2.length : Int))).bind fun t201 => ((shutterref11_Open.f k a0_0 a0_1 l0_2 a0_3 a0_4 a0_5 (Int.tmod (wrap64 (a1)) (l0_2.length : Int))).bind fun t202 => (some (t201 == t202)))) else (none))) = some r := H
              have A18 := Aside0.mk A180
              clear A180
              replace H := Option.bind_eq_some_iff.mp H
              obtain ⟨⟨t197, t198, t199, t200⟩, A190, H⟩ := H
              replace H : (if (t193 == t197 && (t194 == t198 && (t195 == t199 && (t196 == t200)))) = true then ((field_Open.f a0_0 a0_1 l0_2 a0_3 a0_4 a0_5 (Int.tmod (wrap64 (a1)) (l0_2.length : Int))).bind fun t201 => ((shutterref11_Open.f k a0_0 a0_1 l0_2 a0_3 a0_4 a0_5 (Int.tmod (wrap64 (a1)) (l0_2.length : Int))).bind fun t202 => (some (t201 == t202)))) else (none)) = some r := H
              have A19 := Aside0.mk A190
              clear A190
              by_cases c20 : (t193 == t197 && (t194 == t198 && (t195 == t199 && (t196 == t200)))) = true
              · rw [if_pos c20] at H
                have c20b0 : (t193 == t197 && (t194 == t198 && (t195 == t199 && (t196 == t200)))) = true := c20
                (try (have c20b1 : decide (t193 = t197 && (t194 == t198 && (t195 == t199 && (t196 == t200)))) = true := by simpa using c20))
                (try (have c20b2 : (t193 == t197 && (t194 == t198 && (t195 == t199 && (t196 == t200)))) = true := by simpa using c20))
                clear c20
                replace H := Option.bind_eq_some_iff.mp H
                obtain ⟨t201, A210, H⟩ := H
                replace H : ((shutterref11_Open.f k a0_0 a0_1 l0_2 a0_3 a0_4 a0_5 (Int.tmod (wrap64 (a1)) (l0_2.length : Int))).bind fun t202 => (some (t201 == t202))) = some r := H
                have A21 := Aside0.mk A210
                clear A210
                replace H := Option.bind_eq_some_iff.mp H
                obtain ⟨t202, A220, H⟩ := H
                replace H : (some (t201 == t202)) = some r := H
                have A22 := Aside0.mk A220
                clear A220
                obtain rfl := Option.some.inj H
                go_enter Try.func3, Try.ntmps3
                try go_wp2_with (first | ((with_reducible refine gate_dst (N := 2) rfl ?_); refine box_event ?hg (N := 2) ?hd (cs := #[.int .i64 a0_0, .int .i64 a0_1, .slice A0_2 l0_2.length c0_2, .int .i64 a0_3, .bool a0_4, .bool a0_5]) (t := 24) ?hr ?_; (case hd => rfl); (case hg => rfl); (case hr => first | (go_simp; done) | (go_simp; rfl)); intro gb178 hg w23 hbox hb; have n0_ := Aside0.mk (below_step (by repeat (first | (with_reducible first | exact HB.out | apply below_alloc | apply pw_below_drewN | apply below_drew1) | exact HB.out)) hb); have n1_ := Aside0.mk (hbox); have n2_ := Aside0.mk ((by rw [hg]; exact (below_size (by repeat (first | (with_reducible first | exact HB.out | apply below_alloc | apply pw_below_drewN | apply below_drew1) | exact HB.out))) : w.heap.size ≤ gb178)); have n3_ := Aside0.mk ((by rw [hg]; exact (below_size (by repeat (first | (with_reducible first | exact HB.out | apply below_alloc | apply pw_below_drewN | apply below_drew1) | exact HB.out))) : w.heap.size ≤ gb178)); clear HB; have HB := n0_; have BK178 := n1_; have GW178 := n2_; have GE178 := n3_; clear n0_ n1_ n2_ n3_; clear hb hbox hg) | ((with_reducible refine gate_callee (f := 9) rfl ?_); refine goesL_ (some 6) rfl rfl Try.func9 (by kernel_rfl) rfl #[] rfl (by (try simp only [List.map_toArray, List.map_cons, List.map_nil]); first | done | rfl | (simp only [List.length_drop, List.length_take]; rfl)) ?_; (with_reducible refine (shutterlaw11_awake.calls k  true _ A3.out).mono ?_); rintro e w24 ⟨rfl, hb⟩; refine ⟨_, rfl, ?_⟩; have n0_ := Aside0.mk (blk_below (g := gb178) (o := .cells #[.int .i64 a0_0, .int .i64 a0_1, .slice A0_2 l0_2.length c0_2, .int .i64 a0_3, .bool a0_4, .bool a0_5] 24 (0, 0)) (by (with_reducible repeat (first | refine blk_drewN ?_ _ | refine blk_drew ?_ | refine blk_alloc ?_ _)); exact BK178.out) hb); have n1_ := Aside0.mk (below_step (by repeat (first | (with_reducible first | exact HB.out | apply below_alloc | apply pw_below_drewN | apply below_drew1 | refine below_set ?_ GE178.out) | exact HB.out)) hb); clear BK178; clear HB; have BK178 := n0_; have HB := n1_; clear n0_ n1_; (try clear hb); (try clear hb2); (try clear hk); (try clear hi); have hcz25_0 : w24.cell? ⟨gb178, 0, none⟩ = some (.int .i64 a0_0) := (blk_cell BK178.out 0).trans rfl; have hcz25_1 : w24.cell? ⟨gb178, 1, none⟩ = some (.int .i64 a0_1) := (blk_cell BK178.out 1).trans rfl; have hcz25_2 : w24.cell? ⟨gb178, 2, none⟩ = some (.slice A0_2 l0_2.length c0_2) := (blk_cell BK178.out 2).trans rfl; have hcz25_3 : w24.cell? ⟨gb178, 3, none⟩ = some (.int .i64 a0_3) := (blk_cell BK178.out 3).trans rfl; have hcz25_4 : w24.cell? ⟨gb178, 4, none⟩ = some (.bool a0_4) := (blk_cell BK178.out 4).trans rfl; have hcz25_5 : w24.cell? ⟨gb178, 5, none⟩ = some (.bool a0_5) := (blk_cell BK178.out 5).trans rfl; have hfz25_0 := blk_frozen BK178.out 0; have hfz25_1 := blk_frozen BK178.out 1; have hfz25_2 := blk_frozen BK178.out 2; have hfz25_3 := blk_frozen BK178.out 3; have hfz25_4 := blk_frozen BK178.out 4; have hfz25_5 := blk_frozen BK178.out 5) | (go_at_call 10; (with_reducible refine (shutterref10_Few.calls k a0_0 a0_1 _ _ l0_2 a0_3 a0_4 a0_5 true _ ?side1 ?side2 A5.out).mono ?_); (case side1 => repeat (first | exact (Kd.C_below HR0_2.out HB.out) | (with_reducible refine Kd.C_alloc ?_ _) | (with_reducible refine Kd.C_drewN ?_ _) | (with_reducible refine Kd.C_drew ?_))); (case side2 => exact HC0_2.out); rintro e w26 ⟨rfl, hb⟩; have n0_ := Aside0.mk (blk_below (g := gb178) (o := .cells #[.int .i64 a0_0, .int .i64 a0_1, .slice A0_2 l0_2.length c0_2, .int .i64 a0_3, .bool a0_4, .bool a0_5] 24 (0, 0)) (by (with_reducible repeat (first | refine blk_drewN ?_ _ | refine blk_drew ?_ | refine blk_alloc ?_ _)); exact BK178.out) hb); have n1_ := Aside0.mk (below_step (by repeat (first | (with_reducible first | exact HB.out | apply below_alloc | apply pw_below_drewN | apply below_drew1 | refine below_set ?_ GE178.out) | exact HB.out)) hb); clear BK178; clear HB; have BK178 := n0_; have HB := n1_; clear n0_ n1_; (try clear hb); (try clear hb2); (try clear hk); (try clear hi); have hcz27_0 : w26.cell? ⟨gb178, 0, none⟩ = some (.int .i64 a0_0) := (blk_cell BK178.out 0).trans rfl; have hcz27_1 : w26.cell? ⟨gb178, 1, none⟩ = some (.int .i64 a0_1) := (blk_cell BK178.out 1).trans rfl; have hcz27_2 : w26.cell? ⟨gb178, 2, none⟩ = some (.slice A0_2 l0_2.length c0_2) := (blk_cell BK178.out 2).trans rfl; have hcz27_3 : w26.cell? ⟨gb178, 3, none⟩ = some (.int .i64 a0_3) := (blk_cell BK178.out 3).trans rfl; have hcz27_4 : w26.cell? ⟨gb178, 4, none⟩ = some (.bool a0_4) := (blk_cell BK178.out 4).trans rfl; have hcz27_5 : w26.cell? ⟨gb178, 5, none⟩ = some (.bool a0_5) := (blk_cell BK178.out 5).trans rfl; have hfz27_0 := blk_frozen BK178.out 0; have hfz27_1 := blk_frozen BK178.out 1; have hfz27_2 := blk_frozen BK178.out 2; have hfz27_3 := blk_frozen BK178.out 3; have hfz27_4 := blk_frozen BK178.out 4; have hfz27_5 := blk_frozen BK178.out 5))
                have n0_ := Aside0.mk (blk_drew BK178.out)
                have n1_ := Aside0.mk (below_drew1 HB.out)
                clear BK178
                clear HB
                have BK178 := n0_
                have HB := n1_
                clear n0_ n1_
                refine start_ (n := 24) (S := fun w' => w'.cell? ⟨gb178, 0, none⟩ = some (.int .i64 a0_0) ∧ w'.cell? ⟨gb178, 1, none⟩ = some (.int .i64 a0_1) ∧ w'.cell? ⟨gb178, 2, none⟩ = some (.slice A0_2 l0_2.length c0_2) ∧ w'.cell? ⟨gb178, 3, none⟩ = some (.int .i64 a0_3) ∧ w'.cell? ⟨gb178, 4, none⟩ = some (.bool a0_4) ∧ w'.cell? ⟨gb178, 5, none⟩ = some (.bool a0_5)) (ds := []) #[false, false, false, false, false, false, false, false, false, false, false, false, false, false, false, false, false, false, false, false, false, false, false, false] (by kernel_rfl) rfl rfl ⟨(blk_cell BK178.out 0).trans rfl, (blk_cell BK178.out 1).trans rfl, (blk_cell BK178.out 2).trans rfl, (blk_cell BK178.out 3).trans rfl, (blk_cell BK178.out 4).trans rfl, (blk_cell BK178.out 5).trans rfl⟩ (fun hHeld => ?_); refine with_tabW shutterlaw11_FieldAsks.tab4 shutterlaw11_FieldAsks.bits4 (fun HT_ HW_ => ?_)
                generalize w26.drew = w28 at BK178 HB hHeld ⊢
                refine take_ (i := 0) (N := some 20) (v := ?_) (a' := ?_) #[true, false, false, false, false, false, false, false, false, false, false, false, false, false, false, false, false, false, false, false, false, false, false, false] rfl rfl (take_ofW HT_.out HW_.out (by kernel_rfl)) (fun _ _ _ h => h) (Or.inl ⟨by rfl, ?_⟩) hHeld ?_ ?_
                rotate_left
                · rintro w' ⟨s0, s1, s2, s3, s4, s5⟩
                  go_simp
                  with_reducible rfl
                rotate_left
                · simp only [Act.put, List.setIfInBounds_toArray, List.set_cons_zero, List.set_cons_succ, i64_w, i32_w]
                  rfl
                refine take_ (i := 2) (N := some 22) (v := ?_) (a' := ?_) #[true, false, true, false, false, false, false, false, false, false, false, false, false, false, false, false, false, false, false, false, false, false, false, false] rfl rfl (take_ofW HT_.out HW_.out (by kernel_rfl)) (fun _ _ _ h => h) (Or.inl ⟨by rfl, ?_⟩) hHeld ?_ ?_
                rotate_left
                · rintro w' ⟨s0, s1, s2, s3, s4, s5⟩
                  go_simp
                  with_reducible rfl
                rotate_left
                · simp only [Act.put, List.setIfInBounds_toArray, List.set_cons_zero, List.set_cons_succ, i64_w, i32_w]
                  rfl
                refine one_ (i := 1) (N := some 21) #[true, true, true, false, false, false, false, false, false, false, false, false, false, false, false, false, false, false, false, false, false, false, false, false] rfl rfl (one_of HT_.out (by kernel_rfl)) (by decide) (fun K hK => ?_)
                refine goes_ Try.func11 (by kernel_rfl) rfl #[.agg #[.int .i64 a0_0, .int .i64 a0_1, .slice A0_2 l0_2.length c0_2, .int .i64 a0_3, .bool a0_4, .bool a0_5]] (by rfl) rfl rfl (by (try simp only [List.map_toArray, List.map_cons, List.map_nil]); first | done | rfl | (simp only [List.length_drop, List.length_take]; rfl)) ?_
                with_reducible refine (field_Formatted.calls a0_0 a0_1 _ _ l0_2 a0_3 a0_4 a0_5 t182 _ ?side1 ?side2 A8.out).mono ?_
                (case side1 => repeat (first | exact (Kd.C_below HR0_2.out HB.out) | (with_reducible refine Kd.C_alloc ?_ _) | (with_reducible refine Kd.C_drewN ?_ _) | (with_reducible refine Kd.C_drew ?_)))
                (case side2 => exact HC0_2.out)
                rintro e w29 ⟨rfl, hb⟩
                refine ⟨_, rfl, ?_⟩
                have n0_ := Aside0.mk (blk_below (g := gb178) (o := .cells #[.int .i64 a0_0, .int .i64 a0_1, .slice A0_2 l0_2.length c0_2, .int .i64 a0_3, .bool a0_4, .bool a0_5] 24 (0, 0)) (by (with_reducible repeat (first | refine blk_drewN ?_ _ | refine blk_drew ?_ | refine blk_alloc ?_ _)); exact BK178.out) hb)
                have n1_ := Aside0.mk (below_step (by repeat (first | (with_reducible first | exact HB.out | apply below_alloc | apply pw_below_drewN | apply below_drew1 | refine below_set ?_ GE178.out) | exact HB.out)) hb)
                clear BK178
                clear HB
                have BK178 := n0_
                have HB := n1_
                clear n0_ n1_
                (try clear hb)
                (try clear hb2)
                (try clear hk)
                (try clear hi)
                refine hK.out _ _ ⟨(blk_cell BK178.out 0).trans rfl, (blk_cell BK178.out 1).trans rfl, (blk_cell BK178.out 2).trans rfl, (blk_cell BK178.out 3).trans rfl, (blk_cell BK178.out 4).trans rfl, (blk_cell BK178.out 5).trans rfl⟩ (fun hHeld => ?_)
                clear hK K
                refine norm_ (a' := ?_) ?_ ?_
                rotate_left
                · show Act.put _ (some 21) _ = _
                  simp only [Act.put, List.setIfInBounds_toArray, List.set_cons_zero, List.set_cons_succ, i64_w, i32_w]
                  rfl
                refine one_ (i := 3) (N := some 23) #[true, true, true, true, false, false, false, false, false, false, false, false, false, false, false, false, false, false, false, false, false, false, false, false] rfl rfl (one_of HT_.out (by kernel_rfl)) (by decide) (fun K hK => ?_)
                refine goes_ Try.func12 (by kernel_rfl) rfl #[.agg #[.int .i64 a0_0, .int .i64 a0_1, .slice A0_2 l0_2.length c0_2, .int .i64 a0_3, .bool a0_4, .bool a0_5]] (by rfl) rfl rfl (by (try simp only [List.map_toArray, List.map_cons, List.map_nil]); first | done | rfl | (simp only [List.length_drop, List.length_take]; rfl)) ?_
                with_reducible refine (shutterref11_Formatted.calls k a0_0 a0_1 _ _ l0_2 a0_3 a0_4 a0_5 t183 _ ?side1 ?side2 A9.out).mono ?_
                (case side1 => repeat (first | exact (Kd.C_below HR0_2.out HB.out) | (with_reducible refine Kd.C_alloc ?_ _) | (with_reducible refine Kd.C_drewN ?_ _) | (with_reducible refine Kd.C_drew ?_)))
                (case side2 => exact HC0_2.out)
                rintro e w30 ⟨rfl, hb⟩
                refine ⟨_, rfl, ?_⟩
                have n0_ := Aside0.mk (blk_below (g := gb178) (o := .cells #[.int .i64 a0_0, .int .i64 a0_1, .slice A0_2 l0_2.length c0_2, .int .i64 a0_3, .bool a0_4, .bool a0_5] 24 (0, 0)) (by (with_reducible repeat (first | refine blk_drewN ?_ _ | refine blk_drew ?_ | refine blk_alloc ?_ _)); exact BK178.out) hb)
                have n1_ := Aside0.mk (below_step (by repeat (first | (with_reducible first | exact HB.out | apply below_alloc | apply pw_below_drewN | apply below_drew1 | refine below_set ?_ GE178.out) | exact HB.out)) hb)
                clear BK178
                clear HB
                have BK178 := n0_
                have HB := n1_
                clear n0_ n1_
                (try clear hb)
                (try clear hb2)
                (try clear hk)
                (try clear hi)
                refine hK.out _ _ ⟨(blk_cell BK178.out 0).trans rfl, (blk_cell BK178.out 1).trans rfl, (blk_cell BK178.out 2).trans rfl, (blk_cell BK178.out 3).trans rfl, (blk_cell BK178.out 4).trans rfl, (blk_cell BK178.out 5).trans rfl⟩ (fun hHeld => ?_)
                clear hK K
                refine norm_ (a' := ?_) ?_ ?_
                rotate_left
                · show Act.put _ (some 23) _ = _
                  simp only [Act.put, List.setIfInBounds_toArray, List.set_cons_zero, List.set_cons_succ, i64_w, i32_w]
                  rfl
                refine pure_ (i := 4) (N := some 24) (v := ?_) (a' := ?_) #[true, true, true, true, true, false, false, false, false, false, false, false, false, false, false, false, false, false, false, false, false, false, false, false] rfl rfl (any_of HT_.out (by kernel_rfl)) (fun _ _ _ h => h) (Or.inl ⟨by rfl, ?_⟩) ?_ ?_
                rotate_left
                · intro w'
                  go_simp
                  with_reducible rfl
                rotate_left
                · simp only [Act.put, List.setIfInBounds_toArray, List.set_cons_zero, List.set_cons_succ, i64_w, i32_w]
                  rfl
                refine pure_ (i := 5) (N := some 25) (v := ?_) (a' := ?_) #[true, true, true, true, true, true, false, false, false, false, false, false, false, false, false, false, false, false, false, false, false, false, false, false] rfl rfl (any_of HT_.out (by kernel_rfl)) (fun _ _ _ h => h) (Or.inl ⟨by rfl, ?_⟩) ?_ ?_
                rotate_left
                · intro w'
                  go_simp
                  with_reducible rfl
                rotate_left
                · simp only [Act.put, List.setIfInBounds_toArray, List.set_cons_zero, List.set_cons_succ, i64_w, i32_w]
                  rfl
                refine pure_ (i := 7) (N := some 27) (v := ?_) (a' := ?_) #[true, true, true, true, true, true, false, true, false, false, false, false, false, false, false, false, false, false, false, false, false, false, false, false] rfl rfl (any_of HT_.out (by kernel_rfl)) (fun _ _ _ h => h) (Or.inl ⟨by rfl, ?_⟩) ?_ ?_
                rotate_left
                · intro w'
                  go_simp
                  with_reducible rfl
                rotate_left
                · simp only [Act.put, List.setIfInBounds_toArray, List.set_cons_zero, List.set_cons_succ, i64_w, i32_w]
                  rfl
                refine pure_ (i := 10) (N := some 30) (v := ?_) (a' := ?_) #[true, true, true, true, true, true, false, true, false, false, true, false, false, false, false, false, false, false, false, false, false, false, false, false] rfl rfl (any_of HT_.out (by kernel_rfl)) (fun _ _ _ h => h) (Or.inl ⟨by rfl, ?_⟩) ?_ ?_
                rotate_left
                · intro w'
                  go_simp
                  with_reducible rfl
                rotate_left
                · simp only [Act.put, List.setIfInBounds_toArray, List.set_cons_zero, List.set_cons_succ, i64_w, i32_w]
                  rfl
                refine take_ (i := 6) (N := some 26) (v := ?_) (a' := ?_) #[true, true, true, true, true, true, true, true, false, false, true, false, false, false, false, false, false, false, false, false, false, false, false, false] rfl rfl (take_ofW HT_.out HW_.out (by kernel_rfl)) (fun _ _ _ h => h) (Or.inl ⟨by rfl, ?_⟩) hHeld ?_ ?_
                rotate_left
                · rintro w' ⟨s0, s1, s2, s3, s4, s5⟩
                  go_simp
                  with_reducible rfl
                rotate_left
                · simp only [Act.put, List.setIfInBounds_toArray, List.set_cons_zero, List.set_cons_succ, i64_w, i32_w]
                  rfl
                refine take_ (i := 9) (N := some 29) (v := ?_) (a' := ?_) #[true, true, true, true, true, true, true, true, false, true, true, false, false, false, false, false, false, false, false, false, false, false, false, false] rfl rfl (take_ofW HT_.out HW_.out (by kernel_rfl)) (fun _ _ _ h => h) (Or.inl ⟨by rfl, ?_⟩) hHeld ?_ ?_
                rotate_left
                · rintro w' ⟨s0, s1, s2, s3, s4, s5⟩
                  go_simp
                  with_reducible rfl
                rotate_left
                · simp only [Act.put, List.setIfInBounds_toArray, List.set_cons_zero, List.set_cons_succ, i64_w, i32_w]
                  rfl
                refine one_ (i := 8) (N := some 28) #[true, true, true, true, true, true, true, true, true, true, true, false, false, false, false, false, false, false, false, false, false, false, false, false] rfl rfl (one_of HT_.out (by kernel_rfl)) (by decide) (fun K hK => ?_)
                refine goes_ Try.func13 (by kernel_rfl) rfl #[.agg #[.int .i64 a0_0, .int .i64 a0_1, .slice A0_2 l0_2.length c0_2, .int .i64 a0_3, .bool a0_4, .bool a0_5], .int .i64 (Int.tmod (wrap64 (a1)) (l0_2.length : Int))] (by rfl) rfl rfl (by (try simp only [List.map_toArray, List.map_cons, List.map_nil]); first | done | rfl | (simp only [List.length_drop, List.length_take]; rfl)) ?_
                with_reducible refine (field_Begin.calls a0_0 a0_1 _ _ l0_2 a0_3 a0_4 a0_5 (Int.tmod (wrap64 (a1)) (l0_2.length : Int)) t184 _ ?side1 ?side2 A11.out).mono ?_
                (case side1 => repeat (first | exact (Kd.C_below HR0_2.out HB.out) | (with_reducible refine Kd.C_alloc ?_ _) | (with_reducible refine Kd.C_drewN ?_ _) | (with_reducible refine Kd.C_drew ?_)))
                (case side2 => exact HC0_2.out)
                rintro e w31 ⟨rfl, hb⟩
                refine ⟨_, rfl, ?_⟩
                have n0_ := Aside0.mk (blk_below (g := gb178) (o := .cells #[.int .i64 a0_0, .int .i64 a0_1, .slice A0_2 l0_2.length c0_2, .int .i64 a0_3, .bool a0_4, .bool a0_5] 24 (0, 0)) (by (with_reducible repeat (first | refine blk_drewN ?_ _ | refine blk_drew ?_ | refine blk_alloc ?_ _)); exact BK178.out) hb)
                have n1_ := Aside0.mk (below_step (by repeat (first | (with_reducible first | exact HB.out | apply below_alloc | apply pw_below_drewN | apply below_drew1 | refine below_set ?_ GE178.out) | exact HB.out)) hb)
                clear BK178
                clear HB
                have BK178 := n0_
                have HB := n1_
                clear n0_ n1_
                (try clear hb)
                (try clear hb2)
                (try clear hk)
                (try clear hi)
                refine hK.out _ _ ⟨(blk_cell BK178.out 0).trans rfl, (blk_cell BK178.out 1).trans rfl, (blk_cell BK178.out 2).trans rfl, (blk_cell BK178.out 3).trans rfl, (blk_cell BK178.out 4).trans rfl, (blk_cell BK178.out 5).trans rfl⟩ (fun hHeld => ?_)
                clear hK K
                refine norm_ (a' := ?_) ?_ ?_
                rotate_left
                · show Act.put _ (some 28) _ = _
                  simp only [Act.put, List.setIfInBounds_toArray, List.set_cons_zero, List.set_cons_succ, i64_w, i32_w]
                  rfl
                refine one_ (i := 11) (N := some 31) #[true, true, true, true, true, true, true, true, true, true, true, true, false, false, false, false, false, false, false, false, false, false, false, false] rfl rfl (one_of HT_.out (by kernel_rfl)) (by decide) (fun K hK => ?_)
                refine goes_ Try.func14 (by kernel_rfl) rfl #[.agg #[.int .i64 a0_0, .int .i64 a0_1, .slice A0_2 l0_2.length c0_2, .int .i64 a0_3, .bool a0_4, .bool a0_5], .int .i64 (Int.tmod (wrap64 (a1)) (l0_2.length : Int))] (by rfl) rfl rfl (by (try simp only [List.map_toArray, List.map_cons, List.map_nil]); first | done | rfl | (simp only [List.length_drop, List.length_take]; rfl)) ?_
                with_reducible refine (shutterref11_Begin.calls k a0_0 a0_1 _ _ l0_2 a0_3 a0_4 a0_5 (Int.tmod (wrap64 (a1)) (l0_2.length : Int)) t185 _ ?side1 ?side2 A12.out).mono ?_
                (case side1 => repeat (first | exact (Kd.C_below HR0_2.out HB.out) | (with_reducible refine Kd.C_alloc ?_ _) | (with_reducible refine Kd.C_drewN ?_ _) | (with_reducible refine Kd.C_drew ?_)))
                (case side2 => exact HC0_2.out)
                rintro e w32 ⟨rfl, hb⟩
                refine ⟨_, rfl, ?_⟩
                have n0_ := Aside0.mk (blk_below (g := gb178) (o := .cells #[.int .i64 a0_0, .int .i64 a0_1, .slice A0_2 l0_2.length c0_2, .int .i64 a0_3, .bool a0_4, .bool a0_5] 24 (0, 0)) (by (with_reducible repeat (first | refine blk_drewN ?_ _ | refine blk_drew ?_ | refine blk_alloc ?_ _)); exact BK178.out) hb)
                have n1_ := Aside0.mk (below_step (by repeat (first | (with_reducible first | exact HB.out | apply below_alloc | apply pw_below_drewN | apply below_drew1 | refine below_set ?_ GE178.out) | exact HB.out)) hb)
                clear BK178
                clear HB
                have BK178 := n0_
                have HB := n1_
                clear n0_ n1_
                (try clear hb)
                (try clear hb2)
                (try clear hk)
                (try clear hi)
                refine hK.out _ _ ⟨(blk_cell BK178.out 0).trans rfl, (blk_cell BK178.out 1).trans rfl, (blk_cell BK178.out 2).trans rfl, (blk_cell BK178.out 3).trans rfl, (blk_cell BK178.out 4).trans rfl, (blk_cell BK178.out 5).trans rfl⟩ (fun hHeld => ?_)
                clear hK K
                refine norm_ (a' := ?_) ?_ ?_
                rotate_left
                · show Act.put _ (some 31) _ = _
                  simp only [Act.put, List.setIfInBounds_toArray, List.set_cons_zero, List.set_cons_succ, i64_w, i32_w]
                  rfl
                refine pure_ (i := 12) (N := some 32) (v := ?_) (a' := ?_) #[true, true, true, true, true, true, true, true, true, true, true, true, true, false, false, false, false, false, false, false, false, false, false, false] rfl rfl (any_of HT_.out (by kernel_rfl)) (fun _ _ _ h => h) (Or.inl ⟨by rfl, ?_⟩) ?_ ?_
                rotate_left
                · intro w'
                  go_simp
                  with_reducible rfl
                rotate_left
                · simp only [Act.put, List.setIfInBounds_toArray, List.set_cons_zero, List.set_cons_succ, i64_w, i32_w]
                  rfl
                refine pure_ (i := 13) (N := some 33) (v := ?_) (a' := ?_) #[true, true, true, true, true, true, true, true, true, true, true, true, true, true, false, false, false, false, false, false, false, false, false, false] rfl rfl (any_of HT_.out (by kernel_rfl)) (fun _ _ _ h => h) (Or.inl ⟨by rfl, ?_⟩) ?_ ?_
                rotate_left
                · intro w'
                  go_simp
                  with_reducible rfl
                rotate_left
                · simp only [Act.put, List.setIfInBounds_toArray, List.set_cons_zero, List.set_cons_succ, i64_w, i32_w]
                  rfl
                refine pure_ (i := 14) (N := some 34) (v := ?_) (a' := ?_) #[true, true, true, true, true, true, true, true, true, true, true, true, true, true, true, false, false, false, false, false, false, false, false, false] rfl rfl (any_of HT_.out (by kernel_rfl)) (fun _ _ _ h => h) (Or.inl ⟨by rfl, ?_⟩) ?_ ?_
                rotate_left
                · intro w'
                  go_simp
                  with_reducible rfl
                rotate_left
                · simp only [Act.put, List.setIfInBounds_toArray, List.set_cons_zero, List.set_cons_succ, i64_w, i32_w]
                  rfl
                refine pure_ (i := 16) (N := some 36) (v := ?_) (a' := ?_) #[true, true, true, true, true, true, true, true, true, true, true, true, true, true, true, false, true, false, false, false, false, false, false, false] rfl rfl (any_of HT_.out (by kernel_rfl)) (fun _ _ _ h => h) (Or.inl ⟨by rfl, ?_⟩) ?_ ?_
                rotate_left
                · intro w'
                  go_simp
                  with_reducible rfl
                rotate_left
                · simp only [Act.put, List.setIfInBounds_toArray, List.set_cons_zero, List.set_cons_succ, i64_w, i32_w]
                  rfl
                refine pure_ (i := 19) (N := some 39) (v := ?_) (a' := ?_) #[true, true, true, true, true, true, true, true, true, true, true, true, true, true, true, false, true, false, false, true, false, false, false, false] rfl rfl (any_of HT_.out (by kernel_rfl)) (fun _ _ _ h => h) (Or.inl ⟨by rfl, ?_⟩) ?_ ?_
                rotate_left
                · intro w'
                  go_simp
                  with_reducible rfl
                rotate_left
                · simp only [Act.put, List.setIfInBounds_toArray, List.set_cons_zero, List.set_cons_succ, i64_w, i32_w]
                  rfl
                refine take_ (i := 15) (N := some 35) (v := ?_) (a' := ?_) #[true, true, true, true, true, true, true, true, true, true, true, true, true, true, true, true, true, false, false, true, false, false, false, false] rfl rfl (take_ofW HT_.out HW_.out (by kernel_rfl)) (fun _ _ _ h => h) (Or.inl ⟨by rfl, ?_⟩) hHeld ?_ ?_
                rotate_left
                · rintro w' ⟨s0, s1, s2, s3, s4, s5⟩
                  go_simp
                  with_reducible rfl
                rotate_left
                · simp only [Act.put, List.setIfInBounds_toArray, List.set_cons_zero, List.set_cons_succ, i64_w, i32_w]
                  rfl
                refine take_ (i := 18) (N := some 38) (v := ?_) (a' := ?_) #[true, true, true, true, true, true, true, true, true, true, true, true, true, true, true, true, true, false, true, true, false, false, false, false] rfl rfl (take_ofW HT_.out HW_.out (by kernel_rfl)) (fun _ _ _ h => h) (Or.inl ⟨by rfl, ?_⟩) hHeld ?_ ?_
                rotate_left
                · rintro w' ⟨s0, s1, s2, s3, s4, s5⟩
                  go_simp
                  with_reducible rfl
                rotate_left
                · simp only [Act.put, List.setIfInBounds_toArray, List.set_cons_zero, List.set_cons_succ, i64_w, i32_w]
                  rfl
                refine one_ (i := 17) (N := some 37) #[true, true, true, true, true, true, true, true, true, true, true, true, true, true, true, true, true, true, true, true, false, false, false, false] rfl rfl (one_of HT_.out (by kernel_rfl)) (by decide) (fun K hK => ?_)
                refine goes_ Try.func16 (by kernel_rfl) rfl #[.agg #[.int .i64 a0_0, .int .i64 a0_1, .slice A0_2 l0_2.length c0_2, .int .i64 a0_3, .bool a0_4, .bool a0_5], .int .i64 (Int.tmod (wrap64 (a1)) (l0_2.length : Int))] (by rfl) rfl rfl (by (try simp only [List.map_toArray, List.map_cons, List.map_nil]); first | done | rfl | (simp only [List.length_drop, List.length_take]; rfl)) ?_
                with_reducible refine (field_Cells.calls a0_0 a0_1 _ _ l0_2 a0_3 a0_4 a0_5 (Int.tmod (wrap64 (a1)) (l0_2.length : Int)) t186 _ ?side1 ?side2 A14.out).mono ?_
                (case side1 => repeat (first | exact (Kd.C_below HR0_2.out HB.out) | (with_reducible refine Kd.C_alloc ?_ _) | (with_reducible refine Kd.C_drewN ?_ _) | (with_reducible refine Kd.C_drew ?_)))
                (case side2 => exact HC0_2.out)
                rintro e w33 ⟨v187, rfl, ho0, hb⟩
                refine ⟨_, rfl, ?_⟩
                have n0_ := Aside0.mk (Kd.R_lower ho0 (below_size (by repeat (first | (with_reducible first | exact HB.out | apply below_alloc | apply pw_below_drewN | apply below_drew1 | refine below_set ?_ GE178.out) | exact HB.out))))
                have n1_ := Aside0.mk (blk_below (g := gb178) (o := .cells #[.int .i64 a0_0, .int .i64 a0_1, .slice A0_2 l0_2.length c0_2, .int .i64 a0_3, .bool a0_4, .bool a0_5] 24 (0, 0)) (by (with_reducible repeat (first | refine blk_drewN ?_ _ | refine blk_drew ?_ | refine blk_alloc ?_ _)); exact BK178.out) hb)
                have n2_ := Aside0.mk (below_step (by repeat (first | (with_reducible first | exact HB.out | apply below_alloc | apply pw_below_drewN | apply below_drew1 | refine below_set ?_ GE178.out) | exact HB.out)) hb)
                clear BK178
                clear HB
                have HO188 := n0_
                have BK178 := n1_
                have HB := n2_
                clear n0_ n1_ n2_
                (try clear hb)
                (try clear hb2)
                (try clear hk)
                (try clear hi)
                (try clear ho0)
                refine hK.out _ _ ⟨(blk_cell BK178.out 0).trans rfl, (blk_cell BK178.out 1).trans rfl, (blk_cell BK178.out 2).trans rfl, (blk_cell BK178.out 3).trans rfl, (blk_cell BK178.out 4).trans rfl, (blk_cell BK178.out 5).trans rfl⟩ (fun hHeld => ?_)
                clear hK K
                refine norm_ (a' := ?_) ?_ ?_
                rotate_left
                · show Act.put _ (some 37) _ = _
                  simp only [Act.put, List.setIfInBounds_toArray, List.set_cons_zero, List.set_cons_succ, i64_w, i32_w]
                  rfl
                refine one_ (i := 20) (N := some 40) #[true, true, true, true, true, true, true, true, true, true, true, true, true, true, true, true, true, true, true, true, true, false, false, false] rfl rfl (one_of HT_.out (by kernel_rfl)) (by decide) (fun K hK => ?_)
                refine goes_ Try.func17 (by kernel_rfl) rfl #[.agg #[.int .i64 a0_0, .int .i64 a0_1, .slice A0_2 l0_2.length c0_2, .int .i64 a0_3, .bool a0_4, .bool a0_5], .int .i64 (Int.tmod (wrap64 (a1)) (l0_2.length : Int))] (by rfl) rfl rfl (by (try simp only [List.map_toArray, List.map_cons, List.map_nil]); first | done | rfl | (simp only [List.length_drop, List.length_take]; rfl)) ?_
                with_reducible refine (shutterref11_Cells.calls k a0_0 a0_1 _ _ l0_2 a0_3 a0_4 a0_5 (Int.tmod (wrap64 (a1)) (l0_2.length : Int)) t189 _ ?side1 ?side2 A15.out).mono ?_
                (case side1 => repeat (first | exact (Kd.C_below HR0_2.out HB.out) | (with_reducible refine Kd.C_alloc ?_ _) | (with_reducible refine Kd.C_drewN ?_ _) | (with_reducible refine Kd.C_drew ?_)))
                (case side2 => exact HC0_2.out)
                rintro e w34 ⟨v190, rfl, ho0, hb⟩
                refine ⟨_, rfl, ?_⟩
                have n0_ := Aside0.mk (Kd.R_elder' (by (with_reducible repeat (first | apply Kd.R_alloc | apply Kd.R_drewN | apply Kd.R_drew)); exact HO188.out) (Kd.R_base ho0) hb)
                have n1_ := Aside0.mk (Kd.R_lower (Kd.R_new' ho0 (Kd.R_lt (by (with_reducible repeat (first | apply Kd.R_alloc | apply Kd.R_drewN | apply Kd.R_drew)); exact HO188.out))) (below_size (by repeat (first | (with_reducible first | exact HB.out | apply below_alloc | apply pw_below_drewN | apply below_drew1 | refine below_set ?_ GE178.out) | exact HB.out))))
                have n2_ := Aside0.mk (blk_below (g := gb178) (o := .cells #[.int .i64 a0_0, .int .i64 a0_1, .slice A0_2 l0_2.length c0_2, .int .i64 a0_3, .bool a0_4, .bool a0_5] 24 (0, 0)) (by (with_reducible repeat (first | refine blk_drewN ?_ _ | refine blk_drew ?_ | refine blk_alloc ?_ _)); exact BK178.out) hb)
                have n3_ := Aside0.mk (below_step (by repeat (first | (with_reducible first | exact HB.out | apply below_alloc | apply pw_below_drewN | apply below_drew1 | refine below_set ?_ GE178.out) | exact HB.out)) hb)
                clear HO188
                clear BK178
                clear HB
                have HO188 := n0_
                have HO191 := n1_
                have BK178 := n2_
                have HB := n3_
                clear n0_ n1_ n2_ n3_
                (try clear hb)
                (try clear hb2)
                (try clear hk)
                (try clear hi)
                (try clear ho0)
                obtain ⟨Ao35, co35, eo35⟩ := Kd.R_slice HO188.out
                (first | subst eo35 | (injection eo35 with f1_ f2_ f3_; have f4_ := f1_.symm; have f5_ := f3_.symm; clear f1_ f2_ f3_; subst f4_; subst f5_))
                obtain ⟨Ao36, co36, eo36⟩ := Kd.R_slice HO191.out
                (first | subst eo36 | (injection eo36 with f1_ f2_ f3_; have f4_ := f1_.symm; have f5_ := f3_.symm; clear f1_ f2_ f3_; subst f4_; subst f5_))
                refine hK.out _ _ ⟨(blk_cell BK178.out 0).trans rfl, (blk_cell BK178.out 1).trans rfl, (blk_cell BK178.out 2).trans rfl, (blk_cell BK178.out 3).trans rfl, (blk_cell BK178.out 4).trans rfl, (blk_cell BK178.out 5).trans rfl⟩ (fun hHeld => ?_)
                clear hK K
                refine norm_ (a' := ?_) ?_ ?_
                rotate_left
                · show Act.put _ (some 40) _ = _
                  simp only [Act.put, List.setIfInBounds_toArray, List.set_cons_zero, List.set_cons_succ, i64_w, i32_w]
                  rfl
                refine one_ (i := 21) (N := some 41) #[true, true, true, true, true, true, true, true, true, true, true, true, true, true, true, true, true, true, true, true, true, true, false, false] rfl rfl (one_of HT_.out (by kernel_rfl)) (by decide) (fun K hK => ?_)
                refine goes_ Try.func15 (by kernel_rfl) rfl #[.slice Ao35 t186.length co35, .slice Ao36 t189.length co36] (by rfl) rfl rfl (by (try simp only [List.map_toArray, List.map_cons, List.map_nil]); first | done | rfl | (simp only [List.length_drop, List.length_take]; rfl)) ?_
                with_reducible refine (shutterref10_Ints.calls k _ _ t186 _ _ t189 true _ ?side1 ?side2 ?side3 ?side4 A16.out).mono ?_
                (case side1 => repeat (first | exact (Kd.R_reads' HO188.out).2.2 | (with_reducible refine Kd.C_alloc ?_ _) | (with_reducible refine Kd.C_drewN ?_ _) | (with_reducible refine Kd.C_drew ?_)))
                (case side2 => exact (Kd.R_reads' HO188.out).2.1)
                (case side3 => repeat (first | exact (Kd.R_reads' HO191.out).2.2 | (with_reducible refine Kd.C_alloc ?_ _) | (with_reducible refine Kd.C_drewN ?_ _) | (with_reducible refine Kd.C_drew ?_)))
                (case side4 => exact (Kd.R_reads' HO191.out).2.1)
                rintro e w' ⟨rfl, ⟨nd, rfl⟩⟩
                refine ⟨_, rfl, ?_⟩
                refine hK.out _ _ ⟨(blk_cell BK178.out 0).trans rfl, (blk_cell BK178.out 1).trans rfl, (blk_cell BK178.out 2).trans rfl, (blk_cell BK178.out 3).trans rfl, (blk_cell BK178.out 4).trans rfl, (blk_cell BK178.out 5).trans rfl⟩ (fun hHeld => ?_)
                clear hK K
                refine norm_ (a' := ?_) ?_ ?_
                rotate_left
                · show Act.put _ (some 41) _ = _
                  simp only [Act.put, List.setIfInBounds_toArray, List.set_cons_zero, List.set_cons_succ, i64_w, i32_w]
                  rfl
                refine pure_ (i := 22) (N := some 42) (v := ?_) (a' := ?_) #[true, true, true, true, true, true, true, true, true, true, true, true, true, true, true, true, true, true, true, true, true, true, true, false] rfl rfl (any_of HT_.out (by kernel_rfl)) (fun _ _ _ h => h) (Or.inl ⟨by rfl, ?_⟩) ?_ ?_
                rotate_left
                · intro w'
                  go_simp
                  with_reducible rfl
                rotate_left
                · simp only [Act.put, List.setIfInBounds_toArray, List.set_cons_zero, List.set_cons_succ, i64_w, i32_w]
                  rfl
                refine pure_ (i := 23) (N := some 43) (v := ?_) (a' := ?_) #[true, true, true, true, true, true, true, true, true, true, true, true, true, true, true, true, true, true, true, true, true, true, true, true] rfl rfl (any_of HT_.out (by kernel_rfl)) (fun _ _ _ h => h) (Or.inl ⟨by rfl, ?_⟩) ?_ ?_
                rotate_left
                · intro w'
                  go_simp
                  with_reducible rfl
                rotate_left
                · simp only [Act.put, List.setIfInBounds_toArray, List.set_cons_zero, List.set_cons_succ, i64_w, i32_w]
                  rfl
                refine done_ (done_of HT_.out (by kernel_rfl)) ?_
                try go_wp2
                (try (rw [drewN_self w34]; generalize hq_ : World.drewN w34 _ = w34; have n0_ : Aside0 (Kd.R (Kd.int .i64) 3 w34 w.heap.size (fun k_ => some k_ ≠ (.slice Ao36 t189.length co36 : Value).ownBlock) (.slice Ao35 t186.length co35) t186) := ⟨by rw [← hq_]; exact (by (with_reducible repeat (first | apply Kd.R_alloc | apply Kd.R_drewN | apply Kd.R_drew)); exact Kd.R_mono HO188.out (fun _ hk => hk.2))⟩; have n1_ : Aside0 (Kd.R (Kd.int .i64) 3 w34 w.heap.size (fun k_ => some k_ ≠ (.slice Ao35 t186.length co35 : Value).ownBlock) (.slice Ao36 t189.length co36) t189) := ⟨by rw [← hq_]; exact (by (with_reducible repeat (first | apply Kd.R_alloc | apply Kd.R_drewN | apply Kd.R_drew)); exact Kd.R_mono HO191.out (fun _ hk => hk.2))⟩; have n2_ : Aside0 (w34.heap[gb178]? = some (.cells #[.int .i64 a0_0, .int .i64 a0_1, .slice A0_2 l0_2.length c0_2, .int .i64 a0_3, .bool a0_4, .bool a0_5] 24 (0, 0))) := ⟨by rw [← hq_]; exact (by (with_reducible repeat (first | refine blk_drewN ?_ _ | refine blk_drew ?_ | refine blk_alloc ?_ _)); exact BK178.out)⟩; have n3_ : Aside0 (Below w.heap.size w w34) := ⟨by rw [← hq_]; exact (by repeat (first | (with_reducible first | exact HB.out | apply below_alloc | apply pw_below_drewN | apply below_drew1 | refine below_set ?_ GE178.out) | exact HB.out))⟩; clear HO188 HO191 BK178 HB hq_; have HO188 := n0_; have HO191 := n1_; have BK178 := n2_; have HB := n3_; clear n0_ n1_ n2_ n3_))
                have n0_ := Aside0.mk (Kd.R_drew HO188.out)
                have n1_ := Aside0.mk (Kd.R_drew HO191.out)
                have n2_ := Aside0.mk (blk_drew BK178.out)
                have n3_ := Aside0.mk (below_drew1 HB.out)
                clear HO188
                clear HO191
                clear BK178
                clear HB
                have HO188 := n0_
                have HO191 := n1_
                have BK178 := n2_
                have HB := n3_
                clear n0_ n1_ n2_ n3_
                refine start_ (n := 17) (S := fun w' => w'.cell? ⟨gb178, 0, none⟩ = some (.int .i64 a0_0) ∧ w'.cell? ⟨gb178, 1, none⟩ = some (.int .i64 a0_1) ∧ w'.cell? ⟨gb178, 2, none⟩ = some (.slice A0_2 l0_2.length c0_2) ∧ w'.cell? ⟨gb178, 3, none⟩ = some (.int .i64 a0_3) ∧ w'.cell? ⟨gb178, 4, none⟩ = some (.bool a0_4) ∧ w'.cell? ⟨gb178, 5, none⟩ = some (.bool a0_5)) (ds := []) #[false, false, false, false, false, false, false, false, false, false, false, false, false, false, false, false, false] (by kernel_rfl) rfl rfl ⟨(blk_cell BK178.out 0).trans rfl, (blk_cell BK178.out 1).trans rfl, (blk_cell BK178.out 2).trans rfl, (blk_cell BK178.out 3).trans rfl, (blk_cell BK178.out 4).trans rfl, (blk_cell BK178.out 5).trans rfl⟩ (fun hHeld => ?_); refine with_tabW shutterlaw11_FieldAsks.tab6 shutterlaw11_FieldAsks.bits6 (fun HT_ HW_ => ?_)
                generalize w34.drew = w37 at HO188 HO191 BK178 HB hHeld ⊢
                refine pure_ (i := 1) (N := some 45) (v := ?_) (a' := ?_) #[false, true, false, false, false, false, false, false, false, false, false, false, false, false, false, false, false] rfl rfl (any_of HT_.out (by kernel_rfl)) (fun _ _ _ h => h) (Or.inl ⟨by rfl, ?_⟩) ?_ ?_
                rotate_left
                · intro w'
                  go_simp
                  with_reducible rfl
                rotate_left
                · simp only [Act.put, List.setIfInBounds_toArray, List.set_cons_zero, List.set_cons_succ, i64_w, i32_w]
                  rfl
                refine pure_ (i := 4) (N := some 48) (v := ?_) (a' := ?_) #[false, true, false, false, true, false, false, false, false, false, false, false, false, false, false, false, false] rfl rfl (any_of HT_.out (by kernel_rfl)) (fun _ _ _ h => h) (Or.inl ⟨by rfl, ?_⟩) ?_ ?_
                rotate_left
                · intro w'
                  go_simp
                  with_reducible rfl
                rotate_left
                · simp only [Act.put, List.setIfInBounds_toArray, List.set_cons_zero, List.set_cons_succ, i64_w, i32_w]
                  rfl
                refine take_ (i := 0) (N := some 44) (v := ?_) (a' := ?_) #[true, true, false, false, true, false, false, false, false, false, false, false, false, false, false, false, false] rfl rfl (take_ofW HT_.out HW_.out (by kernel_rfl)) (fun _ _ _ h => h) (Or.inl ⟨by rfl, ?_⟩) hHeld ?_ ?_
                rotate_left
                · rintro w' ⟨s0, s1, s2, s3, s4, s5⟩
                  go_simp
                  with_reducible rfl
                rotate_left
                · simp only [Act.put, List.setIfInBounds_toArray, List.set_cons_zero, List.set_cons_succ, i64_w, i32_w]
                  rfl
                refine take_ (i := 3) (N := some 47) (v := ?_) (a' := ?_) #[true, true, false, true, true, false, false, false, false, false, false, false, false, false, false, false, false] rfl rfl (take_ofW HT_.out HW_.out (by kernel_rfl)) (fun _ _ _ h => h) (Or.inl ⟨by rfl, ?_⟩) hHeld ?_ ?_
                rotate_left
                · rintro w' ⟨s0, s1, s2, s3, s4, s5⟩
                  go_simp
                  with_reducible rfl
                rotate_left
                · simp only [Act.put, List.setIfInBounds_toArray, List.set_cons_zero, List.set_cons_succ, i64_w, i32_w]
                  rfl
                refine one_ (i := 2) (N := some 46) #[true, true, true, true, true, false, false, false, false, false, false, false, false, false, false, false, false] rfl rfl (one_of HT_.out (by kernel_rfl)) (by decide) (fun K hK => ?_)
                refine goes_ Try.func18 (by kernel_rfl) rfl #[.agg #[.int .i64 a0_0, .int .i64 a0_1, .slice A0_2 l0_2.length c0_2, .int .i64 a0_3, .bool a0_4, .bool a0_5], .int .i64 (Int.tmod (wrap64 (a1)) (l0_2.length : Int))] (by rfl) rfl rfl (by (try simp only [List.map_toArray, List.map_cons, List.map_nil]); first | done | rfl | (simp only [List.length_drop, List.length_take]; rfl)) ?_
                with_reducible refine (field_Of.calls a0_0 a0_1 _ _ l0_2 a0_3 a0_4 a0_5 (Int.tmod (wrap64 (a1)) (l0_2.length : Int)) t193 t194 t195 t196 _ ?side1 ?side2 A18.out).mono ?_
                (case side1 => repeat (first | exact (Kd.C_below HR0_2.out HB.out) | (with_reducible refine Kd.C_alloc ?_ _) | (with_reducible refine Kd.C_drewN ?_ _) | (with_reducible refine Kd.C_drew ?_)))
                (case side2 => exact HC0_2.out)
                rintro e w38 ⟨rfl, hb⟩
                refine ⟨_, rfl, ?_⟩
                have n0_ := Aside0.mk (Kd.R_below (by (with_reducible repeat (first | apply Kd.R_alloc | apply Kd.R_drewN | apply Kd.R_drew)); exact HO188.out) hb)
                have n1_ := Aside0.mk (Kd.R_below (by (with_reducible repeat (first | apply Kd.R_alloc | apply Kd.R_drewN | apply Kd.R_drew)); exact HO191.out) hb)
                have n2_ := Aside0.mk (blk_below (g := gb178) (o := .cells #[.int .i64 a0_0, .int .i64 a0_1, .slice A0_2 l0_2.length c0_2, .int .i64 a0_3, .bool a0_4, .bool a0_5] 24 (0, 0)) (by (with_reducible repeat (first | refine blk_drewN ?_ _ | refine blk_drew ?_ | refine blk_alloc ?_ _)); exact BK178.out) hb)
                have n3_ := Aside0.mk (below_step (by repeat (first | (with_reducible first | exact HB.out | apply below_alloc | apply pw_below_drewN | apply below_drew1 | refine below_set ?_ GE178.out) | exact HB.out)) hb)
                clear HO188
                clear HO191
                clear BK178
                clear HB
                have HO188 := n0_
                have HO191 := n1_
                have BK178 := n2_
                have HB := n3_
                clear n0_ n1_ n2_ n3_
                (try clear hb)
                (try clear hb2)
                (try clear hk)
                (try clear hi)
                refine hK.out _ _ ⟨(blk_cell BK178.out 0).trans rfl, (blk_cell BK178.out 1).trans rfl, (blk_cell BK178.out 2).trans rfl, (blk_cell BK178.out 3).trans rfl, (blk_cell BK178.out 4).trans rfl, (blk_cell BK178.out 5).trans rfl⟩ (fun hHeld => ?_)
                clear hK K
                refine norm_ (a' := ?_) ?_ ?_
                rotate_left
                · show Act.put _ (some 46) _ = _
                  simp only [Act.put, List.setIfInBounds_toArray, List.set_cons_zero, List.set_cons_succ, i64_w, i32_w]
                  rfl
                refine one_ (i := 5) (N := some 49) #[true, true, true, true, true, true, false, false, false, false, false, false, false, false, false, false, false] rfl rfl (one_of HT_.out (by kernel_rfl)) (by decide) (fun K hK => ?_)
                refine goes_ Try.func19 (by kernel_rfl) rfl #[.agg #[.int .i64 a0_0, .int .i64 a0_1, .slice A0_2 l0_2.length c0_2, .int .i64 a0_3, .bool a0_4, .bool a0_5], .int .i64 (Int.tmod (wrap64 (a1)) (l0_2.length : Int))] (by rfl) rfl rfl (by (try simp only [List.map_toArray, List.map_cons, List.map_nil]); first | done | rfl | (simp only [List.length_drop, List.length_take]; rfl)) ?_
                with_reducible refine (shutterref11_Of.calls k a0_0 a0_1 _ _ l0_2 a0_3 a0_4 a0_5 (Int.tmod (wrap64 (a1)) (l0_2.length : Int)) t197 t198 t199 t200 _ ?side1 ?side2 A19.out).mono ?_
                (case side1 => repeat (first | exact (Kd.C_below HR0_2.out HB.out) | (with_reducible refine Kd.C_alloc ?_ _) | (with_reducible refine Kd.C_drewN ?_ _) | (with_reducible refine Kd.C_drew ?_)))
                (case side2 => exact HC0_2.out)
                rintro e w39 ⟨rfl, hb⟩
                refine ⟨_, rfl, ?_⟩
                have n0_ := Aside0.mk (Kd.R_below (by (with_reducible repeat (first | apply Kd.R_alloc | apply Kd.R_drewN | apply Kd.R_drew)); exact HO188.out) hb)
                have n1_ := Aside0.mk (Kd.R_below (by (with_reducible repeat (first | apply Kd.R_alloc | apply Kd.R_drewN | apply Kd.R_drew)); exact HO191.out) hb)
                have n2_ := Aside0.mk (blk_below (g := gb178) (o := .cells #[.int .i64 a0_0, .int .i64 a0_1, .slice A0_2 l0_2.length c0_2, .int .i64 a0_3, .bool a0_4, .bool a0_5] 24 (0, 0)) (by (with_reducible repeat (first | refine blk_drewN ?_ _ | refine blk_drew ?_ | refine blk_alloc ?_ _)); exact BK178.out) hb)
                have n3_ := Aside0.mk (below_step (by repeat (first | (with_reducible first | exact HB.out | apply below_alloc | apply pw_below_drewN | apply below_drew1 | refine below_set ?_ GE178.out) | exact HB.out)) hb)
                clear HO188
                clear HO191
                clear BK178
                clear HB
                have HO188 := n0_
                have HO191 := n1_
                have BK178 := n2_
                have HB := n3_
                clear n0_ n1_ n2_ n3_
                (try clear hb)
                (try clear hb2)
                (try clear hk)
                (try clear hi)
                refine hK.out _ _ ⟨(blk_cell BK178.out 0).trans rfl, (blk_cell BK178.out 1).trans rfl, (blk_cell BK178.out 2).trans rfl, (blk_cell BK178.out 3).trans rfl, (blk_cell BK178.out 4).trans rfl, (blk_cell BK178.out 5).trans rfl⟩ (fun hHeld => ?_)
                clear hK K
                refine norm_ (a' := ?_) ?_ ?_
                rotate_left
                · show Act.put _ (some 49) _ = _
                  simp only [Act.put, List.setIfInBounds_toArray, List.set_cons_zero, List.set_cons_succ, i64_w, i32_w]
                  rfl
                refine pure_ (i := 6) (N := some 50) (v := ?_) (a' := ?_) #[true, true, true, true, true, true, true, false, false, false, false, false, false, false, false, false, false] rfl rfl (any_of HT_.out (by kernel_rfl)) (fun _ _ _ h => h) (Or.inl ⟨by rfl, ?_⟩) ?_ ?_
                rotate_left
                · intro w'
                  go_simp
                  with_reducible rfl
                rotate_left
                · simp only [Act.put, List.setIfInBounds_toArray, List.set_cons_zero, List.set_cons_succ, i64_w, i32_w]
                  rfl
                refine pure_ (i := 7) (N := some 51) (v := ?_) (a' := ?_) #[true, true, true, true, true, true, true, true, false, false, false, false, false, false, false, false, false] rfl rfl (any_of HT_.out (by kernel_rfl)) (fun _ _ _ h => h) (Or.inl ⟨by rfl, ?_⟩) ?_ ?_
                rotate_left
                · intro w'
                  go_simp
                  with_reducible rfl
                rotate_left
                · simp only [Act.put, List.setIfInBounds_toArray, List.set_cons_zero, List.set_cons_succ, i64_w, i32_w]
                  rfl
                refine pure_ (i := 9) (N := some 53) (v := ?_) (a' := ?_) #[true, true, true, true, true, true, true, true, false, true, false, false, false, false, false, false, false] rfl rfl (any_of HT_.out (by kernel_rfl)) (fun _ _ _ h => h) (Or.inl ⟨by rfl, ?_⟩) ?_ ?_
                rotate_left
                · intro w'
                  go_simp
                  with_reducible rfl
                rotate_left
                · simp only [Act.put, List.setIfInBounds_toArray, List.set_cons_zero, List.set_cons_succ, i64_w, i32_w]
                  rfl
                refine pure_ (i := 12) (N := some 56) (v := ?_) (a' := ?_) #[true, true, true, true, true, true, true, true, false, true, false, false, true, false, false, false, false] rfl rfl (any_of HT_.out (by kernel_rfl)) (fun _ _ _ h => h) (Or.inl ⟨by rfl, ?_⟩) ?_ ?_
                rotate_left
                · intro w'
                  go_simp
                  with_reducible rfl
                rotate_left
                · simp only [Act.put, List.setIfInBounds_toArray, List.set_cons_zero, List.set_cons_succ, i64_w, i32_w]
                  rfl
                refine take_ (i := 8) (N := some 52) (v := ?_) (a' := ?_) #[true, true, true, true, true, true, true, true, true, true, false, false, true, false, false, false, false] rfl rfl (take_ofW HT_.out HW_.out (by kernel_rfl)) (fun _ _ _ h => h) (Or.inl ⟨by rfl, ?_⟩) hHeld ?_ ?_
                rotate_left
                · rintro w' ⟨s0, s1, s2, s3, s4, s5⟩
                  go_simp
                  with_reducible rfl
                rotate_left
                · simp only [Act.put, List.setIfInBounds_toArray, List.set_cons_zero, List.set_cons_succ, i64_w, i32_w]
                  rfl
                refine take_ (i := 11) (N := some 55) (v := ?_) (a' := ?_) #[true, true, true, true, true, true, true, true, true, true, false, true, true, false, false, false, false] rfl rfl (take_ofW HT_.out HW_.out (by kernel_rfl)) (fun _ _ _ h => h) (Or.inl ⟨by rfl, ?_⟩) hHeld ?_ ?_
                rotate_left
                · rintro w' ⟨s0, s1, s2, s3, s4, s5⟩
                  go_simp
                  with_reducible rfl
                rotate_left
                · simp only [Act.put, List.setIfInBounds_toArray, List.set_cons_zero, List.set_cons_succ, i64_w, i32_w]
                  rfl
                refine one_ (i := 10) (N := some 54) #[true, true, true, true, true, true, true, true, true, true, true, true, true, false, false, false, false] rfl rfl (one_of HT_.out (by kernel_rfl)) (by decide) (fun K hK => ?_)
                refine goes_ Try.func20 (by kernel_rfl) rfl #[.agg #[.int .i64 a0_0, .int .i64 a0_1, .slice A0_2 l0_2.length c0_2, .int .i64 a0_3, .bool a0_4, .bool a0_5], .int .i64 (Int.tmod (wrap64 (a1)) (l0_2.length : Int))] (by rfl) rfl rfl (by (try simp only [List.map_toArray, List.map_cons, List.map_nil]); first | done | rfl | (simp only [List.length_drop, List.length_take]; rfl)) ?_
                with_reducible refine (field_Open.calls a0_0 a0_1 _ _ l0_2 a0_3 a0_4 a0_5 (Int.tmod (wrap64 (a1)) (l0_2.length : Int)) t201 _ ?side1 ?side2 A21.out).mono ?_
                (case side1 => repeat (first | exact (Kd.C_below HR0_2.out HB.out) | (with_reducible refine Kd.C_alloc ?_ _) | (with_reducible refine Kd.C_drewN ?_ _) | (with_reducible refine Kd.C_drew ?_)))
                (case side2 => exact HC0_2.out)
                rintro e w40 ⟨rfl, hb⟩
                refine ⟨_, rfl, ?_⟩
                have n0_ := Aside0.mk (Kd.R_below (by (with_reducible repeat (first | apply Kd.R_alloc | apply Kd.R_drewN | apply Kd.R_drew)); exact HO188.out) hb)
                have n1_ := Aside0.mk (Kd.R_below (by (with_reducible repeat (first | apply Kd.R_alloc | apply Kd.R_drewN | apply Kd.R_drew)); exact HO191.out) hb)
                have n2_ := Aside0.mk (blk_below (g := gb178) (o := .cells #[.int .i64 a0_0, .int .i64 a0_1, .slice A0_2 l0_2.length c0_2, .int .i64 a0_3, .bool a0_4, .bool a0_5] 24 (0, 0)) (by (with_reducible repeat (first | refine blk_drewN ?_ _ | refine blk_drew ?_ | refine blk_alloc ?_ _)); exact BK178.out) hb)
                have n3_ := Aside0.mk (below_step (by repeat (first | (with_reducible first | exact HB.out | apply below_alloc | apply pw_below_drewN | apply below_drew1 | refine below_set ?_ GE178.out) | exact HB.out)) hb)
                clear HO188
                clear HO191
                clear BK178
                clear HB
                have HO188 := n0_
                have HO191 := n1_
                have BK178 := n2_
                have HB := n3_
                clear n0_ n1_ n2_ n3_
                (try clear hb)
                (try clear hb2)
                (try clear hk)
                (try clear hi)
                refine hK.out _ _ ⟨(blk_cell BK178.out 0).trans rfl, (blk_cell BK178.out 1).trans rfl, (blk_cell BK178.out 2).trans rfl, (blk_cell BK178.out 3).trans rfl, (blk_cell BK178.out 4).trans rfl, (blk_cell BK178.out 5).trans rfl⟩ (fun hHeld => ?_)
                clear hK K
                refine norm_ (a' := ?_) ?_ ?_
                rotate_left
                · show Act.put _ (some 54) _ = _
                  simp only [Act.put, List.setIfInBounds_toArray, List.set_cons_zero, List.set_cons_succ, i64_w, i32_w]
                  rfl
                refine one_ (i := 13) (N := some 57) #[true, true, true, true, true, true, true, true, true, true, true, true, true, true, false, false, false] rfl rfl (one_of HT_.out (by kernel_rfl)) (by decide) (fun K hK => ?_)
                refine goes_ Try.func21 (by kernel_rfl) rfl #[.agg #[.int .i64 a0_0, .int .i64 a0_1, .slice A0_2 l0_2.length c0_2, .int .i64 a0_3, .bool a0_4, .bool a0_5], .int .i64 (Int.tmod (wrap64 (a1)) (l0_2.length : Int))] (by rfl) rfl rfl (by (try simp only [List.map_toArray, List.map_cons, List.map_nil]); first | done | rfl | (simp only [List.length_drop, List.length_take]; rfl)) ?_
                with_reducible refine (shutterref11_Open.calls k a0_0 a0_1 _ _ l0_2 a0_3 a0_4 a0_5 (Int.tmod (wrap64 (a1)) (l0_2.length : Int)) t202 _ ?side1 ?side2 A22.out).mono ?_
                (case side1 => repeat (first | exact (Kd.C_below HR0_2.out HB.out) | (with_reducible refine Kd.C_alloc ?_ _) | (with_reducible refine Kd.C_drewN ?_ _) | (with_reducible refine Kd.C_drew ?_)))
                (case side2 => exact HC0_2.out)
                rintro e w41 ⟨rfl, hb⟩
                refine ⟨_, rfl, ?_⟩
                have n0_ := Aside0.mk (Kd.R_below (by (with_reducible repeat (first | apply Kd.R_alloc | apply Kd.R_drewN | apply Kd.R_drew)); exact HO188.out) hb)
                have n1_ := Aside0.mk (Kd.R_below (by (with_reducible repeat (first | apply Kd.R_alloc | apply Kd.R_drewN | apply Kd.R_drew)); exact HO191.out) hb)
                have n2_ := Aside0.mk (blk_below (g := gb178) (o := .cells #[.int .i64 a0_0, .int .i64 a0_1, .slice A0_2 l0_2.length c0_2, .int .i64 a0_3, .bool a0_4, .bool a0_5] 24 (0, 0)) (by (with_reducible repeat (first | refine blk_drewN ?_ _ | refine blk_drew ?_ | refine blk_alloc ?_ _)); exact BK178.out) hb)
                have n3_ := Aside0.mk (below_step (by repeat (first | (with_reducible first | exact HB.out | apply below_alloc | apply pw_below_drewN | apply below_drew1 | refine below_set ?_ GE178.out) | exact HB.out)) hb)
                clear HO188
                clear HO191
                clear BK178
                clear HB
                have HO188 := n0_
                have HO191 := n1_
                have BK178 := n2_
                have HB := n3_
                clear n0_ n1_ n2_ n3_
                (try clear hb)
                (try clear hb2)
                (try clear hk)
                (try clear hi)
                refine hK.out _ _ ⟨(blk_cell BK178.out 0).trans rfl, (blk_cell BK178.out 1).trans rfl, (blk_cell BK178.out 2).trans rfl, (blk_cell BK178.out 3).trans rfl, (blk_cell BK178.out 4).trans rfl, (blk_cell BK178.out 5).trans rfl⟩ (fun hHeld => ?_)
                clear hK K
                refine norm_ (a' := ?_) ?_ ?_
                rotate_left
                · show Act.put _ (some 57) _ = _
                  simp only [Act.put, List.setIfInBounds_toArray, List.set_cons_zero, List.set_cons_succ, i64_w, i32_w]
                  rfl
                refine pure_ (i := 14) (N := some 58) (v := ?_) (a' := ?_) #[true, true, true, true, true, true, true, true, true, true, true, true, true, true, true, false, false] rfl rfl (any_of HT_.out (by kernel_rfl)) (fun _ _ _ h => h) (Or.inl ⟨by rfl, ?_⟩) ?_ ?_
                rotate_left
                · intro w'
                  go_simp
                  with_reducible rfl
                rotate_left
                · simp only [Act.put, List.setIfInBounds_toArray, List.set_cons_zero, List.set_cons_succ, i64_w, i32_w]
                  rfl
                refine pure_ (i := 15) (N := some 59) (v := ?_) (a' := ?_) #[true, true, true, true, true, true, true, true, true, true, true, true, true, true, true, true, false] rfl rfl (any_of HT_.out (by kernel_rfl)) (fun _ _ _ h => h) (Or.inl ⟨by rfl, ?_⟩) ?_ ?_
                rotate_left
                · intro w'
                  go_simp
                  with_reducible rfl
                rotate_left
                · simp only [Act.put, List.setIfInBounds_toArray, List.set_cons_zero, List.set_cons_succ, i64_w, i32_w]
                  rfl
                refine pure_ (i := 16) (N := some 4) (v := ?_) (a' := ?_) #[true, true, true, true, true, true, true, true, true, true, true, true, true, true, true, true, true] rfl rfl (any_of HT_.out (by kernel_rfl)) (fun _ _ _ h => h) (Or.inl ⟨by rfl, ?_⟩) ?_ ?_
                rotate_left
                · intro w'
                  go_simp
                  with_reducible rfl
                rotate_left
                · simp only [Act.put, List.setIfInBounds_toArray, List.set_cons_zero, List.set_cons_succ, i64_w, i32_w]
                  rfl
                refine done_ (done_of HT_.out (by kernel_rfl)) ?_
                try go_wp2
                go_ret
                exact ⟨by first | rfl | (simp [errW_none, errW_some] <;> rfl) | (simp [*, errW_none, errW_some] <;> rfl), by repeat (first | (with_reducible first | exact HB.out | apply below_alloc | apply pw_below_drewN | apply below_drew1 | refine below_set ?_ GE178.out) | exact HB.out)⟩
              · rw [if_neg c20] at H
                have c20b0 : (t193 == t197 && (t194 == t198 && (t195 == t199 && (t196 == t200)))) = false := by simpa using c20
                (try (have c20b1 : decide (t193 = t197 && (t194 == t198 && (t195 == t199 && (t196 == t200)))) = false := by simpa using c20))
                (try (have c20b2 : (t193 == t197 && (t194 == t198 && (t195 == t199 && (t196 == t200)))) = false := by simpa using c20))
                (try (have c20b3 : ¬ (t193 = t197 && (t194 == t198 && (t195 == t199 && (t196 == t200)))) := by simpa using c20))
                clear c20
                exact absurd H (by simp)
            · replace c17 := Bool.eq_false_iff.mpr c17
              subst c17
              have H1 : (none) = some r := by rw [if_neg (show ¬ (false = true) by decide)] at H; exact H
              clear H
              have H := H1
              clear H1
              exact absurd H (by simp)
          · rw [if_neg c13] at H
            exact absurd H (by simp)
    · replace c6 := Bool.eq_false_iff.mpr c6
      subst c6
      have H1 : ((shutterlaw11_awake.f k).bind fun t181 => (some t181)) = some r := by rw [if_neg (show ¬ (false = true) by decide)] at H; exact H
      clear H
      have H := H1
      clear H1
      replace H := Option.bind_eq_some_iff.mp H
      obtain ⟨t181, A420, H⟩ := H
      replace H : (some t181) = some r := H
      have A42 := Aside0.mk A420
      clear A420
      obtain rfl := Option.some.inj H
      go_enter Try.func3, Try.ntmps3
      go_wp2_with (first | ((with_reducible refine gate_dst (N := 2) rfl ?_); refine box_event ?hg (N := 2) ?hd (cs := #[.int .i64 a0_0, .int .i64 a0_1, .slice A0_2 l0_2.length c0_2, .int .i64 a0_3, .bool a0_4, .bool a0_5]) (t := 24) ?hr ?_; (case hd => rfl); (case hg => rfl); (case hr => first | (go_simp; done) | (go_simp; rfl)); intro gb178 hg w43 hbox hb; have n0_ := Aside0.mk (below_step (by repeat (first | (with_reducible first | exact HB.out | apply below_alloc | apply pw_below_drewN | apply below_drew1) | exact HB.out)) hb); have n1_ := Aside0.mk (hbox); have n2_ := Aside0.mk ((by rw [hg]; exact (below_size (by repeat (first | (with_reducible first | exact HB.out | apply below_alloc | apply pw_below_drewN | apply below_drew1) | exact HB.out))) : w.heap.size ≤ gb178)); have n3_ := Aside0.mk ((by rw [hg]; exact (below_size (by repeat (first | (with_reducible first | exact HB.out | apply below_alloc | apply pw_below_drewN | apply below_drew1) | exact HB.out))) : w.heap.size ≤ gb178)); clear HB; have HB := n0_; have BK178 := n1_; have GW178 := n2_; have GE178 := n3_; clear n0_ n1_ n2_ n3_; clear hb hbox hg) | ((with_reducible refine gate_callee (f := 9) rfl ?_); refine goesL_ (some 6) rfl rfl Try.func9 (by kernel_rfl) rfl #[] rfl (by (try simp only [List.map_toArray, List.map_cons, List.map_nil]); first | done | rfl | (simp only [List.length_drop, List.length_take]; rfl)) ?_; (with_reducible refine (shutterlaw11_awake.calls k  true _ A3.out).mono ?_); rintro e w44 ⟨rfl, hb⟩; refine ⟨_, rfl, ?_⟩; have n0_ := Aside0.mk (blk_below (g := gb178) (o := .cells #[.int .i64 a0_0, .int .i64 a0_1, .slice A0_2 l0_2.length c0_2, .int .i64 a0_3, .bool a0_4, .bool a0_5] 24 (0, 0)) (by (with_reducible repeat (first | refine blk_drewN ?_ _ | refine blk_drew ?_ | refine blk_alloc ?_ _)); exact BK178.out) hb); have n1_ := Aside0.mk (below_step (by repeat (first | (with_reducible first | exact HB.out | apply below_alloc | apply pw_below_drewN | apply below_drew1 | refine below_set ?_ GE178.out) | exact HB.out)) hb); clear BK178; clear HB; have BK178 := n0_; have HB := n1_; clear n0_ n1_; (try clear hb); (try clear hb2); (try clear hk); (try clear hi); have hcz45_0 : w44.cell? ⟨gb178, 0, none⟩ = some (.int .i64 a0_0) := (blk_cell BK178.out 0).trans rfl; have hcz45_1 : w44.cell? ⟨gb178, 1, none⟩ = some (.int .i64 a0_1) := (blk_cell BK178.out 1).trans rfl; have hcz45_2 : w44.cell? ⟨gb178, 2, none⟩ = some (.slice A0_2 l0_2.length c0_2) := (blk_cell BK178.out 2).trans rfl; have hcz45_3 : w44.cell? ⟨gb178, 3, none⟩ = some (.int .i64 a0_3) := (blk_cell BK178.out 3).trans rfl; have hcz45_4 : w44.cell? ⟨gb178, 4, none⟩ = some (.bool a0_4) := (blk_cell BK178.out 4).trans rfl; have hcz45_5 : w44.cell? ⟨gb178, 5, none⟩ = some (.bool a0_5) := (blk_cell BK178.out 5).trans rfl; have hfz45_0 := blk_frozen BK178.out 0; have hfz45_1 := blk_frozen BK178.out 1; have hfz45_2 := blk_frozen BK178.out 2; have hfz45_3 := blk_frozen BK178.out 3; have hfz45_4 := blk_frozen BK178.out 4; have hfz45_5 := blk_frozen BK178.out 5) | (go_at_call 10; (with_reducible refine (shutterref10_Few.calls k a0_0 a0_1 _ _ l0_2 a0_3 a0_4 a0_5 false _ ?side1 ?side2 A5.out).mono ?_); (case side1 => repeat (first | exact (Kd.C_below HR0_2.out HB.out) | (with_reducible refine Kd.C_alloc ?_ _) | (with_reducible refine Kd.C_drewN ?_ _) | (with_reducible refine Kd.C_drew ?_))); (case side2 => exact HC0_2.out); rintro e w46 ⟨rfl, hb⟩; have n0_ := Aside0.mk (blk_below (g := gb178) (o := .cells #[.int .i64 a0_0, .int .i64 a0_1, .slice A0_2 l0_2.length c0_2, .int .i64 a0_3, .bool a0_4, .bool a0_5] 24 (0, 0)) (by (with_reducible repeat (first | refine blk_drewN ?_ _ | refine blk_drew ?_ | refine blk_alloc ?_ _)); exact BK178.out) hb); have n1_ := Aside0.mk (below_step (by repeat (first | (with_reducible first | exact HB.out | apply below_alloc | apply pw_below_drewN | apply below_drew1 | refine below_set ?_ GE178.out) | exact HB.out)) hb); clear BK178; clear HB; have BK178 := n0_; have HB := n1_; clear n0_ n1_; (try clear hb); (try clear hb2); (try clear hk); (try clear hi)) | ((with_reducible refine gate_callee (f := 9) rfl ?_); refine goesL_ (some 13) rfl rfl Try.func9 (by kernel_rfl) rfl #[] rfl (by (try simp only [List.map_toArray, List.map_cons, List.map_nil]); first | done | rfl | (simp only [List.length_drop, List.length_take]; rfl)) ?_; (with_reducible refine (shutterlaw11_awake.calls k  t181 _ A42.out).mono ?_); rintro e w47 ⟨rfl, hb⟩; refine ⟨_, rfl, ?_⟩; have n0_ := Aside0.mk (blk_below (g := gb178) (o := .cells #[.int .i64 a0_0, .int .i64 a0_1, .slice A0_2 l0_2.length c0_2, .int .i64 a0_3, .bool a0_4, .bool a0_5] 24 (0, 0)) (by (with_reducible repeat (first | refine blk_drewN ?_ _ | refine blk_drew ?_ | refine blk_alloc ?_ _)); exact BK178.out) hb); have n1_ := Aside0.mk (below_step (by repeat (first | (with_reducible first | exact HB.out | apply below_alloc | apply pw_below_drewN | apply below_drew1 | refine below_set ?_ GE178.out) | exact HB.out)) hb); clear BK178; clear HB; have BK178 := n0_; have HB := n1_; clear n0_ n1_; (try clear hb); (try clear hb2); (try clear hk); (try clear hi)))
      go_ret
      exact ⟨by first | rfl | (simp [errW_none, errW_some] <;> rfl) | (simp [*, errW_none, errW_some] <;> rfl), by repeat (first | (with_reducible first | exact HB.out | apply below_alloc | apply pw_below_drewN | apply below_drew1 | refine below_set ?_ GE178.out) | exact HB.out)⟩
  · replace c4 := Bool.eq_false_iff.mpr c4
    subst c4
    have H1 : (none) = some r := by rw [if_neg (show ¬ (false = true) by decide)] at H; exact H
    clear H
    have H := H1
    clear H1
    exact absurd H (by simp)

/-! ### shutterref11_first: function 36 -/
def shutterref11_first.f (k : Nat) (a0_0 : Int) (a0_1 : Int) (l0_2 : List (S39)) (a0_3 : Int) (a0_4 : Bool) (a0_5 : Bool) (a1 : Int) : Option (Int) := (shutterref11_mod.f k (wrap64 (a1 + 1)) (l0_2.length : Int)).bind fun t204 => (if 0 ≤ a1 then (if a1 < (l0_2.length : Int) then (if (rd_T39 l0_2 a1).f0 = true then (if ((rd_T39 l0_2 a1).f1.f0 = true) then (some (-1)) else (if 0 ≤ t204 then (if t204 < (l0_2.length : Int) then (if ((rd_T39 l0_2 t204).f0 = true) then (some (-1)) else (some t204)) else (none)) else (none))) else (some (-1))) else (none)) else (none))
theorem shutterref11_first.mono : ∀ a0 a1 a2 a3 a4 a5 a6 k, LeO (shutterref11_first.f k a0 a1 a2 a3 a4 a5 a6) (shutterref11_first.f (k + 1) a0 a1 a2 a3 a4 a5 a6) := by
  intro a0 a1 a2 a3 a4 a5 a6 k
  unfold shutterref11_first.f
  repeat' first
      | (with_reducible exact shutterref11_mod.mono _ _ _)
      | (with_reducible exact LeO.refl _)
      | (with_reducible exact LeO.none _)
      | (with_reducible refine LeO.ite ?_ ?_)
      | (with_reducible refine LeO.bind ?_ (fun _ => ?_))
      | exact shutterref11_mod.mono _ _ _
      | exact LeO.none _
      | refine LeO.ite ?_ ?_
      | refine LeO.bind ?_ (fun _ => ?_)
set_option maxHeartbeats 8000000 in
set_option maxRecDepth 100000 in
theorem shutterref11_first.calls (k : Nat) (a0_0 : Int) (a0_1 : Int) (A0_2 : Option Addr) (c0_2 : Nat) (l0_2 : List (S39)) (a0_3 : Int) (a0_4 : Bool) (a0_5 : Bool) (a1 : Int) (r : Int) (w : World) (hr0_2 : Kd.C k39 w A0_2 l0_2.length l0_2) (hc0_2 : l0_2.length ≤ c0_2) (h : shutterref11_first.f k a0_0 a0_1 l0_2 a0_3 a0_4 a0_5 a1 = some r) :
    Calls Try.prog 36 #[.agg #[.int .i64 a0_0, .int .i64 a0_1, .slice A0_2 l0_2.length c0_2, .int .i64 a0_3, .bool a0_4, .bool a0_5], .int .i64 a1] w fun e w' => e = .returned (.int .i64 r) ∧ Below w.heap.size w w' := by
  have hu24 := Try.underlying24
  have HR0_2 := Aside0.mk hr0_2
  have HC0_2 := Aside0.mk hc0_2
  clear hr0_2 hc0_2
  have HB := Aside0.mk (Below.refl w.heap.size w)
  have H : ((shutterref11_mod.f k (wrap64 (a1 + 1)) (l0_2.length : Int)).bind fun t204 => (if 0 ≤ a1 then (if a1 < (l0_2.length : Int) then (if (rd_T39 l0_2 a1).f0 = true then (if ((rd_T39 l0_2 a1).f1.f0 = true) then (some (-1)) else (if 0 ≤ t204 then (if t204 < (l0_2.length : Int) then (if ((rd_T39 l0_2 t204).f0 = true) then (some (-1)) else (some t204)) else (none)) else (none))) else (some (-1))) else (none)) else (none))) = some r := h
  clear h
  replace H := Option.bind_eq_some_iff.mp H
  obtain ⟨t204, A30, H⟩ := H
  replace H : (if 0 ≤ a1 then (if a1 < (l0_2.length : Int) then (if (rd_T39 l0_2 a1).f0 = true then (if ((rd_T39 l0_2 a1).f1.f0 = true) then (some (-1)) else (if 0 ≤ t204 then (if t204 < (l0_2.length : Int) then (if ((rd_T39 l0_2 t204).f0 = true) then (some (-1)) else (some t204)) else (none)) else (none))) else (some (-1))) else (none)) else (none)) = some r := H
  have A3 := Aside0.mk A30
  clear A30
  by_cases c4 : 0 ≤ a1
  · rw [if_pos c4] at H
    have c4b0 : decide (0 ≤ a1) = true := decide_eq_true c4
    clear c4
    by_cases c5 : a1 < (l0_2.length : Int)
    · rw [if_pos c5] at H
      have c5b0 : decide (a1 < (l0_2.length : Int)) = true := decide_eq_true c5
      clear c5
      obtain ⟨bq6, hbq6⟩ : ∃ b_ : Bool, b_ = ((rd_T39 l0_2 a1).f0) := ⟨_, rfl⟩
      replace H : (if bq6 = true then (if ((rd_T39 l0_2 a1).f1.f0 = true) then (some (-1)) else (if 0 ≤ t204 then (if t204 < (l0_2.length : Int) then (if ((rd_T39 l0_2 t204).f0 = true) then (some (-1)) else (some t204)) else (none)) else (none))) else (some (-1))) = some r := by rw [← hbq6] at H; exact H
      have Nbq6 := Aside0.mk hbq6
      clear hbq6
      by_cases c7 : bq6 = true
      · subst c7
        have H1 : (if ((rd_T39 l0_2 a1).f1.f0 = true) then (some (-1)) else (if 0 ≤ t204 then (if t204 < (l0_2.length : Int) then (if ((rd_T39 l0_2 t204).f0 = true) then (some (-1)) else (some t204)) else (none)) else (none))) = some r := by rw [if_pos rfl] at H; exact H
        clear H
        have H := H1
        clear H1
        obtain ⟨bq8, hbq8⟩ : ∃ b_ : Bool, b_ = ((rd_T39 l0_2 a1).f1.f0) := ⟨_, rfl⟩
        replace H : (if (bq8 = true) then (some (-1)) else (if 0 ≤ t204 then (if t204 < (l0_2.length : Int) then (if ((rd_T39 l0_2 t204).f0 = true) then (some (-1)) else (some t204)) else (none)) else (none))) = some r := by rw [← hbq8] at H; exact H
        have Nbq8 := Aside0.mk hbq8
        clear hbq8
        by_cases c9 : (bq8 = true)
        · subst c9
          have H1 : (some (-1)) = some r := by rw [if_pos rfl] at H; exact H
          clear H
          have H := H1
          clear H1
          obtain rfl := Option.some.inj H
          go_enter Try.func36, Try.ntmps36
          go_wp2_with (first | ((with_reducible refine gate_dst (N := 2) rfl ?_); refine box_event ?hg (N := 2) ?hd (cs := #[.int .i64 a0_0, .int .i64 a0_1, .slice A0_2 l0_2.length c0_2, .int .i64 a0_3, .bool a0_4, .bool a0_5]) (t := 24) ?hr ?_; (case hd => rfl); (case hg => rfl); (case hr => first | (go_simp; done) | (go_simp; rfl)); intro gb203 hg w10 hbox hb; have n0_ := Aside0.mk (below_step (by repeat (first | (with_reducible first | exact HB.out | apply below_alloc | apply pw_below_drewN | apply below_drew1) | exact HB.out)) hb); have n1_ := Aside0.mk (hbox); have n2_ := Aside0.mk ((by rw [hg]; exact (below_size (by repeat (first | (with_reducible first | exact HB.out | apply below_alloc | apply pw_below_drewN | apply below_drew1) | exact HB.out))) : w.heap.size ≤ gb203)); have n3_ := Aside0.mk ((by rw [hg]; exact (below_size (by repeat (first | (with_reducible first | exact HB.out | apply below_alloc | apply pw_below_drewN | apply below_drew1) | exact HB.out))) : w.heap.size ≤ gb203)); clear HB; have HB := n0_; have BK203 := n1_; have GW203 := n2_; have GE203 := n3_; clear n0_ n1_ n2_ n3_; clear hb hbox hg; have hcz11_0 : w10.cell? ⟨gb203, 0, none⟩ = some (.int .i64 a0_0) := (blk_cell BK203.out 0).trans rfl; have hcz11_1 : w10.cell? ⟨gb203, 1, none⟩ = some (.int .i64 a0_1) := (blk_cell BK203.out 1).trans rfl; have hcz11_2 : w10.cell? ⟨gb203, 2, none⟩ = some (.slice A0_2 l0_2.length c0_2) := (blk_cell BK203.out 2).trans rfl; have hcz11_3 : w10.cell? ⟨gb203, 3, none⟩ = some (.int .i64 a0_3) := (blk_cell BK203.out 3).trans rfl; have hcz11_4 : w10.cell? ⟨gb203, 4, none⟩ = some (.bool a0_4) := (blk_cell BK203.out 4).trans rfl; have hcz11_5 : w10.cell? ⟨gb203, 5, none⟩ = some (.bool a0_5) := (blk_cell BK203.out 5).trans rfl; have hfz11_0 := blk_frozen BK203.out 0; have hfz11_1 := blk_frozen BK203.out 1; have hfz11_2 := blk_frozen BK203.out 2; have hfz11_3 := blk_frozen BK203.out 3; have hfz11_4 := blk_frozen BK203.out 4; have hfz11_5 := blk_frozen BK203.out 5) | ((with_reducible refine gate_callee (f := 34) rfl ?_); refine goesL_ (some 11) rfl rfl Try.func34 (by kernel_rfl) rfl #[.int .i64 (wrap64 (a1 + 1)), .int .i64 (l0_2.length : Int)] rfl (by (try simp only [List.map_toArray, List.map_cons, List.map_nil]); first | done | rfl | (simp only [List.length_drop, List.length_take]; rfl)) ?_; (with_reducible refine (shutterref11_mod.calls k (wrap64 (a1 + 1)) (l0_2.length : Int) t204 _ A3.out).mono ?_); rintro e w' ⟨rfl, ⟨nd, rfl⟩⟩; refine ⟨_, rfl, ?_⟩; have p205 : 0 ≤ (a1 : Int) := of_decide_eq_true (by first | (with_reducible assumption) | assumption); have q205 : a1 < (l0_2.length : Int) := of_decide_eq_true (by first | (with_reducible assumption) | assumption); obtain ⟨ad205, e205, hx205_0, hx205_1, hx205_2, hx205_3, hx205_4, hx205_5⟩ := at_T39 HR0_2.out a1 p205 q205; (try rw [← Nbq6.out] at hx205_0); (try rw [← Nbq8.out] at hx205_0); (try rw [← Nbq6.out] at hx205_1); (try rw [← Nbq8.out] at hx205_1); (try rw [← Nbq6.out] at hx205_2); (try rw [← Nbq8.out] at hx205_2); (try rw [← Nbq6.out] at hx205_4); (try rw [← Nbq8.out] at hx205_4); cases e205; replace hx205_0 := (HB.out.cell (World.block_lt_of_cell? w _ hx205_0)).trans hx205_0; replace hx205_1 := (HB.out.cell (World.block_lt_of_cell? w _ hx205_1)).trans hx205_1; replace hx205_2 := (HB.out.cell (World.block_lt_of_cell? w _ hx205_2)).trans hx205_2; replace hx205_3 := (HB.out.cell (World.block_lt_of_cell? w _ hx205_3)).trans hx205_3; replace hx205_4 := (HB.out.cell (World.block_lt_of_cell? w _ hx205_4)).trans hx205_4; replace hx205_5 := (HB.out.cell (World.block_lt_of_cell? w _ hx205_5)).trans hx205_5; replace p205 := eq_true p205; replace q205 := eq_true q205; have p206 : 0 ≤ (a1 : Int) := of_decide_eq_true (by first | (with_reducible assumption) | assumption); have q206 : a1 < (l0_2.length : Int) := of_decide_eq_true (by first | (with_reducible assumption) | assumption); obtain ⟨ad206, e206, hx206_0, hx206_1, hx206_2, hx206_3, hx206_4, hx206_5⟩ := at_T39 HR0_2.out a1 p206 q206; (try rw [← Nbq6.out] at hx206_0); (try rw [← Nbq8.out] at hx206_0); (try rw [← Nbq6.out] at hx206_1); (try rw [← Nbq8.out] at hx206_1); (try rw [← Nbq6.out] at hx206_2); (try rw [← Nbq8.out] at hx206_2); (try rw [← Nbq6.out] at hx206_4); (try rw [← Nbq8.out] at hx206_4); obtain rfl : ad205 = ad206 := (by injection e206); replace hx206_0 := (HB.out.cell (World.block_lt_of_cell? w _ hx206_0)).trans hx206_0; replace hx206_1 := (HB.out.cell (World.block_lt_of_cell? w _ hx206_1)).trans hx206_1; replace hx206_2 := (HB.out.cell (World.block_lt_of_cell? w _ hx206_2)).trans hx206_2; replace hx206_3 := (HB.out.cell (World.block_lt_of_cell? w _ hx206_3)).trans hx206_3; replace hx206_4 := (HB.out.cell (World.block_lt_of_cell? w _ hx206_4)).trans hx206_4; replace hx206_5 := (HB.out.cell (World.block_lt_of_cell? w _ hx206_5)).trans hx206_5; replace p206 := eq_true p206; replace q206 := eq_true q206))
          go_ret
          exact ⟨by first | rfl | (simp [errW_none, errW_some] <;> rfl) | (simp [*, errW_none, errW_some] <;> rfl), by repeat (first | (with_reducible first | exact HB.out | apply below_alloc | apply pw_below_drewN | apply below_drew1 | refine below_set ?_ GE203.out) | exact HB.out)⟩
        · replace c9 := Bool.eq_false_iff.mpr c9
          subst c9
          have H1 : (if 0 ≤ t204 then (if t204 < (l0_2.length : Int) then (if ((rd_T39 l0_2 t204).f0 = true) then (some (-1)) else (some t204)) else (none)) else (none)) = some r := by rw [if_neg (show ¬ (false = true) by decide)] at H; exact H
          clear H
          have H := H1
          clear H1
          by_cases c12 : 0 ≤ t204
          · rw [if_pos c12] at H
            have c12b0 : decide (0 ≤ t204) = true := decide_eq_true c12
            clear c12
            by_cases c13 : t204 < (l0_2.length : Int)
            · rw [if_pos c13] at H
              have c13b0 : decide (t204 < (l0_2.length : Int)) = true := decide_eq_true c13
              clear c13
              obtain ⟨bq14, hbq14⟩ : ∃ b_ : Bool, b_ = ((rd_T39 l0_2 t204).f0) := ⟨_, rfl⟩
              replace H : (if (bq14 = true) then (some (-1)) else (some t204)) = some r := by rw [← hbq14] at H; exact H
              have Nbq14 := Aside0.mk hbq14
              clear hbq14
              by_cases c15 : (bq14 = true)
              · subst c15
                have H1 : (some (-1)) = some r := by rw [if_pos rfl] at H; exact H
                clear H
                have H := H1
                clear H1
                obtain rfl := Option.some.inj H
                go_enter Try.func36, Try.ntmps36
                go_wp2_with (first | ((with_reducible refine gate_dst (N := 2) rfl ?_); refine box_event ?hg (N := 2) ?hd (cs := #[.int .i64 a0_0, .int .i64 a0_1, .slice A0_2 l0_2.length c0_2, .int .i64 a0_3, .bool a0_4, .bool a0_5]) (t := 24) ?hr ?_; (case hd => rfl); (case hg => rfl); (case hr => first | (go_simp; done) | (go_simp; rfl)); intro gb203 hg w16 hbox hb; have n0_ := Aside0.mk (below_step (by repeat (first | (with_reducible first | exact HB.out | apply below_alloc | apply pw_below_drewN | apply below_drew1) | exact HB.out)) hb); have n1_ := Aside0.mk (hbox); have n2_ := Aside0.mk ((by rw [hg]; exact (below_size (by repeat (first | (with_reducible first | exact HB.out | apply below_alloc | apply pw_below_drewN | apply below_drew1) | exact HB.out))) : w.heap.size ≤ gb203)); have n3_ := Aside0.mk ((by rw [hg]; exact (below_size (by repeat (first | (with_reducible first | exact HB.out | apply below_alloc | apply pw_below_drewN | apply below_drew1) | exact HB.out))) : w.heap.size ≤ gb203)); clear HB; have HB := n0_; have BK203 := n1_; have GW203 := n2_; have GE203 := n3_; clear n0_ n1_ n2_ n3_; clear hb hbox hg; have hcz17_0 : w16.cell? ⟨gb203, 0, none⟩ = some (.int .i64 a0_0) := (blk_cell BK203.out 0).trans rfl; have hcz17_1 : w16.cell? ⟨gb203, 1, none⟩ = some (.int .i64 a0_1) := (blk_cell BK203.out 1).trans rfl; have hcz17_2 : w16.cell? ⟨gb203, 2, none⟩ = some (.slice A0_2 l0_2.length c0_2) := (blk_cell BK203.out 2).trans rfl; have hcz17_3 : w16.cell? ⟨gb203, 3, none⟩ = some (.int .i64 a0_3) := (blk_cell BK203.out 3).trans rfl; have hcz17_4 : w16.cell? ⟨gb203, 4, none⟩ = some (.bool a0_4) := (blk_cell BK203.out 4).trans rfl; have hcz17_5 : w16.cell? ⟨gb203, 5, none⟩ = some (.bool a0_5) := (blk_cell BK203.out 5).trans rfl; have hfz17_0 := blk_frozen BK203.out 0; have hfz17_1 := blk_frozen BK203.out 1; have hfz17_2 := blk_frozen BK203.out 2; have hfz17_3 := blk_frozen BK203.out 3; have hfz17_4 := blk_frozen BK203.out 4; have hfz17_5 := blk_frozen BK203.out 5) | ((with_reducible refine gate_callee (f := 34) rfl ?_); refine goesL_ (some 11) rfl rfl Try.func34 (by kernel_rfl) rfl #[.int .i64 (wrap64 (a1 + 1)), .int .i64 (l0_2.length : Int)] rfl (by (try simp only [List.map_toArray, List.map_cons, List.map_nil]); first | done | rfl | (simp only [List.length_drop, List.length_take]; rfl)) ?_; (with_reducible refine (shutterref11_mod.calls k (wrap64 (a1 + 1)) (l0_2.length : Int) t204 _ A3.out).mono ?_); rintro e w' ⟨rfl, ⟨nd, rfl⟩⟩; refine ⟨_, rfl, ?_⟩; have p205 : 0 ≤ (a1 : Int) := of_decide_eq_true (by first | (with_reducible assumption) | assumption); have q205 : a1 < (l0_2.length : Int) := of_decide_eq_true (by first | (with_reducible assumption) | assumption); obtain ⟨ad205, e205, hx205_0, hx205_1, hx205_2, hx205_3, hx205_4, hx205_5⟩ := at_T39 HR0_2.out a1 p205 q205; (try rw [← Nbq6.out] at hx205_0); (try rw [← Nbq8.out] at hx205_0); (try rw [← Nbq14.out] at hx205_0); (try rw [← Nbq6.out] at hx205_1); (try rw [← Nbq8.out] at hx205_1); (try rw [← Nbq14.out] at hx205_1); (try rw [← Nbq6.out] at hx205_2); (try rw [← Nbq8.out] at hx205_2); (try rw [← Nbq14.out] at hx205_2); (try rw [← Nbq6.out] at hx205_4); (try rw [← Nbq8.out] at hx205_4); (try rw [← Nbq14.out] at hx205_4); cases e205; replace hx205_0 := (HB.out.cell (World.block_lt_of_cell? w _ hx205_0)).trans hx205_0; replace hx205_1 := (HB.out.cell (World.block_lt_of_cell? w _ hx205_1)).trans hx205_1; replace hx205_2 := (HB.out.cell (World.block_lt_of_cell? w _ hx205_2)).trans hx205_2; replace hx205_3 := (HB.out.cell (World.block_lt_of_cell? w _ hx205_3)).trans hx205_3; replace hx205_4 := (HB.out.cell (World.block_lt_of_cell? w _ hx205_4)).trans hx205_4; replace hx205_5 := (HB.out.cell (World.block_lt_of_cell? w _ hx205_5)).trans hx205_5; replace p205 := eq_true p205; replace q205 := eq_true q205; have p206 : 0 ≤ (a1 : Int) := of_decide_eq_true (by first | (with_reducible assumption) | assumption); have q206 : a1 < (l0_2.length : Int) := of_decide_eq_true (by first | (with_reducible assumption) | assumption); obtain ⟨ad206, e206, hx206_0, hx206_1, hx206_2, hx206_3, hx206_4, hx206_5⟩ := at_T39 HR0_2.out a1 p206 q206; (try rw [← Nbq6.out] at hx206_0); (try rw [← Nbq8.out] at hx206_0); (try rw [← Nbq14.out] at hx206_0); (try rw [← Nbq6.out] at hx206_1); (try rw [← Nbq8.out] at hx206_1); (try rw [← Nbq14.out] at hx206_1); (try rw [← Nbq6.out] at hx206_2); (try rw [← Nbq8.out] at hx206_2); (try rw [← Nbq14.out] at hx206_2); (try rw [← Nbq6.out] at hx206_4); (try rw [← Nbq8.out] at hx206_4); (try rw [← Nbq14.out] at hx206_4); obtain rfl : ad205 = ad206 := (by injection e206); replace hx206_0 := (HB.out.cell (World.block_lt_of_cell? w _ hx206_0)).trans hx206_0; replace hx206_1 := (HB.out.cell (World.block_lt_of_cell? w _ hx206_1)).trans hx206_1; replace hx206_2 := (HB.out.cell (World.block_lt_of_cell? w _ hx206_2)).trans hx206_2; replace hx206_3 := (HB.out.cell (World.block_lt_of_cell? w _ hx206_3)).trans hx206_3; replace hx206_4 := (HB.out.cell (World.block_lt_of_cell? w _ hx206_4)).trans hx206_4; replace hx206_5 := (HB.out.cell (World.block_lt_of_cell? w _ hx206_5)).trans hx206_5; replace p206 := eq_true p206; replace q206 := eq_true q206; have p207 : 0 ≤ (t204 : Int) := of_decide_eq_true (by first | (with_reducible assumption) | assumption); have q207 : t204 < (l0_2.length : Int) := of_decide_eq_true (by first | (with_reducible assumption) | assumption); obtain ⟨ad207, e207, hx207_0, hx207_1, hx207_2, hx207_3, hx207_4, hx207_5⟩ := at_T39 HR0_2.out t204 p207 q207; (try rw [← Nbq6.out] at hx207_0); (try rw [← Nbq8.out] at hx207_0); (try rw [← Nbq14.out] at hx207_0); (try rw [← Nbq6.out] at hx207_1); (try rw [← Nbq8.out] at hx207_1); (try rw [← Nbq14.out] at hx207_1); (try rw [← Nbq6.out] at hx207_2); (try rw [← Nbq8.out] at hx207_2); (try rw [← Nbq14.out] at hx207_2); (try rw [← Nbq6.out] at hx207_4); (try rw [← Nbq8.out] at hx207_4); (try rw [← Nbq14.out] at hx207_4); obtain rfl : ad205 = ad207 := (by injection e207); replace hx207_0 := (HB.out.cell (World.block_lt_of_cell? w _ hx207_0)).trans hx207_0; replace hx207_1 := (HB.out.cell (World.block_lt_of_cell? w _ hx207_1)).trans hx207_1; replace hx207_2 := (HB.out.cell (World.block_lt_of_cell? w _ hx207_2)).trans hx207_2; replace hx207_3 := (HB.out.cell (World.block_lt_of_cell? w _ hx207_3)).trans hx207_3; replace hx207_4 := (HB.out.cell (World.block_lt_of_cell? w _ hx207_4)).trans hx207_4; replace hx207_5 := (HB.out.cell (World.block_lt_of_cell? w _ hx207_5)).trans hx207_5; replace p207 := eq_true p207; replace q207 := eq_true q207))
                go_ret
                exact ⟨by first | rfl | (simp [errW_none, errW_some] <;> rfl) | (simp [*, errW_none, errW_some] <;> rfl), by repeat (first | (with_reducible first | exact HB.out | apply below_alloc | apply pw_below_drewN | apply below_drew1 | refine below_set ?_ GE203.out) | exact HB.out)⟩
              · replace c15 := Bool.eq_false_iff.mpr c15
                subst c15
                have H1 : (some t204) = some r := by rw [if_neg (show ¬ (false = true) by decide)] at H; exact H
                clear H
                have H := H1
                clear H1
                obtain rfl := Option.some.inj H
                go_enter Try.func36, Try.ntmps36
                go_wp2_with (first | ((with_reducible refine gate_dst (N := 2) rfl ?_); refine box_event ?hg (N := 2) ?hd (cs := #[.int .i64 a0_0, .int .i64 a0_1, .slice A0_2 l0_2.length c0_2, .int .i64 a0_3, .bool a0_4, .bool a0_5]) (t := 24) ?hr ?_; (case hd => rfl); (case hg => rfl); (case hr => first | (go_simp; done) | (go_simp; rfl)); intro gb203 hg w18 hbox hb; have n0_ := Aside0.mk (below_step (by repeat (first | (with_reducible first | exact HB.out | apply below_alloc | apply pw_below_drewN | apply below_drew1) | exact HB.out)) hb); have n1_ := Aside0.mk (hbox); have n2_ := Aside0.mk ((by rw [hg]; exact (below_size (by repeat (first | (with_reducible first | exact HB.out | apply below_alloc | apply pw_below_drewN | apply below_drew1) | exact HB.out))) : w.heap.size ≤ gb203)); have n3_ := Aside0.mk ((by rw [hg]; exact (below_size (by repeat (first | (with_reducible first | exact HB.out | apply below_alloc | apply pw_below_drewN | apply below_drew1) | exact HB.out))) : w.heap.size ≤ gb203)); clear HB; have HB := n0_; have BK203 := n1_; have GW203 := n2_; have GE203 := n3_; clear n0_ n1_ n2_ n3_; clear hb hbox hg; have hcz19_0 : w18.cell? ⟨gb203, 0, none⟩ = some (.int .i64 a0_0) := (blk_cell BK203.out 0).trans rfl; have hcz19_1 : w18.cell? ⟨gb203, 1, none⟩ = some (.int .i64 a0_1) := (blk_cell BK203.out 1).trans rfl; have hcz19_2 : w18.cell? ⟨gb203, 2, none⟩ = some (.slice A0_2 l0_2.length c0_2) := (blk_cell BK203.out 2).trans rfl; have hcz19_3 : w18.cell? ⟨gb203, 3, none⟩ = some (.int .i64 a0_3) := (blk_cell BK203.out 3).trans rfl; have hcz19_4 : w18.cell? ⟨gb203, 4, none⟩ = some (.bool a0_4) := (blk_cell BK203.out 4).trans rfl; have hcz19_5 : w18.cell? ⟨gb203, 5, none⟩ = some (.bool a0_5) := (blk_cell BK203.out 5).trans rfl; have hfz19_0 := blk_frozen BK203.out 0; have hfz19_1 := blk_frozen BK203.out 1; have hfz19_2 := blk_frozen BK203.out 2; have hfz19_3 := blk_frozen BK203.out 3; have hfz19_4 := blk_frozen BK203.out 4; have hfz19_5 := blk_frozen BK203.out 5) | ((with_reducible refine gate_callee (f := 34) rfl ?_); refine goesL_ (some 11) rfl rfl Try.func34 (by kernel_rfl) rfl #[.int .i64 (wrap64 (a1 + 1)), .int .i64 (l0_2.length : Int)] rfl (by (try simp only [List.map_toArray, List.map_cons, List.map_nil]); first | done | rfl | (simp only [List.length_drop, List.length_take]; rfl)) ?_; (with_reducible refine (shutterref11_mod.calls k (wrap64 (a1 + 1)) (l0_2.length : Int) t204 _ A3.out).mono ?_); rintro e w' ⟨rfl, ⟨nd, rfl⟩⟩; refine ⟨_, rfl, ?_⟩; have p205 : 0 ≤ (a1 : Int) := of_decide_eq_true (by first | (with_reducible assumption) | assumption); have q205 : a1 < (l0_2.length : Int) := of_decide_eq_true (by first | (with_reducible assumption) | assumption); obtain ⟨ad205, e205, hx205_0, hx205_1, hx205_2, hx205_3, hx205_4, hx205_5⟩ := at_T39 HR0_2.out a1 p205 q205; (try rw [← Nbq6.out] at hx205_0); (try rw [← Nbq8.out] at hx205_0); (try rw [← Nbq14.out] at hx205_0); (try rw [← Nbq6.out] at hx205_1); (try rw [← Nbq8.out] at hx205_1); (try rw [← Nbq14.out] at hx205_1); (try rw [← Nbq6.out] at hx205_2); (try rw [← Nbq8.out] at hx205_2); (try rw [← Nbq14.out] at hx205_2); (try rw [← Nbq6.out] at hx205_4); (try rw [← Nbq8.out] at hx205_4); (try rw [← Nbq14.out] at hx205_4); cases e205; replace hx205_0 := (HB.out.cell (World.block_lt_of_cell? w _ hx205_0)).trans hx205_0; replace hx205_1 := (HB.out.cell (World.block_lt_of_cell? w _ hx205_1)).trans hx205_1; replace hx205_2 := (HB.out.cell (World.block_lt_of_cell? w _ hx205_2)).trans hx205_2; replace hx205_3 := (HB.out.cell (World.block_lt_of_cell? w _ hx205_3)).trans hx205_3; replace hx205_4 := (HB.out.cell (World.block_lt_of_cell? w _ hx205_4)).trans hx205_4; replace hx205_5 := (HB.out.cell (World.block_lt_of_cell? w _ hx205_5)).trans hx205_5; replace p205 := eq_true p205; replace q205 := eq_true q205; have p206 : 0 ≤ (a1 : Int) := of_decide_eq_true (by first | (with_reducible assumption) | assumption); have q206 : a1 < (l0_2.length : Int) := of_decide_eq_true (by first | (with_reducible assumption) | assumption); obtain ⟨ad206, e206, hx206_0, hx206_1, hx206_2, hx206_3, hx206_4, hx206_5⟩ := at_T39 HR0_2.out a1 p206 q206; (try rw [← Nbq6.out] at hx206_0); (try rw [← Nbq8.out] at hx206_0); (try rw [← Nbq14.out] at hx206_0); (try rw [← Nbq6.out] at hx206_1); (try rw [← Nbq8.out] at hx206_1); (try rw [← Nbq14.out] at hx206_1); (try rw [← Nbq6.out] at hx206_2); (try rw [← Nbq8.out] at hx206_2); (try rw [← Nbq14.out] at hx206_2); (try rw [← Nbq6.out] at hx206_4); (try rw [← Nbq8.out] at hx206_4); (try rw [← Nbq14.out] at hx206_4); obtain rfl : ad205 = ad206 := (by injection e206); replace hx206_0 := (HB.out.cell (World.block_lt_of_cell? w _ hx206_0)).trans hx206_0; replace hx206_1 := (HB.out.cell (World.block_lt_of_cell? w _ hx206_1)).trans hx206_1; replace hx206_2 := (HB.out.cell (World.block_lt_of_cell? w _ hx206_2)).trans hx206_2; replace hx206_3 := (HB.out.cell (World.block_lt_of_cell? w _ hx206_3)).trans hx206_3; replace hx206_4 := (HB.out.cell (World.block_lt_of_cell? w _ hx206_4)).trans hx206_4; replace hx206_5 := (HB.out.cell (World.block_lt_of_cell? w _ hx206_5)).trans hx206_5; replace p206 := eq_true p206; replace q206 := eq_true q206; have p207 : 0 ≤ (t204 : Int) := of_decide_eq_true (by first | (with_reducible assumption) | assumption); have q207 : t204 < (l0_2.length : Int) := of_decide_eq_true (by first | (with_reducible assumption) | assumption); obtain ⟨ad207, e207, hx207_0, hx207_1, hx207_2, hx207_3, hx207_4, hx207_5⟩ := at_T39 HR0_2.out t204 p207 q207; (try rw [← Nbq6.out] at hx207_0); (try rw [← Nbq8.out] at hx207_0); (try rw [← Nbq14.out] at hx207_0); (try rw [← Nbq6.out] at hx207_1); (try rw [← Nbq8.out] at hx207_1); (try rw [← Nbq14.out] at hx207_1); (try rw [← Nbq6.out] at hx207_2); (try rw [← Nbq8.out] at hx207_2); (try rw [← Nbq14.out] at hx207_2); (try rw [← Nbq6.out] at hx207_4); (try rw [← Nbq8.out] at hx207_4); (try rw [← Nbq14.out] at hx207_4); obtain rfl : ad205 = ad207 := (by injection e207); replace hx207_0 := (HB.out.cell (World.block_lt_of_cell? w _ hx207_0)).trans hx207_0; replace hx207_1 := (HB.out.cell (World.block_lt_of_cell? w _ hx207_1)).trans hx207_1; replace hx207_2 := (HB.out.cell (World.block_lt_of_cell? w _ hx207_2)).trans hx207_2; replace hx207_3 := (HB.out.cell (World.block_lt_of_cell? w _ hx207_3)).trans hx207_3; replace hx207_4 := (HB.out.cell (World.block_lt_of_cell? w _ hx207_4)).trans hx207_4; replace hx207_5 := (HB.out.cell (World.block_lt_of_cell? w _ hx207_5)).trans hx207_5; replace p207 := eq_true p207; replace q207 := eq_true q207))
                go_ret
                exact ⟨by first | rfl | (simp [errW_none, errW_some] <;> rfl) | (simp [*, errW_none, errW_some] <;> rfl), by repeat (first | (with_reducible first | exact HB.out | apply below_alloc | apply pw_below_drewN | apply below_drew1 | refine below_set ?_ GE203.out) | exact HB.out)⟩
            · rw [if_neg c13] at H
              exact absurd H (by simp)
          · rw [if_neg c12] at H
            exact absurd H (by simp)
      · replace c7 := Bool.eq_false_iff.mpr c7
        subst c7
        have H1 : (some (-1)) = some r := by rw [if_neg (show ¬ (false = true) by decide)] at H; exact H
        clear H
        have H := H1
        clear H1
        obtain rfl := Option.some.inj H
        go_enter Try.func36, Try.ntmps36
        go_wp2_with (first | ((with_reducible refine gate_dst (N := 2) rfl ?_); refine box_event ?hg (N := 2) ?hd (cs := #[.int .i64 a0_0, .int .i64 a0_1, .slice A0_2 l0_2.length c0_2, .int .i64 a0_3, .bool a0_4, .bool a0_5]) (t := 24) ?hr ?_; (case hd => rfl); (case hg => rfl); (case hr => first | (go_simp; done) | (go_simp; rfl)); intro gb203 hg w20 hbox hb; have n0_ := Aside0.mk (below_step (by repeat (first | (with_reducible first | exact HB.out | apply below_alloc | apply pw_below_drewN | apply below_drew1) | exact HB.out)) hb); have n1_ := Aside0.mk (hbox); have n2_ := Aside0.mk ((by rw [hg]; exact (below_size (by repeat (first | (with_reducible first | exact HB.out | apply below_alloc | apply pw_below_drewN | apply below_drew1) | exact HB.out))) : w.heap.size ≤ gb203)); have n3_ := Aside0.mk ((by rw [hg]; exact (below_size (by repeat (first | (with_reducible first | exact HB.out | apply below_alloc | apply pw_below_drewN | apply below_drew1) | exact HB.out))) : w.heap.size ≤ gb203)); clear HB; have HB := n0_; have BK203 := n1_; have GW203 := n2_; have GE203 := n3_; clear n0_ n1_ n2_ n3_; clear hb hbox hg; have hcz21_0 : w20.cell? ⟨gb203, 0, none⟩ = some (.int .i64 a0_0) := (blk_cell BK203.out 0).trans rfl; have hcz21_1 : w20.cell? ⟨gb203, 1, none⟩ = some (.int .i64 a0_1) := (blk_cell BK203.out 1).trans rfl; have hcz21_2 : w20.cell? ⟨gb203, 2, none⟩ = some (.slice A0_2 l0_2.length c0_2) := (blk_cell BK203.out 2).trans rfl; have hcz21_3 : w20.cell? ⟨gb203, 3, none⟩ = some (.int .i64 a0_3) := (blk_cell BK203.out 3).trans rfl; have hcz21_4 : w20.cell? ⟨gb203, 4, none⟩ = some (.bool a0_4) := (blk_cell BK203.out 4).trans rfl; have hcz21_5 : w20.cell? ⟨gb203, 5, none⟩ = some (.bool a0_5) := (blk_cell BK203.out 5).trans rfl; have hfz21_0 := blk_frozen BK203.out 0; have hfz21_1 := blk_frozen BK203.out 1; have hfz21_2 := blk_frozen BK203.out 2; have hfz21_3 := blk_frozen BK203.out 3; have hfz21_4 := blk_frozen BK203.out 4; have hfz21_5 := blk_frozen BK203.out 5) | ((with_reducible refine gate_callee (f := 34) rfl ?_); refine goesL_ (some 11) rfl rfl Try.func34 (by kernel_rfl) rfl #[.int .i64 (wrap64 (a1 + 1)), .int .i64 (l0_2.length : Int)] rfl (by (try simp only [List.map_toArray, List.map_cons, List.map_nil]); first | done | rfl | (simp only [List.length_drop, List.length_take]; rfl)) ?_; (with_reducible refine (shutterref11_mod.calls k (wrap64 (a1 + 1)) (l0_2.length : Int) t204 _ A3.out).mono ?_); rintro e w' ⟨rfl, ⟨nd, rfl⟩⟩; refine ⟨_, rfl, ?_⟩; have p205 : 0 ≤ (a1 : Int) := of_decide_eq_true (by first | (with_reducible assumption) | assumption); have q205 : a1 < (l0_2.length : Int) := of_decide_eq_true (by first | (with_reducible assumption) | assumption); obtain ⟨ad205, e205, hx205_0, hx205_1, hx205_2, hx205_3, hx205_4, hx205_5⟩ := at_T39 HR0_2.out a1 p205 q205; (try rw [← Nbq6.out] at hx205_0); (try rw [← Nbq6.out] at hx205_1); (try rw [← Nbq6.out] at hx205_2); (try rw [← Nbq6.out] at hx205_4); cases e205; replace hx205_0 := (HB.out.cell (World.block_lt_of_cell? w _ hx205_0)).trans hx205_0; replace hx205_1 := (HB.out.cell (World.block_lt_of_cell? w _ hx205_1)).trans hx205_1; replace hx205_2 := (HB.out.cell (World.block_lt_of_cell? w _ hx205_2)).trans hx205_2; replace hx205_3 := (HB.out.cell (World.block_lt_of_cell? w _ hx205_3)).trans hx205_3; replace hx205_4 := (HB.out.cell (World.block_lt_of_cell? w _ hx205_4)).trans hx205_4; replace hx205_5 := (HB.out.cell (World.block_lt_of_cell? w _ hx205_5)).trans hx205_5; replace p205 := eq_true p205; replace q205 := eq_true q205))
        go_ret
        exact ⟨by first | rfl | (simp [errW_none, errW_some] <;> rfl) | (simp [*, errW_none, errW_some] <;> rfl), by repeat (first | (with_reducible first | exact HB.out | apply below_alloc | apply pw_below_drewN | apply below_drew1 | refine below_set ?_ GE203.out) | exact HB.out)⟩
    · rw [if_neg c5] at H
      exact absurd H (by simp)
  · rw [if_neg c4] at H
    exact absurd H (by simp)

end Go.Proofs.Ytapcfcagjlmgjaa.P
