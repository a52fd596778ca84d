/- pp.py and press2.py (wip/tools) wrote this text. -/
import Derived.Test.YtphboakgkmjpbaaGreatDoorJHostDoes1
import Derived.Test.YtphboakgkmjpbaaGreatDoorPx5
namespace Go.Proofs.YtphboakgkmjpbaaGreatDoor.P
open Go.RowKit Go.Proofs.YtphboakgkmjpbaaGreatDoorW.PrintWords Go.Proofs.YtphboakgkmjpbaaGreatDoorW.PrintLast Go.Proofs.YtphboakgkmjpbaaGreatDoorW.PrintMore
attribute [local go_sem] max2_int min2_int max_two min_two max_three min_three max_four min_four
attribute [local go_sem] Instr.field asAgg
set_option linter.unusedVariables false
set_option linter.unusedSimpArgs false
set_option maxHeartbeats 8000000
set_option maxRecDepth 100000

/-! ### slices_ContainsFunc_byte_byte: function 65 -/
section
/-- is a byte no character? as attr.Char tells it -/
def oddB (x : Int) : Bool := !((attr_Char.f x).getD false)
theorem attr_Char_odd (x : Int) : attr_Char.f x = some (!oddB x) := by
 unfold oddB attr_Char.f
 rw [Bool.not_not]
 repeat' split
 all_goals rfl
def indexB (p : Int → Bool) : List Int → Int → Int
 | [], _ => -1
 | x :: xs, i => if p x = true then i else indexB p xs (i + 1)
theorem indexB_drop (p : Int → Bool) (l : List Int) (k : Nat) (hk : k < l.length) : indexB p (l.drop k) k = if p l[k] = true then (k : Int) else indexB p (l.drop (k + 1)) ((k + 1 : Nat) : Int) := by
 rw [List.drop_eq_getElem_cons hk, indexB]; rfl
theorem indexB_ge (p : Int → Bool) : ∀ (l : List Int) (i : Int), 0 ≤ i → (indexB p l i ≥ 0 ↔ l.any p = true)
 | [], i, h => by simp [indexB]
 | x :: xs, i, h => by
  unfold indexB
  by_cases hx : p x = true
  ·rw [if_pos hx]; simp [hx]; exact h
  ·rw [if_neg hx, indexB_ge p xs (i + 1) (by omega)]; simp [hx]
theorem rd_intB (l : List Int) (k : Nat) (hk : k < l.length) : rd l (k : Int) = l[k] := by
 unfold rd; simp [hk]
theorem attr_Char_calls (x : Int) (r : Bool) (w : World) (h : attr_Char.f x = some r) : Calls Tryz.prog 64 #[.int .u8 x] w fun e w' => e = .returned (.bool r) ∧ w' = w := by
 unfold attr_Char.f at h
 by_cases c0 : x = 0
 ·rw [if_pos c0] at h
  obtain ⟨a0, b⟩ := eT_ c0
  clear c0
  obtain rfl := Option.some.inj h
  go_enter Tryz.func64, Tryz.ntmps64
  go_wp2
  go_ret
  exact ⟨rfl, rfl⟩
 rw [if_neg c0] at h
 obtain ⟨a0, b⟩ := eF_ c0
 by_cases c1 : x = 28
 ·rw [if_pos c1] at h
  obtain ⟨a1, c⟩ := eT_ c1
  clear c1
  obtain rfl := Option.some.inj h
  go_enter Tryz.func64, Tryz.ntmps64
  go_wp2
  go_ret
  exact ⟨rfl, rfl⟩
 rw [if_neg c1] at h
 obtain ⟨a1, c⟩ := eF_ c1
 by_cases c2 : x = 30
 ·rw [if_pos c2] at h
  obtain ⟨a, d⟩ := eT_ c2
  clear c2
  obtain rfl := Option.some.inj h
  go_enter Tryz.func64, Tryz.ntmps64
  go_wp2
  go_ret
  exact ⟨rfl, rfl⟩
 rw [if_neg c2] at h
 obtain ⟨a, d⟩ := eF_ c2
 by_cases c5 : x ≥ 64
 ·rw [if_pos c5] at h
  have j : decide (64 ≤ x) = true := decide_eq_true c5
  clear c5
  obtain rfl := Option.some.inj h
  go_enter Tryz.func64, Tryz.ntmps64
  go_wp2
  go_ret
  exact ⟨rfl, rfl⟩
 rw [if_neg c5] at h
 have j : decide (64 ≤ x) = false := decide_eq_false c5
 clear c5
 obtain rfl := Option.some.inj h
 go_enter Tryz.func64, Tryz.ntmps64
 go_wp2
 go_ret
 exact ⟨rfl, rfl⟩
theorem odd_calls (x : Int) (w : World) : Calls Tryz.prog 63 #[.int .u8 x] w fun e w' => e = .returned (.bool (oddB x)) ∧ w' = w := by
 have HC := Z (fun w => attr_Char_calls x _ w (attr_Char_odd x))
 have HN : (!(!oddB x)) = oddB x := Bool.not_not _
 go_enter Tryz.func63, Tryz.ntmps63
 go_wp2_with (go_at_call 64; refine (HC.out _).mono ?_; rintro e w' ⟨rfl, rfl⟩)
 go_ret
 exact ⟨by first | rfl | rw [HN], rfl⟩
def odd_has.f (l : List Int) : Option Bool := if l.length ≤ 16383 then some (l.any oddB) else none
theorem odd_index (A : Option Addr) (cp : Nat) (l : List Int) (w : World) (hr : Kd.C (Kd.int .u8) w A l.length l) (hc : l.length ≤ cp) (hn : l.length ≤ 16383) :
  Calls Tryz.prog 84 #[.slice A l.length cp, .func (.func 63) #[] #[]] w fun e w' => e = .returned (.int .i64 (indexB oddB l 0)) ∧ Drawn0 w w' := by
 have HP := Z (fun (k : Nat) (hk : k < l.length) => odd_calls l[k] w)
 have HR := Z hr
 clear hr
 have eg := enters_of Tryz.func63 (by kernel_rfl) rfl
 go_enter Tryz.func84, Tryz.ntmps84
 go_wp2
 go_loop [8] (fun i => ∃ k : Nat, k ≤ l.length ∧ i = .int .i64 k ∧ Aside0 (indexB oddB (l.drop k) k = indexB oddB l 0)) (fun i => l.length - (intOf i).toNat)
 case atStart => exact ⟨0, Nat.zero_le _, rfl, ⟨rfl⟩⟩
 case round =>
  obtain ⟨k, hk, rfl, hI⟩ := hrel
  by_cases hlt : k < l.length
  rotate_left
  ·obtain rfl : k = l.length := by omega
   go_wp2
   go_ret
   have e := hI.out
   rw [List.drop_length] at e
   exact ⟨by rw [← e]; rfl, Drawn0.refl _⟩
  obtain ⟨ad, e', c0⟩ := Kd.at_int HR.out (k : Int) (by omega) (by omega)
  rw [rd_intB l k hlt] at c0
  rw [Int.toNat_natCast] at c0
  subst e'
  have hC := HP.out k hlt
  have hD := indexB_drop oddB l k hlt
  cases hpx : oddB l[k] with
  | true =>
   rw [hpx] at hC hD
   have HC := Z hC
   have HD := Z (hI.out.symm.trans hD)
   clear hC hD hI
   go_wp2_with (refine HC.out.mono ?_; rintro e w' ⟨rfl, rfl⟩)
   go_ret
   exact ⟨by rw [HD.out]; rfl, Drawn0.refl _⟩
  | false =>
   rw [hpx] at hC hD
   have HC := Z hC
   have HD := Z (hD.symm.trans hI.out)
   clear hC hD hI
   go_wp2_with (refine HC.out.mono ?_; rintro e w' ⟨rfl, rfl⟩)
   go_round
   case rel => exact ⟨k + 1, by omega, by go_num, HD⟩
   case measure => simp [intOf]; omega
theorem odd_has.calls (A : Option Addr) (cp : Nat) (l : List Int) (res : Bool) (w : World) (hr : Kd.C (Kd.int .u8) w A l.length l) (hc : l.length ≤ cp) (h : odd_has.f l = some res) :
  Calls Tryz.prog 65 #[.slice A l.length cp, .func (.func 63) #[] #[]] w fun e w' => e = .returned (.bool res) ∧ Drawn0 w w' := by
 unfold odd_has.f at h
 by_cases hn : l.length ≤ 16383
 ·rw [if_pos hn] at h
  obtain rfl := Option.some.inj h
  clear h
  have HF := Z (odd_index A cp l w hr hc hn)
  have HD : decide (indexB oddB l 0 ≥ 0) = l.any oddB := by
   have := indexB_ge oddB l 0 (Int.le_refl _)
   cases h : l.any oddB
   ·rw [h] at this; simp at this; exact decide_eq_false (by omega)
   ·rw [h] at this; simp at this; exact decide_eq_true this
  have HD' := Z HD
  clear HD hr
  go_enter Tryz.func65, Tryz.ntmps65
  go_wp2_with (go_at_call 84; refine HF.out.mono ?_; rintro e w' ⟨rfl, hb⟩)
  go_ret
  exact ⟨by rw [← HD'.out]; rfl, hb⟩
 rw [if_neg hn] at h; cases h
end

end Go.Proofs.YtphboakgkmjpbaaGreatDoor.P
