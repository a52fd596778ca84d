/- HostDoes: for every input the law's call returns true, and each argument reads afterwards as it read before. The conditions: those of the given row alone. -/
import Derived.Test.YtphboakgkmjpbaaGreatDoorTie
import Derived.Test.YtphboakgkmjpbaaGreatDoorCards
import Derived.SevenTiedAt
import Derived.Test.YtphboakgkmjpbaaGreatDoorRows
import Derived.Test.YtphboakgkmjpbaaGreatDoorPx28
import Derived.Test.YtphboakgkmjpbaaGreatDoorKHostDoes
import Derived.WalkKit
import Derived.ProofKit
import Derived.OpenShut
import Derived.ShutString
import Derived.ChangeOld
import Derived.Below
import Derived.SizedLaws
namespace Go.Proofs.YtphboakgkmjpbaaGreatDoor.hostDoes
open Go.ChangeShapes Go.WideShapes Go.ChangeAt Go.RowKit
set_option linter.unusedVariables false
theorem own : ownKnob Tryz.prog.godebug = none := by kernel_rfl
theorem laidOut : laidOutB Tryz.prog = true := by kernel_rfl
set_option maxRecDepth 100000 in
theorem lifted (os : Os) (started : os.Started) (H : Type) (enc : TypeId × Value → H) :
    ReturnsInHanded {} Tryz.checked os 3 .any (fun w args => (Rows.hostDoesSpec.pre enc Tryz.prog Tryz.f3 Rows.hostDoesRow.domain false w args ∧ laidMetH Tryz.prog Rows.hostDoesRow.laid w) ∧ sizedMet enc Tryz.prog Tryz.f3 (OpenSpec.ofChange Rows.hostDoesSpec) false w args) (Rows.hostDoesSpec.post enc Tryz.prog Tryz.f3 false true false false) := by
  refine returnsInHanded_of_change_and (C := Tryz.checked) (X := fun w _ => laidMetH Tryz.prog Rows.hostDoesRow.laid w) (fun _ _ _ hh h => h.of_heap hh) own started (by kernel_rfl) Tryz.func3
    (ChangeSpec.witness_at (enc := enc) (C := Tryz.checked) (os := os) (X := fun w _ => laidMetH Tryz.prog Rows.hostDoesRow.laid w) false (P.laidWorld os) #[.agg #[.int .i64 0, .int .i64 0, .slice none 0 0, .int .i64 0, .bool false, .bool false], .agg #[.int .i64 0, .bool false, .bool false, .bool false, .slice none 0 0]] 8 rfl (by kernel_rfl) (by kernel_rfl) (by kernel_rfl) (by kernel_rfl) (by kernel_rfl) (P.laidWorld_met os _)) ?_
  intro W base args ds gs before hval0 hW hcnd hsz0 hL _
  have hG := P.laidG_of hL
  clear hL
  have hval : ∀ (j : Nat) t v, Tryz.f3.params[j]? = some t → args[j]? = some v → Value.okWide Tryz.prog W .any base t v := hval0
  have hW' := hW
  obtain ⟨p, q, hA0, hV, rfl, hfz, hnd⟩ := hW
  have hA : DataW.TrodAll enc Tryz.prog W 0 (fun _ => true) true Tryz.f3.params.toList args.toList ds p := hA0
  rw [Tryz.params3] at hA hval
  obtain ⟨v0, vs0, d0, ds0, p0, q0, hargs, rfl, rfl, h0, r0⟩ := trodAll_cons hA
  obtain ⟨v1, vs1, d1, ds1, p1, q1, rfl, rfl, rfl, h1, r1⟩ := trodAll_cons r0
  obtain ⟨rfl, rfl, rfl⟩ := trodAll_nil r1
  obtain rfl : args = #[v0, v1] := by cases args; simp_all
  obtain ⟨rfl, rfl⟩ := trodVars_none hV
  have k0 := h0
  have lt0 : ∀ x ∈ p0, x.block < W.heap.size := by obtain ⟨m, hm⟩ := k0; exact DataW.trod_lt m _ _ _ hm
  obtain ⟨a0_0, a0_1, A0_2, c0_2, l0_2, a0_3, a0_4, a0_5, rfl, hc0, hr0, wl0, w0_0, w0_1, w0_3⟩ := P.screen_open (hval 0 24 v0 rfl rfl) h0
  have k1 := h1
  have lt1 : ∀ x ∈ p1, x.block < W.heap.size := by obtain ⟨m, hm⟩ := k1; exact DataW.trod_lt m _ _ _ hm
  obtain ⟨a1_0, a1_1, a1_2, a1_3, A1_4, c1_4, l1_4, rfl, hc1, hr1, wo1⟩ := P.out_open (hval 1 29 v1 rfl rfl) h1
  clear hA0 hval0 hsz0
  refine (P.shutterlaw13_HostDoes.calls 20000 a0_0 a0_1 A0_2 c0_2 l0_2 a0_3 a0_4 a0_5 a1_0 a1_1 a1_2 a1_3 A1_4 c1_4 l1_4 true W hr0 hc0 hr1 hc1 hG (P.HostDoes_pure a0_0 a0_1 l0_2 a0_3 a0_4 a0_5 a1_0 a1_1 a1_2 a1_3 l1_4 wl0 wo1)).mono fun e W' ⟨he, bel⟩ => ?_
  subst he
  exact ⟨_, rfl, _, _, _, [], _, [], hW', trodAll_mk1 (shut_bool Tryz.underlying4 _), (trodAll_cons_mk (Below.trod laidOut (by kernel_rfl) (of_decide_eq_true (by kernel_rfl)) k0 bel lt0) (trodAll_cons_mk (Below.trod laidOut (by kernel_rfl) (of_decide_eq_true (by kernel_rfl)) k1 bel lt1) trodAll_mk0)), rfl, bel.frame _, fun h => by cases h⟩
theorem over : Rows.hostDoesRow.holds Tryz.pinned (OpenSpec.ofChange Rows.hostDoesSpec) :=
  OpenClaim.holds_of_wide 3 Tryz.f3 rfl rfl rfl rfl rfl rfl rfl ⟨rfl, rfl, rfl, rfl, rfl⟩ rfl rfl rfl rfl rfl (by kernel_rfl) Tryz.func3 (by kernel_rfl)
    (of_decide_eq_true (by kernel_rfl)) (by unfold Func.isWrapper; first | (rw [if_pos (by decide +kernel)]; kernel_rfl) | (rw [if_neg (by decide +kernel)]; exact ⟨rfl, rfl⟩))
    (fun os started H enc _ => lifted os started H enc)
/-- The tied card: the row, its listed variable tied to the program's text. -/
theorem proved : Rows.HostDoesCardSaid :=
  Claim7.holds_tied_plain_at .later [] [.handle] true (true, "fe770af3a3e829dc569d61d539f893b4d9554996ee9ec9edf7e459037ce773be") true
    over (fun _ h => by cases h) (by kernel_rfl) (fun _ h => by cases h) hostDoes_row_tie rfl ⟨rfl, rfl⟩ (by kernel_rfl) rfl
    (fun f fn hf hfn => by
      obtain rfl : f = 3 := Option.some.inj ((show Tryz.prog.funcNamed "shutter/shutterlaw13.HostDoes" = some 3 by kernel_rfl).symm.trans hf) |>.symm
      obtain rfl : fn = Tryz.f3 := (Option.some.inj (Tryz.func3.symm.trans hfn)).symm
      exact ⟨by kernel_rfl, fun j t ht => by
        rw [Tryz.params3] at ht
        rcases j with _ | _ | j
        · obtain rfl : 24 = t := by simpa using ht
          exact (show Tryz.prog.wantsStandIn 24 = false by kernel_rfl)
        · obtain rfl : 29 = t := by simpa using ht
          exact (show Tryz.prog.wantsStandIn 29 = false by kernel_rfl)
        · simp at ht⟩)
    (by kernel_rfl)
#print axioms proved
end Go.Proofs.YtphboakgkmjpbaaGreatDoor.hostDoes
namespace Go.Proofs.YtphboakgkmjpbaaGreatDoor
/-- The row, under a short name, for the claim. -/
theorem hostDoes_holds : Rows.HostDoesCardSaid := hostDoes.proved
end Go.Proofs.YtphboakgkmjpbaaGreatDoor
