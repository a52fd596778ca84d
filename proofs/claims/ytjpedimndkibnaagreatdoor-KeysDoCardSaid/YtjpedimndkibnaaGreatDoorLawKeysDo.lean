/- KeysDo: for every input the law's call returns true, and each argument reads afterwards as it read before. The conditions: those of the given row alone. -/
import Derived.Test.YtjpedimndkibnaaGreatDoorTie
import Derived.Test.YtjpedimndkibnaaGreatDoorCards
import Derived.SevenTiedAt
import Derived.Test.YtjpedimndkibnaaGreatDoorRows
import Derived.Test.YtjpedimndkibnaaGreatDoorJKeysDo2
import Derived.Test.YtjpedimndkibnaaGreatDoorKKeysDo
import Derived.WalkKit
import Derived.ProofKit
import Derived.OpenShut
import Derived.ShutString
import Derived.ChangeOld
import Derived.Below
import Derived.SizedLaws
namespace Go.Proofs.YtjpedimndkibnaaGreatDoor.keysDo
open Go.ChangeShapes Go.WideShapes Go.ChangeAt Go.RowKit
set_option linter.unusedVariables false
theorem own : ownKnob Tryz.prog.godebug = none := by kernel_rfl
theorem laidOut : laidOutB Tryz.prog = true := by kernel_rfl
set_option maxRecDepth 100000 in
theorem lifted (os : Os) (started : os.Started) (H : Type) (enc : TypeId × Value → H) :
    ReturnsInHanded {} Tryz.checked os 4 .any (fun w args => (Rows.keysDoSpec.pre enc Tryz.prog Tryz.f4 Rows.keysDoRow.domain false w args ∧ laidMetH Tryz.prog Rows.keysDoRow.laid w) ∧ sizedMet enc Tryz.prog Tryz.f4 (OpenSpec.ofChange Rows.keysDoSpec) false w args) (Rows.keysDoSpec.post enc Tryz.prog Tryz.f4 false true false false) := by
  refine returnsInHanded_of_change_and (C := Tryz.checked) (X := fun w _ => laidMetH Tryz.prog Rows.keysDoRow.laid w) (fun _ _ _ hh h => h.of_heap hh) own started (by kernel_rfl) Tryz.func4
    (ChangeSpec.witness_at (enc := enc) (C := Tryz.checked) (os := os) (X := fun w _ => laidMetH Tryz.prog Rows.keysDoRow.laid w) false (P.laidWorld os) #[.agg #[.int .i64 0, .int .i64 0, .slice none 0 0, .int .i64 0, .bool false, .bool false], .agg #[.int .i64 0, .int .u8 0]] 8 rfl (by kernel_rfl) (by kernel_rfl) (by kernel_rfl) (by kernel_rfl) (by kernel_rfl) (P.laidWorld_met os _)) ?_
  intro W base args ds gs before hval0 hW hcnd hsz0 hL _
  have hG := P.laidG_of hL
  clear hL
  have hval : ∀ (j : Nat) t v, Tryz.f4.params[j]? = some t → args[j]? = some v → Value.okWide Tryz.prog W .any base t v := hval0
  have hW' := hW
  obtain ⟨p, q, hA0, hV, rfl, hfz, hnd⟩ := hW
  have hA : DataW.TrodAll enc Tryz.prog W 0 (fun _ => true) true Tryz.f4.params.toList args.toList ds p := hA0
  rw [Tryz.params4] at hA hval
  obtain ⟨v0, vs0, d0, ds0, p0, q0, hargs, rfl, rfl, h0, r0⟩ := trodAll_cons hA
  obtain ⟨v1, vs1, d1, ds1, p1, q1, rfl, rfl, rfl, h1, r1⟩ := trodAll_cons r0
  obtain ⟨rfl, rfl, rfl⟩ := trodAll_nil r1
  obtain rfl : args = #[v0, v1] := by cases args; simp_all
  obtain ⟨rfl, rfl⟩ := trodVars_none hV
  have k0 := h0
  have lt0 : ∀ x ∈ p0, x.block < W.heap.size := by obtain ⟨m, hm⟩ := k0; exact DataW.trod_lt m _ _ _ hm
  obtain ⟨a0_0, a0_1, A0_2, c0_2, l0_2, a0_3, a0_4, a0_5, rfl, hc0, hr0, wl0, w0_0, w0_1, w0_3⟩ := P.screen_open (hval 0 24 v0 rfl rfl) h0
  have k1 := h1
  have lt1 : ∀ x ∈ p1, x.block < W.heap.size := by obtain ⟨m, hm⟩ := k1; exact DataW.trod_lt m _ _ _ hm
  obtain ⟨a1_0, a1_1, rfl, w1_0, w1_1⟩ := P.key_open (hval 1 45 v1 rfl rfl) h1
  clear hA0 hval0 hsz0
  have b1 := P.wf_u8 w1_1
  refine (P.shutterlaw17_KeysDo.calls 1000 a0_0 a0_1 A0_2 c0_2 l0_2 a0_3 a0_4 a0_5 a1_0 a1_1 true W hr0 hc0 hG (P.KeysDo_pure a0_0 a0_1 l0_2 a0_3 a0_4 a0_5 a1_0 a1_1 wl0 b1.1 b1.2)).mono fun e W' ⟨he, bel⟩ => ?_
  subst he
  exact ⟨_, rfl, _, _, _, [], _, [], hW', trodAll_mk1 (shut_bool Tryz.underlying4 _), (trodAll_cons_mk (Below.trod laidOut (by kernel_rfl) (of_decide_eq_true (by kernel_rfl)) k0 bel lt0) (trodAll_cons_mk (Below.trod laidOut (by kernel_rfl) (of_decide_eq_true (by kernel_rfl)) k1 bel lt1) trodAll_mk0)), rfl, bel.frame _, fun h => by cases h⟩
theorem over : Rows.keysDoRow.holds Tryz.pinned (OpenSpec.ofChange Rows.keysDoSpec) :=
  OpenClaim.holds_of_wide 4 Tryz.f4 rfl rfl rfl rfl rfl rfl rfl ⟨rfl, rfl, rfl, rfl, rfl⟩ rfl rfl rfl rfl rfl (by kernel_rfl) Tryz.func4 (by kernel_rfl)
    (of_decide_eq_true (by kernel_rfl)) (by unfold Func.isWrapper; first | (rw [if_pos (by decide +kernel)]; kernel_rfl) | (rw [if_neg (by decide +kernel)]; exact ⟨rfl, rfl⟩))
    (fun os started H enc _ => lifted os started H enc)
/-- The tied card: the row, its listed variable tied to the program's text. -/
theorem proved : Rows.KeysDoCardSaid :=
  Claim7.holds_tied_plain_at .later [] [.handle] true (true, "15fc5a910579dc7b04b3df5f8a2c7f74ed65dd0d19664632640e4d8a8858be52") true
    over (fun _ h => by cases h) (by kernel_rfl) (fun _ h => by cases h) keysDo_row_tie rfl ⟨rfl, rfl⟩ (by kernel_rfl) rfl
    (fun f fn hf hfn => by
      obtain rfl : f = 4 := Option.some.inj ((show Tryz.prog.funcNamed "shutter/shutterlaw17.KeysDo" = some 4 by kernel_rfl).symm.trans hf) |>.symm
      obtain rfl : fn = Tryz.f4 := (Option.some.inj (Tryz.func4.symm.trans hfn)).symm
      exact ⟨by kernel_rfl, fun j t ht => by
        rw [Tryz.params4] at ht
        rcases j with _ | _ | j
        · obtain rfl : 24 = t := by simpa using ht
          exact (show Tryz.prog.wantsStandIn 24 = false by kernel_rfl)
        · obtain rfl : 45 = t := by simpa using ht
          exact (show Tryz.prog.wantsStandIn 45 = false by kernel_rfl)
        · simp at ht⟩)
    (by kernel_rfl)
#print axioms proved
end Go.Proofs.YtjpedimndkibnaaGreatDoor.keysDo
namespace Go.Proofs.YtjpedimndkibnaaGreatDoor
/-- The row, under a short name, for the claim. -/
theorem keysDo_holds : Rows.KeysDoCardSaid := keysDo.proved
end Go.Proofs.YtjpedimndkibnaaGreatDoor
