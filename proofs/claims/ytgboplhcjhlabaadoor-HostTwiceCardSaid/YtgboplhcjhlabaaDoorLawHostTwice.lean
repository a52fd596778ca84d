/- HostTwice: for every input the law's call returns true, and each argument reads afterwards as it read before. The conditions: those of the given row alone. -/
import Derived.Test.YtgboplhcjhlabaaDoorL0
import Derived.Test.YtgboplhcjhlabaaDoorTie
import Derived.Test.YtgboplhcjhlabaaDoorCards
import Derived.SevenTiedAt
import Derived.Test.YtgboplhcjhlabaaDoorRows
import Derived.Test.YtgboplhcjhlabaaDoorPx20
import Derived.Test.YtgboplhcjhlabaaDoorO3
import Derived.Test.YtgboplhcjhlabaaDoorKHostTwice
import Derived.WalkKit
import Derived.ProofKit
import Derived.OpenShut
import Derived.ShutString
import Derived.ChangeOld
import Derived.Below
import Derived.SizedLaws
namespace Go.Proofs.YtgboplhcjhlabaaDoor.hostTwice
open Go.ChangeShapes Go.WideShapes Go.ChangeAt Go.RowKit
set_option linter.unusedVariables false
theorem own : ownKnob Tryd.prog.godebug = none := by kernel_rfl
theorem laidOut : laidOutB Tryd.prog = true := by kernel_rfl
set_option maxRecDepth 100000 in
theorem lifted (os : Os) (started : os.Started) (H : Type) (enc : TypeId × Value → H) :
    ReturnsInHanded {} Tryd.checked os 12 .any (fun w args => (Rows.hostTwiceSpec.pre enc Tryd.prog Tryd.f12 Rows.hostTwiceRow.domain false w args ∧ laidMetH Tryd.prog Rows.hostTwiceRow.laid w) ∧ sizedMet enc Tryd.prog Tryd.f12 (OpenSpec.ofChange Rows.hostTwiceSpec) false w args) (Rows.hostTwiceSpec.post enc Tryd.prog Tryd.f12 false true false false) := by
  refine returnsInHanded_of_change_and (C := Tryd.checked) (X := fun w _ => laidMetH Tryd.prog Rows.hostTwiceRow.laid w) (fun _ _ _ hh h => h.of_heap hh) own started (by kernel_rfl) Tryd.func12
    (ChangeSpec.witness_at (enc := enc) (C := Tryd.checked) (os := os) (X := fun w _ => laidMetH Tryd.prog Rows.hostTwiceRow.laid w) false (P.laidWorld os) #[.agg #[.int .i64 0, .int .i64 0, .slice none 0 0, .int .i64 0, .bool false, .bool false], .agg #[.int .i64 0, .bool false, .bool false, .bool false, .slice none 0 0], .agg #[.int .i64 0, .bool false, .bool false, .bool false, .slice none 0 0]] 8 rfl (by kernel_rfl) (by kernel_rfl) (by kernel_rfl) (by kernel_rfl) (by kernel_rfl) (P.laidWorld_met os _)) ?_
  intro W base args ds gs before hval0 hW hcnd hsz0 hL _
  have hG := P.laidG_of hL
  clear hL
  have hval : ∀ (j : Nat) t v, Tryd.f12.params[j]? = some t → args[j]? = some v → Value.okWide Tryd.prog W .any base t v := hval0
  have hW' := hW
  obtain ⟨p, q, hA0, hV, rfl, hfz, hnd⟩ := hW
  have hA : DataW.TrodAll enc Tryd.prog W 0 (fun _ => true) true Tryd.f12.params.toList args.toList ds p := hA0
  rw [Tryd.params12] at hA hval
  obtain ⟨v0, vs0, d0, ds0, p0, q0, hargs, rfl, rfl, h0, r0⟩ := trodAll_cons hA
  obtain ⟨v1, vs1, d1, ds1, p1, q1, rfl, rfl, rfl, h1, r1⟩ := trodAll_cons r0
  obtain ⟨v2, vs2, d2, ds2, p2, q2, rfl, rfl, rfl, h2, r2⟩ := trodAll_cons r1
  obtain ⟨rfl, rfl, rfl⟩ := trodAll_nil r2
  obtain rfl : args = #[v0, v1, v2] := by cases args; simp_all
  obtain ⟨rfl, rfl⟩ := trodVars_none hV
  have k0 := h0
  have lt0 : ∀ x ∈ p0, x.block < W.heap.size := by obtain ⟨m, hm⟩ := k0; exact DataW.trod_lt m _ _ _ hm
  obtain ⟨a0_0, a0_1, A0_2, c0_2, l0_2, a0_3, a0_4, a0_5, rfl, hc0, hr0, wl0, w0_0, w0_1, w0_3⟩ := P.screen_open (hval 0 24 v0 rfl rfl) h0
  have k1 := h1
  have lt1 : ∀ x ∈ p1, x.block < W.heap.size := by obtain ⟨m, hm⟩ := k1; exact DataW.trod_lt m _ _ _ hm
  obtain ⟨a1_0, a1_1, a1_2, a1_3, A1_4, c1_4, l1_4, rfl, hc1, hr1, wo1⟩ := P.out_open (hval 1 60 v1 rfl rfl) h1
  have k2 := h2
  have lt2 : ∀ x ∈ p2, x.block < W.heap.size := by obtain ⟨m, hm⟩ := k2; exact DataW.trod_lt m _ _ _ hm
  obtain ⟨a2_0, a2_1, a2_2, a2_3, A2_4, c2_4, l2_4, rfl, hc2, hr2, wo2⟩ := P.out_open (hval 2 60 v2 rfl rfl) h2
  clear hA0 hval0 hsz0
  refine (P.shutterlaw13_HostTwice.calls 20000 a0_0 a0_1 A0_2 c0_2 l0_2 a0_3 a0_4 a0_5 a1_0 a1_1 a1_2 a1_3 A1_4 c1_4 l1_4 a2_0 a2_1 a2_2 a2_3 A2_4 c2_4 l2_4 true W hr0 hc0 hr1 hc1 hr2 hc2 hG (P.HostTwice_pure a0_0 a0_1 l0_2 a0_3 a0_4 a0_5 a1_0 a1_1 a1_2 a1_3 l1_4 a2_0 a2_1 a2_2 a2_3 l2_4 wl0 wo1 wo2)).mono fun e W' ⟨he, bel⟩ => ?_
  subst he
  exact ⟨_, rfl, _, _, _, [], _, [], hW', trodAll_mk1 (shut_bool Tryd.underlying4 _), (trodAll_cons_mk (Below.trod laidOut (by kernel_rfl) (of_decide_eq_true (by kernel_rfl)) k0 bel lt0) (trodAll_cons_mk (Below.trod laidOut (by kernel_rfl) (of_decide_eq_true (by kernel_rfl)) k1 bel lt1) (trodAll_cons_mk (Below.trod laidOut (by kernel_rfl) (of_decide_eq_true (by kernel_rfl)) k2 bel lt2) trodAll_mk0))), rfl, bel.frame _, fun h => by cases h⟩
theorem over : Rows.hostTwiceRow.holds Tryd.pinned (OpenSpec.ofChange Rows.hostTwiceSpec) :=
  OpenClaim.holds_of_wide 12 Tryd.f12 rfl rfl rfl rfl rfl rfl rfl ⟨rfl, rfl, rfl, rfl, rfl⟩ rfl rfl rfl rfl rfl (by kernel_rfl) Tryd.func12 (by kernel_rfl)
    (of_decide_eq_true (by kernel_rfl)) (by unfold Func.isWrapper; first | (rw [if_pos (by decide +kernel)]; kernel_rfl) | (rw [if_neg (by decide +kernel)]; exact ⟨rfl, rfl⟩))
    (fun os started H enc _ => lifted os started H enc)
/-- The tied card: the row, its listed variable tied to the program's text. -/
theorem proved : Rows.HostTwiceCardSaid :=
  Claim7.holds_tied_plain_at .later [] [.handle] true (true, "43355f19d588754ec2991ccc03a27b240cd1301edb4bac7e1a0379ea8b795d1d") true
    over (fun _ h => by cases h) (by kernel_rfl) (fun _ h => by cases h) hostTwice_row_tie rfl ⟨rfl, rfl⟩ (by kernel_rfl) rfl
    (fun f fn hf hfn => by
      obtain rfl : f = 12 := Option.some.inj ((show Tryd.prog.funcNamed "shutter/shutterlaw13.HostTwice" = some 12 by kernel_rfl).symm.trans hf) |>.symm
      obtain rfl : fn = Tryd.f12 := (Option.some.inj (Tryd.func12.symm.trans hfn)).symm
      exact ⟨by kernel_rfl, fun j t ht => by
        rw [Tryd.params12] at ht
        rcases j with _ | _ | _ | j
        · obtain rfl : 24 = t := by simpa using ht
          exact (show Tryd.prog.wantsStandIn 24 = false by kernel_rfl)
        · obtain rfl : 60 = t := by simpa using ht
          exact (show Tryd.prog.wantsStandIn 60 = false by kernel_rfl)
        · obtain rfl : 60 = t := by simpa using ht
          exact (show Tryd.prog.wantsStandIn 60 = false by kernel_rfl)
        · simp at ht⟩)
    (by kernel_rfl)
#print axioms proved
end Go.Proofs.YtgboplhcjhlabaaDoor.hostTwice
namespace Go.Proofs.YtgboplhcjhlabaaDoor
/-- The row, under a short name, for the claim. -/
theorem hostTwice_holds : Rows.HostTwiceCardSaid := hostTwice.proved
end Go.Proofs.YtgboplhcjhlabaaDoor
