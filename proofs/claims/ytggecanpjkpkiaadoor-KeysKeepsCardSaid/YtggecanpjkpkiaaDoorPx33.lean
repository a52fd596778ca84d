/- pp.py and press2.py (wip/tools) wrote this text. -/
import Derived.Test.YtggecanpjkpkiaaDoorJKeysKeeps1
import Derived.Test.YtggecanpjkpkiaaDoorPx3
import Derived.Test.YtggecanpjkpkiaaDoorJKeysKeeps3
import Derived.Test.YtggecanpjkpkiaaDoorJKeysKeeps5
import Derived.Test.YtggecanpjkpkiaaDoorJKeysKeeps4
namespace Go.Proofs.YtggecanpjkpkiaaDoor.P
open Go.RowKit Go.Proofs.YtggecanpjkpkiaaDoorW.PrintWords Go.Proofs.YtggecanpjkpkiaaDoorW.PrintLast Go.Proofs.YtggecanpjkpkiaaDoorW.PrintMore
attribute [local go_sem] max2_int min2_int max_two min_two max_three min_three max_four min_four
attribute [local go_sem] Instr.field asAgg
set_option linter.unusedVariables false
set_option linter.unusedSimpArgs false
set_option maxHeartbeats 8000000
set_option maxRecDepth 100000

/-! ### attr_Bare: function 97 -/
def attr_Bare.j0 : Nat → Int → Bool → Option (Bool)
 | 0, _, _ => none
 | k + 1, a, b => if b = true then (some true) else (if a = 109 then (some true) else (some false))
def attr_Bare.f (k : Nat) (a0 : Int) : Option (Bool) := if a0 = 108 then (attr_Bare.j0 k a0 (a0 == 108)) else (if a0 = 110 then (attr_Bare.j0 k a0 (a0 == 110)) else (attr_Bare.j0 k a0 (a0 == 107)))
theorem attr_Bare.mono_l : ∀ k, (∀ b c, LeO (attr_Bare.j0 k b c) (attr_Bare.j0 (k + 1) b c))
 | 0 => fun _ _ r h => by simp [attr_Bare.j0] at h
 | k + 1 => by
  have a := attr_Bare.mono_l k
  ·intro b c
   unfold attr_Bare.j0
   repeat' first
   | (with_reducible exact a _ _)
   | (with_reducible exact LeO.refl _)
   | (with_reducible exact LeO.none _)
   | (with_reducible refine LeO.ite ?_ ?_)
   | (with_reducible refine LeO.bind ?_ (fun _ => ?_))
   | exact a _ _
   | exact LeO.none _
   | refine LeO.ite ?_ ?_
   | refine LeO.bind ?_ (fun _ => ?_)
theorem attr_Bare.mono : ∀ a0 k, LeO (attr_Bare.f k a0) (attr_Bare.f (k + 1) a0) := by
 intro a0 k
 have a := attr_Bare.mono_l k
 unfold attr_Bare.f
 repeat' first
   | (with_reducible exact a _ _)
   | (with_reducible exact LeO.refl _)
   | (with_reducible exact LeO.none _)
   | (with_reducible refine LeO.ite ?_ ?_)
   | (with_reducible refine LeO.bind ?_ (fun _ => ?_))
   | exact a _ _
   | exact LeO.none _
   | refine LeO.ite ?_ ?_
   | refine LeO.bind ?_ (fun _ => ?_)
theorem attr_Bare.calls (k : Nat) (a0 : Int) (r : Bool) (w : World) (h : attr_Bare.f k a0 = some r) :
  Calls Tryd.prog 97 #[.int .u8 a0] w fun e w' => e = .returned (.bool r) ∧ Drawn0 w w' := by
 have H : (if a0 = 108 then (attr_Bare.j0 k a0 (a0 == 108)) else (if a0 = 110 then (attr_Bare.j0 k a0 (a0 == 110)) else (attr_Bare.j0 k a0 (a0 == 107)))) = some r := h
 clear h
 have c := Z H
 clear H
 go_enter Tryd.func97, Tryd.ntmps97
 go_upto_if 4 with (fail)
 go_cut [4] (fun m wc => ∃ (kq : Nat) (b : Bool), m = .bool b ∧ Aside0 (attr_Bare.j0 kq a0 b = some r) ∧ Aside0 (kq ≤ k) ∧ Drawn0 w wc)
 case first =>
  have H := c.out
  clear c
  by_cases c3 : a0 = 108
  ·rw [if_pos c3] at H
   obtain ⟨a, d⟩ := eT_ c3
   clear c3
   (first | rw [a] | (simp only [i64_w, i32_w]; rw [a]) | skip)
   have H' := Z H
   clear H
   go_wp2
   go_meet
   case rel => exact ⟨_, ((a0 == 108)), (dn_), H', ⟨by first | omega | exact Nat.le_refl _⟩, dr_⟩
  ·rw [if_neg c3] at H
   obtain ⟨a, d⟩ := eF_ c3
   (first | rw [a] | (simp only [i64_w, i32_w]; rw [a]) | skip)
   by_cases c4 : a0 = 110
   ·rw [if_pos c4] at H
    obtain ⟨g, i⟩ := eT_ c4
    clear c4
    have H' := Z H
    clear H
    go_wp2
    go_meet
    case rel => exact ⟨_, ((a0 == 110)), (dn_), H', ⟨by first | omega | exact Nat.le_refl _⟩, dr_⟩
   ·rw [if_neg c4] at H
    obtain ⟨g, i⟩ := eF_ c4
    have H' := Z H
    clear H
    go_wp2
    go_meet
    case rel => exact ⟨_, ((a0 == 107)), (dn_), H', ⟨by first | omega | exact Nat.le_refl _⟩, dr_⟩
 case rest =>
  clear c
  obtain ⟨kq, b, rfl, HA, n, ⟨p, rfl⟩⟩ := hcut
  cases kq with
  | zero => exact absurd HA.out (by simp [attr_Bare.j0])
  | succ o =>
   have H := HA.out
   clear HA
   simp only [attr_Bare.j0] at H
   by_cases c5 : b = true
   ·subst c5
    have H1 : (some true) = some r := by rw [if_pos rfl] at H; exact H
    clear H
    have H := H1
    clear H1
    obtain rfl := Option.some.inj H
    go_wp2
    go_ret
    exact ⟨dn_, dr_⟩
   ·replace c5 := Bool.eq_false_iff.mpr c5
    subst c5
    have H1 : (if a0 = 109 then (some true) else (some false)) = some r := by rw [if_neg (show ¬ (false = true) by decide)] at H; exact H
    clear H
    have H := H1
    clear H1
    by_cases c6 : a0 = 109
    ·rw [if_pos c6] at H
     obtain ⟨j, l⟩ := eT_ c6
     clear c6
     obtain rfl := Option.some.inj H
     go_wp2
     go_ret
     exact ⟨dn_, dr_⟩
    ·rw [if_neg c6] at H
     obtain ⟨j, l⟩ := eF_ c6
     obtain rfl := Option.some.inj H
     go_wp2
     go_ret
     exact ⟨dn_, dr_⟩

/-! ### attr_Aid: function 84 -/
def attr_Aid.f (k : Nat) (a0 : Int) : Option (Bool) := (attr_Bare.f k a0).bind fun a => (if a = true then (some true) else (if a0 = 125 then (some true) else (if a0 ≥ 241 then (if a0 ≤ 249 then (some true) else (if a0 ≥ 122 then (some (decide (a0 ≤ 124))) else (some false))) else (if a0 ≥ 122 then (some (decide (a0 ≤ 124))) else (some false)))))
theorem attr_Aid.mono : ∀ a0 k, LeO (attr_Aid.f k a0) (attr_Aid.f (k + 1) a0) := by
 intro a0 k
 unfold attr_Aid.f
 repeat' first
   | (with_reducible exact attr_Bare.mono _ _)
   | (with_reducible exact LeO.refl _)
   | (with_reducible exact LeO.none _)
   | (with_reducible refine LeO.ite ?_ ?_)
   | (with_reducible refine LeO.bind ?_ (fun _ => ?_))
   | exact attr_Bare.mono _ _
   | exact LeO.none _
   | refine LeO.ite ?_ ?_
   | refine LeO.bind ?_ (fun _ => ?_)
theorem attr_Aid.calls (k : Nat) (a0 : Int) (r : Bool) (w : World) (h : attr_Aid.f k a0 = some r) :
  Calls Tryd.prog 84 #[.int .u8 a0] w fun e w' => e = .returned (.bool r) ∧ Drawn0 w w' := by
 have H : ((attr_Bare.f k a0).bind fun a => (if a = true then (some true) else (if a0 = 125 then (some true) else (if a0 ≥ 241 then (if a0 ≤ 249 then (some true) else (if a0 ≥ 122 then (some (decide (a0 ≤ 124))) else (some false))) else (if a0 ≥ 122 then (some (decide (a0 ≤ 124))) else (some false)))))) = some r := h
 clear h
 replace H := Option.bind_eq_some_iff.mp H
 obtain ⟨a, c, H⟩ := H
 replace H : (if a = true then (some true) else (if a0 = 125 then (some true) else (if a0 ≥ 241 then (if a0 ≤ 249 then (some true) else (if a0 ≥ 122 then (some (decide (a0 ≤ 124))) else (some false))) else (if a0 ≥ 122 then (some (decide (a0 ≤ 124))) else (some false))))) = some r := H
 have b := Z c
 clear c
 by_cases c3 : a = true
 ·subst c3
  have H1 : (some true) = some r := by rw [if_pos rfl] at H; exact H
  clear H
  have H := H1
  clear H1
  obtain rfl := Option.some.inj H
  go_enter Tryd.func84, Tryd.ntmps84
  go_wp2_with (first | ((with_reducible refine gate_callee (f := 97) rfl ?_); refine goesL_ (some 4) rfl rfl Tryd.func97 (by kernel_rfl) rfl #[.int .u8 a0] rfl ag_ ?_; (with_reducible refine (attr_Bare.calls k a0 true _ b.out).mono ?_); rintro e w' ⟨rfl, ⟨nd, rfl⟩⟩; refine ⟨_, rfl, ?_⟩))
  go_ret
  exact ⟨dn_, dr_⟩
 ·replace c3 := Bool.eq_false_iff.mpr c3
  subst c3
  have H1 : (if a0 = 125 then (some true) else (if a0 ≥ 241 then (if a0 ≤ 249 then (some true) else (if a0 ≥ 122 then (some (decide (a0 ≤ 124))) else (some false))) else (if a0 ≥ 122 then (some (decide (a0 ≤ 124))) else (some false)))) = some r := by rw [if_neg (show ¬ (false = true) by decide)] at H; exact H
  clear H
  have H := H1
  clear H1
  by_cases c4 : a0 = 125
  ·rw [if_pos c4] at H
   obtain ⟨d, g⟩ := eT_ c4
   clear c4
   obtain rfl := Option.some.inj H
   go_enter Tryd.func84, Tryd.ntmps84
   go_wp2_with (first | ((with_reducible refine gate_callee (f := 97) rfl ?_); refine goesL_ (some 4) rfl rfl Tryd.func97 (by kernel_rfl) rfl #[.int .u8 a0] rfl ag_ ?_; (with_reducible refine (attr_Bare.calls k a0 false _ b.out).mono ?_); rintro e w' ⟨rfl, ⟨nd, rfl⟩⟩; refine ⟨_, rfl, ?_⟩))
   go_ret
   exact ⟨dn_, dr_⟩
  ·rw [if_neg c4] at H
   obtain ⟨d, g⟩ := eF_ c4
   by_cases c5 : a0 ≥ 241
   ·rw [if_pos c5] at H
    have i : decide (241 ≤ a0) = true := decide_eq_true c5
    clear c5
    by_cases c6 : a0 ≤ 249
    ·rw [if_pos c6] at H
     have j : decide (a0 ≤ 249) = true := decide_eq_true c6
     clear c6
     obtain rfl := Option.some.inj H
     go_enter Tryd.func84, Tryd.ntmps84
     go_wp2_with (first | ((with_reducible refine gate_callee (f := 97) rfl ?_); refine goesL_ (some 4) rfl rfl Tryd.func97 (by kernel_rfl) rfl #[.int .u8 a0] rfl ag_ ?_; (with_reducible refine (attr_Bare.calls k a0 false _ b.out).mono ?_); rintro e w' ⟨rfl, ⟨nd, rfl⟩⟩; refine ⟨_, rfl, ?_⟩))
     go_ret
     exact ⟨dn_, dr_⟩
    ·rw [if_neg c6] at H
     have j : decide (a0 ≤ 249) = false := decide_eq_false c6
     clear c6
     by_cases c7 : a0 ≥ 122
     ·rw [if_pos c7] at H
      have l : decide (122 ≤ a0) = true := decide_eq_true c7
      clear c7
      obtain rfl := Option.some.inj H
      go_enter Tryd.func84, Tryd.ntmps84
      go_wp2_with (first | ((with_reducible refine gate_callee (f := 97) rfl ?_); refine goesL_ (some 4) rfl rfl Tryd.func97 (by kernel_rfl) rfl #[.int .u8 a0] rfl ag_ ?_; (with_reducible refine (attr_Bare.calls k a0 false _ b.out).mono ?_); rintro e w' ⟨rfl, ⟨nd, rfl⟩⟩; refine ⟨_, rfl, ?_⟩))
      go_ret
      exact ⟨dn_, dr_⟩
     ·rw [if_neg c7] at H
      have l : decide (122 ≤ a0) = false := decide_eq_false c7
      clear c7
      obtain rfl := Option.some.inj H
      go_enter Tryd.func84, Tryd.ntmps84
      go_wp2_with (first | ((with_reducible refine gate_callee (f := 97) rfl ?_); refine goesL_ (some 4) rfl rfl Tryd.func97 (by kernel_rfl) rfl #[.int .u8 a0] rfl ag_ ?_; (with_reducible refine (attr_Bare.calls k a0 false _ b.out).mono ?_); rintro e w' ⟨rfl, ⟨nd, rfl⟩⟩; refine ⟨_, rfl, ?_⟩))
      go_ret
      exact ⟨dn_, dr_⟩
   ·rw [if_neg c5] at H
    have i : decide (241 ≤ a0) = false := decide_eq_false c5
    clear c5
    by_cases c8 : a0 ≥ 122
    ·rw [if_pos c8] at H
     have m : decide (122 ≤ a0) = true := decide_eq_true c8
     clear c8
     obtain rfl := Option.some.inj H
     go_enter Tryd.func84, Tryd.ntmps84
     go_wp2_with (first | ((with_reducible refine gate_callee (f := 97) rfl ?_); refine goesL_ (some 4) rfl rfl Tryd.func97 (by kernel_rfl) rfl #[.int .u8 a0] rfl ag_ ?_; (with_reducible refine (attr_Bare.calls k a0 false _ b.out).mono ?_); rintro e w' ⟨rfl, ⟨nd, rfl⟩⟩; refine ⟨_, rfl, ?_⟩))
     go_ret
     exact ⟨dn_, dr_⟩
    ·rw [if_neg c8] at H
     have m : decide (122 ≤ a0) = false := decide_eq_false c8
     clear c8
     obtain rfl := Option.some.inj H
     go_enter Tryd.func84, Tryd.ntmps84
     go_wp2_with (first | ((with_reducible refine gate_callee (f := 97) rfl ?_); refine goesL_ (some 4) rfl rfl Tryd.func97 (by kernel_rfl) rfl #[.int .u8 a0] rfl ag_ ?_; (with_reducible refine (attr_Bare.calls k a0 false _ b.out).mono ?_); rintro e w' ⟨rfl, ⟨nd, rfl⟩⟩; refine ⟨_, rfl, ?_⟩))
     go_ret
     exact ⟨dn_, dr_⟩

/-! ### keys_asks: function 64 -/
section
/-! ### the builtin clear over a row of cells -/
def zcA : Array Value := #[.bool false, .bool false, .bool false, .int .i64 0, .bool false, .int .u8 0]
def zl (n : Nat) : List Value := (Builtin.zeroCells zcA n).toList
theorem setCells_app (b : Nat) : ∀ (l1 l2 : List Value) (o : Nat) (w : World), w.setCells b o (l1 ++ l2) = (w.setCells b o l1).setCells b (o + l1.length) l2
 | [], l2, o, w => rfl
 | v :: r, l2, o, w => by
  show (w.setCell ⟨b, o, none⟩ v).setCells b (o + 1) (r ++ l2) = ((w.setCell ⟨b, o, none⟩ v).setCells b (o + 1) r).setCells b (o + (r.length + 1)) l2
  rw [setCells_app b r l2, show o + 1 + r.length = o + (r.length + 1) by omega]
theorem zl_len (n : Nat) : (zl n).length = n * 6 := by simp [zl, Builtin.zeroCells, zcA]
theorem zl_get (n i : Nat) (h : i < n * 6) : (zl n)[i]? = some (zcA[i % 6]!) := by
 simp [zl, Builtin.zeroCells, zcA, h]
theorem zl_succ (n : Nat) : zl (n + 1) = zl n ++ zcA.toList := by
 apply List.ext_getElem?
 intro i
 by_cases h : i < n * 6
 ·rw [zl_get (n + 1) i (by omega), List.getElem?_append_left (by rw [zl_len]; exact h), zl_get n i h]
 ·rw [List.getElem?_append_right (by rw [zl_len]; omega), zl_len]
  by_cases a : i < (n + 1) * 6
  ·rw [zl_get (n + 1) i a]
   obtain ⟨j, rfl⟩ : ∃ j, i = n * 6 + j := ⟨i - n * 6, by omega⟩
   have hj : j < 6 := by omega
   rw [show n * 6 + j - n * 6 = j by omega, show (n * 6 + j) % 6 = j by omega]
   match j, hj with
   | 0, _ => rfl
   | 1, _ => rfl
   | 2, _ => rfl
   | 3, _ => rfl
   | 4, _ => rfl
   | 5, _ => rfl
  ·rw [List.getElem?_eq_none (by rw [zl_len]; omega), List.getElem?_eq_none (by simp [zcA]; omega)]
theorem zl_cell (n : Nat) : ∀ v ∈ zl n, v.oneCell' = true := by
 induction n with
 | zero => intro v hv; simp [zl, Builtin.zeroCells] at hv
 | succ n ih =>
  intro v hv
  rw [zl_succ] at hv
  rcases List.mem_append.1 hv with hv | hv
  ·exact ih v hv
  ·simp only [zcA, List.mem_cons, List.not_mem_nil, or_false] at hv
   rcases hv with rfl | rfl | rfl | rfl | rfl | rfl <;> rfl
theorem clear_R {base : Nat} {w : World} {g n cap : Nat} {ok : Nat → Prop} {xs : List S35} (h : Kd.R k35 35 w base ok (.slice (some ⟨g, 0, none⟩) n cap) xs) : ∀ i, i ≤ n → Kd.R k35 35 (w.setCells g 0 (zl i)) base ok (.slice (some ⟨g, 0, none⟩) n cap) (List.replicate i z35 ++ xs.drop i) ∧ w.grownBy (w.setCells g 0 (zl i)) (some g)
 | 0, _ => by
  have e : zl 0 = [] := by simp [zl, Builtin.zeroCells]
  rw [e]; exact ⟨h, World.grownBy.refl _ _⟩
 | i + 1, hi => by
  obtain ⟨hR, hg⟩ := clear_R h i (by omega)
  have hn := (Kd.R_reads' h).1
  obtain ⟨c, hcl, _, hcc, _⟩ := Kd.R_elem hR z35 (i : Int) (by omega) (by omega)
  have hS := Kd.R_seg hR (i : Int) (by omega) (by omega) (seg := zcA.toList) (j := 0) hcl hcc (by decide) (x' := z35) (okp := fun k => ok k ∧ k ≠ g) (by
   have e : c.take 0 ++ zcA.toList ++ c.drop (0 + zcA.toList.length) = zcA.toList := by
    rw [List.drop_eq_nil_of_le (by rw [hcl]; decide)]; simp
   rw [e]; exact k35_mkM _ _ _ z35) (fun _ hk => hk)
  have ew : w.setCells g 0 (zl (i + 1)) = (w.setCells g 0 (zl i)).setCells g ((i : Int).toNat * (k35).sz + 0) zcA.toList := by
   rw [zl_succ, setCells_app, zl_len]; congr 1; simp [show (k35).sz = 6 from rfl]
  have ex : List.replicate (i + 1) z35 ++ xs.drop (i + 1) = (List.replicate i z35 ++ xs.drop i).set (i : Int).toNat z35 := by
   rw [Int.toNat_natCast, List.set_append_right _ _ (by simp), List.drop_eq_getElem_cons (by omega : i < xs.length), List.replicate_succ', List.append_assoc, List.length_replicate, Nat.sub_self, sB]
   rfl
  rw [ew, ex]
  exact ⟨hS.1, hg.trans hS.2⟩
theorem clear_run {base : Nat} {w : World} {g n cap : Nat} {ok : Nat → Prop} {xs : List S35} (h : Kd.R k35 35 w base ok (.slice (some ⟨g, 0, none⟩) n cap) xs) (ty : TypeId) : (Builtin.clear_ #[22] ty #[.slice (some ⟨g, 0, none⟩) n cap]).run Tryd.prog w = .ok (.tuple #[]) (w.setCells g 0 (zl n)) := by
 have hcf : ∀ j, j < (zl n).length → (w.cell? ⟨g, 0 + 0 + j, none⟩).isSome = true ∧ w.frozen? ⟨g, 0 + 0 + j, none⟩ = false := fun j hj => by
  rw [zl_len] at hj
  have hi : j / 6 < n := by omega
  obtain ⟨c, hcl, _, hcc, hfr⟩ := Kd.R_elem h z35 ((j / 6 : Nat) : Int) (by omega) (by omega)
  have hlt : j % 6 < c.length := by rw [hcl]; show j % 6 < 6; omega
  have e : ((j / 6 : Nat) : Int).toNat * (k35).sz + j % 6 = 0 + 0 + j := by rw [Int.toNat_natCast]; show j / 6 * 6 + j % 6 = _; omega
  have a := hcc (j % 6) _ (List.getElem?_eq_getElem hlt)
  have b := hfr (j % 6)
  rw [e] at a b
  exact ⟨by rw [a]; rfl, b⟩
 have hst := run_storeCells_cells (P := Tryd.prog) g 0 (zl n) 0 w (fun j hj => (hcf j hj).1) (fun j hj => (hcf j hj).2) (zl_cell n)
 rw [show (0 : Nat) + 0 = 0 from rfl] at hst
 have hz : ∀ w, (zeroValue 35).run Tryd.prog w = .ok (.agg zcA) w := fun w => by kernel_rfl
 cases n with
 | zero =>
  have e : zl 0 = [] := by simp [zl, Builtin.zeroCells]
  rw [e]
  simp [Builtin.clear_, run_underlying Tryd.underlying22]
  rfl
 | succ m =>
  have hc : Value.cells (.agg zcA) = zcA := by rfl
  unfold zl at hst ⊢
  simp [Builtin.clear_, run_underlying Tryd.underlying22, hz, hc, hst]
/-- keys.asks: a key that asks locks; the one that clears empties all cells. -/
def keys_asks.f (k : Nat) (b : Int) (c : Int) (a : List (S35)) (d : Int) (e : Bool) (g : Bool) (a1 : Int) : Option (Int × Int × (List (S35)) × Int × Bool × Bool × Bool × Option Er × List S164) :=
 (attr_Aid.f k a1).bind fun t => if t = true then (if e = true then some (b, c, a, d, e, g, false, some (Er.num 7), []) else (if a.length ≤ 16383 then (if a1 = 109 then (if 0 < a.length then some (b, c, List.replicate a.length z35, 0, true, false, true, none, []) else none) else some (b, c, a, d, true, false, true, none, [])) else none)) else some (b, c, a, d, e, g, false, some (Er.num 3), [])
theorem keys_asks.mono (a0 a1 : Int) (a : List (S35)) (b : Int) (a4 c : Bool) (d : Int) (k : Nat) : LeO (keys_asks.f k a0 a1 a b a4 c d) (keys_asks.f (k + 1) a0 a1 a b a4 c d) := by
 unfold keys_asks.f; exact LeO.bind (attr_Aid.mono _ _) (fun _ => LeO.refl _)
theorem keys_asks.callsB (k : Nat) (l : Int) (m : Int) (P : Nat → Prop) (I : Option Addr) (J : Nat) (c : List (S35)) (o : Int) (M : Bool) (q : Bool) (a1 : Int) (r1 : Int) (r2 : Int) (r3 : List (S35)) (r4 : Int) (r5 : Bool) (r6 : Bool) (r7 : Bool) (r8 : Option Er) (r9 : List S164) (w : World) (S : Kd.V k35 35 w w.heap.size (fun k_ => P k_) (.slice I c.length J) c) (h : keys_asks.f k l m c o M q a1 = some (r1, r2, r3, r4, r5, r6, r7, r8, r9)) :
  Calls Tryd.prog 64 #[.agg #[.int .i64 l, .int .i64 m, .slice I c.length J, .int .i64 o, .bool M, .bool q], .int .u8 a1] w fun e w' => ∃ W Y : Value, e = .returned (.tuple #[.agg #[.int .i64 r1, .int .i64 r2, W, .int .i64 r4, .bool r5, .bool r6], .bool r7, errW Y r8]) ∧ Aside0 (Kd.V k35 35 w' w.heap.size (fun k_ => (P k_ ∨ w.heap.size ≤ k_)) W r3 ∧ (r8 = none → Kd.R k35 35 w' w.heap.size (fun k_ => w.heap.size ≤ k_) W r3)) ∧ Aside0 (∀ ok, Kd.V k164 164 w' w.heap.size ok Y r9) ∧ Below w.heap.size w w' := by
 unfold keys_asks.f at h
 obtain ⟨t, hA, h⟩ := Option.bind_eq_some_iff.mp h
 have HA := Z hA
 have HS := Z (show Kd.V k35 35 w w.heap.size P (.slice I c.length J) c from S)
 have HB := Z (Below.refl w.heap.size w)
 have hu := Tryd.underlying24
 have ak := Tryd.underlying35
 have al := Tryd.underlying28
 clear hA S
 cases t with
 | false =>
  simp only [Bool.false_eq_true, if_false, Option.some.injEq, Prod.mk.injEq] at h
  obtain ⟨rfl, rfl, rfl, rfl, rfl, rfl, rfl, rfl, rfl⟩ := h
  go_enter Tryd.func64, Tryd.ntmps64
  go_wp2_with (first | ((with_reducible refine gate_dst (N := 2) rfl ?_); refine bx_ 2 24 #[.int .i64 l, .int .i64 m, .slice I c.length J, .int .i64 o, .bool M, .bool q] ?_; intro s hg w1 hbox hb; have r := Z (ve HS.out hg hb); have g := bs_ hb; have i := Z hbox; have j := Z (le_new hg (below_size bl_) : w.heap.size ≤ s); clear HB HS; have HS := r; have HB := g; have a := i; have T := j; clear r g i j hb hbox hg) | ((with_reducible refine gate_dst (N := 4) rfl ?_); refine bx_ 4 24 #[.int .i64 0, .int .i64 0, .slice none 0 0, .int .i64 0, .bool false, .bool false] ?_; intro K hg w2 hbox hb; have r := Z (ve HS.out hg hb); have g := kb' a hb; have i := bs_ hb; have j := Z hbox; have n := Z (le_new hg (below_size bl_) : w.heap.size ≤ K); have L := nl' a hg; clear HS a HB; have HS := r; have a := g; have HB := i; have d := j; have U := n; have NB := L; clear r g i j n L hb hbox hg; have hnb := NB.out; have hnc := NB.out.symm; obtain ⟨z0, z1, z2, z3, z4, z5, u, x, y, z, A, B⟩ := cells6 a.out; obtain ⟨C, D, E, F, G, H, p0, p1, p2, p3, p4, p5⟩ := cells6 d.out) | ((with_reducible refine gate_callee (f := 84) rfl ?_); refine goesL_ (some 9) rfl rfl Tryd.func84 (by kernel_rfl) rfl #[.int .u8 a1] rfl ag_ ?_; (with_reducible refine (attr_Aid.calls k a1 false _ HA.out).mono ?_); rintro e w3 ⟨rfl, hd⟩; refine ⟨_, rfl, ?_⟩; have hb := hd.below; clear hd; replace HS := vb' HS hb; replace a := kb' a hb; replace d := kb' d hb; replace HB := bs_ hb; clear hb z0 z1 z2 z3 z4 z5 u x y z A B C D E F G H p0 p1 p2 p3 p4 p5; obtain ⟨z0, z1, z2, z3, z4, z5, u, x, y, z, A, B⟩ := cells6 a.out; obtain ⟨C, D, E, F, G, H, p0, p1, p2, p3, p4, p5⟩ := cells6 d.out))
  refine bodyPost_ret (results_ctt rfl _ _ K 24 #[.int .i64 l, .int .i64 m, .slice I c.length J, .int .i64 o, .bool M, .bool q] (0, 0) _ rfl (put6 d.out) Tryd.underlying24 rfl (by kernel_rfl)) rfl ?_
  exact ⟨_, .slice none 0 0, rfl, (by first | exact ⟨V_off HS.out (fun _ hk => hk.2) off2_ (fun _ hk => .inl hk.1.1), fun h_ => by cases h_⟩ | exact ⟨⟨V_off HS.out (fun _ hk => hk.2) off2_ (fun _ hk => .inl hk.1.1), fun h_ => by cases h_⟩⟩ | exact ⟨V_off HS.out (fun _ hk => hk.2) off2_ (fun _ hk => .inl hk.1.1)⟩), ⟨fun _ => Kd.V_nil _ _ _ _ _⟩, bl_⟩
 | true =>
  rw [if_pos rfl] at h
  cases M with
  | true =>
   simp only [if_true, Option.some.injEq, Prod.mk.injEq] at h
   obtain ⟨rfl, rfl, rfl, rfl, rfl, rfl, rfl, rfl, rfl⟩ := h
   go_enter Tryd.func64, Tryd.ntmps64
   go_wp2_with (first | ((with_reducible refine gate_dst (N := 2) rfl ?_); refine bx_ 2 24 #[.int .i64 l, .int .i64 m, .slice I c.length J, .int .i64 o, .bool true, .bool q] ?_; intro s hg w1 hbox hb; have r := Z (ve HS.out hg hb); have g := bs_ hb; have i := Z hbox; have j := Z (le_new hg (below_size bl_) : w.heap.size ≤ s); clear HB HS; have HS := r; have HB := g; have a := i; have T := j; clear r g i j hb hbox hg) | ((with_reducible refine gate_dst (N := 4) rfl ?_); refine bx_ 4 24 #[.int .i64 0, .int .i64 0, .slice none 0 0, .int .i64 0, .bool false, .bool false] ?_; intro K hg w2 hbox hb; have r := Z (ve HS.out hg hb); have g := kb' a hb; have i := bs_ hb; have j := Z hbox; have n := Z (le_new hg (below_size bl_) : w.heap.size ≤ K); have L := nl' a hg; clear HS a HB; have HS := r; have a := g; have HB := i; have d := j; have U := n; have NB := L; clear r g i j n L hb hbox hg; have hnb := NB.out; have hnc := NB.out.symm; obtain ⟨z0, z1, z2, z3, z4, z5, u, x, y, z, A, B⟩ := cells6 a.out; obtain ⟨C, D, E, F, G, H, p0, p1, p2, p3, p4, p5⟩ := cells6 d.out) | ((with_reducible refine gate_callee (f := 84) rfl ?_); refine goesL_ (some 9) rfl rfl Tryd.func84 (by kernel_rfl) rfl #[.int .u8 a1] rfl ag_ ?_; (with_reducible refine (attr_Aid.calls k a1 true _ HA.out).mono ?_); rintro e w3 ⟨rfl, hd⟩; refine ⟨_, rfl, ?_⟩; have hb := hd.below; clear hd; replace HS := vb' HS hb; replace a := kb' a hb; replace d := kb' d hb; replace HB := bs_ hb; clear hb z0 z1 z2 z3 z4 z5 u x y z A B C D E F G H p0 p1 p2 p3 p4 p5; obtain ⟨z0, z1, z2, z3, z4, z5, u, x, y, z, A, B⟩ := cells6 a.out; obtain ⟨C, D, E, F, G, H, p0, p1, p2, p3, p4, p5⟩ := cells6 d.out))
   refine bodyPost_ret (results_ctt rfl _ _ K 24 #[.int .i64 l, .int .i64 m, .slice I c.length J, .int .i64 o, .bool true, .bool q] (0, 0) _ rfl (put6 d.out) Tryd.underlying24 rfl (by kernel_rfl)) rfl ?_
   exact ⟨_, .slice none 0 0, rfl, (by first | exact ⟨V_off HS.out (fun _ hk => hk.2) off2_ (fun _ hk => .inl hk.1.1), fun h_ => by cases h_⟩ | exact ⟨⟨V_off HS.out (fun _ hk => hk.2) off2_ (fun _ hk => .inl hk.1.1), fun h_ => by cases h_⟩⟩ | exact ⟨V_off HS.out (fun _ hk => hk.2) off2_ (fun _ hk => .inl hk.1.1)⟩), ⟨fun _ => Kd.V_nil _ _ _ _ _⟩, bl_⟩
  | false =>
   rw [if_neg (by decide)] at h
   by_cases hn : c.length ≤ 16383
   ·rw [if_pos hn] at h
    have HC := Z (show grid_Copy.f l m c o false q = some (l, m, c, o, false, q) by unfold grid_Copy.f slices_Clone_shutter_api_Cell_shutter_api_Cell.f; rw [if_pos hn]; rfl)
    clear hn
    by_cases O : a1 = 109
    ·rw [if_pos O] at h
     by_cases hp : 0 < c.length
     ·rw [if_pos hp] at h
      simp only [Option.some.injEq, Prod.mk.injEq] at h
      obtain ⟨rfl, rfl, rfl, rfl, rfl, rfl, rfl, rfl, rfl⟩ := h
      have HP := Z hp
      subst O
      clear hp
      go_enter Tryd.func64, Tryd.ntmps64
      go_wp2_with (first | ((with_reducible refine gate_dst (N := 2) rfl ?_); refine bx_ 2 24 #[.int .i64 l, .int .i64 m, .slice I c.length J, .int .i64 o, .bool false, .bool q] ?_; intro s hg w1 hbox hb; have r := Z (ve HS.out hg hb); have g := bs_ hb; have i := Z hbox; have j := Z (le_new hg (below_size bl_) : w.heap.size ≤ s); clear HB HS; have HS := r; have HB := g; have a := i; have T := j; clear r g i j hb hbox hg) | ((with_reducible refine gate_dst (N := 4) rfl ?_); refine bx_ 4 24 #[.int .i64 0, .int .i64 0, .slice none 0 0, .int .i64 0, .bool false, .bool false] ?_; intro K hg w2 hbox hb; have r := Z (ve HS.out hg hb); have g := kb' a hb; have i := bs_ hb; have j := Z hbox; have n := Z (le_new hg (below_size bl_) : w.heap.size ≤ K); have L := nl' a hg; clear HS a HB; have HS := r; have a := g; have HB := i; have d := j; have U := n; have NB := L; clear r g i j n L hb hbox hg; have hnb := NB.out; have hnc := NB.out.symm; obtain ⟨z0, z1, z2, z3, z4, z5, u, x, y, z, A, B⟩ := cells6 a.out; obtain ⟨C, D, E, F, G, H, p0, p1, p2, p3, p4, p5⟩ := cells6 d.out) | ((with_reducible refine gate_callee (f := 84) rfl ?_); refine goesL_ (some 9) rfl rfl Tryd.func84 (by kernel_rfl) rfl #[.int .u8 109] rfl ag_ ?_; (with_reducible refine (attr_Aid.calls k 109 true _ HA.out).mono ?_); rintro e w3 ⟨rfl, hd⟩; refine ⟨_, rfl, ?_⟩; have hb := hd.below; clear hd; replace HS := vb' HS hb; replace a := kb' a hb; replace d := kb' d hb; replace HB := bs_ hb; clear hb z0 z1 z2 z3 z4 z5 u x y z A B C D E F G H p0 p1 p2 p3 p4 p5; obtain ⟨z0, z1, z2, z3, z4, z5, u, x, y, z, A, B⟩ := cells6 a.out; obtain ⟨C, D, E, F, G, H, p0, p1, p2, p3, p4, p5⟩ := cells6 d.out) | ((with_reducible refine gate_callee (f := 61) rfl ?_); refine goesL_ (some 19) rfl rfl Tryd.func61 (by kernel_rfl) rfl #[.agg #[.int .i64 l, .int .i64 m, .slice I c.length J, .int .i64 o, .bool false, .bool q]] rfl ag_ ?_; (with_reducible refine (grid_Copy.calls l m _ _ c o false q l m c o false q _ ?side1 ?side2 HC.out).mono ?_); (case side1 => exact (Kd.V_reads' HS.out).2.2); (case side2 => exact (Kd.V_reads' HS.out).2.1); rintro e w4 ⟨v1, rfl, Q, hb⟩; refine ⟨_, rfl, ?_⟩; have HO := Z (Kd.R_lower Q (below_size bl_)); replace a := kb' a hb; replace d := kb' d hb; replace HB := bs_ hb; clear HS Q hb z0 z1 z2 z3 z4 z5 u x y z A B C D E F G H p0 p1 p2 p3 p4 p5; obtain ⟨z0, z1, z2, z3, z4, z5, u, x, y, z, A, B⟩ := cells6 a.out; obtain ⟨Ao, co, eo⟩ := Kd.R_slice HO.out; subst eo) | ((with_reducible refine gate_store (t := 24) (p := 2) rfl ?_); refine sx_ 24 2 ((((((w4.setCell ⟨s, 0, none⟩ (.int .i64 l)).setCell ⟨s, 1, none⟩ (.int .i64 m)).setCell ⟨s, 2, none⟩ (.slice Ao c.length co)).setCell ⟨s, 3, none⟩ (.int .i64 o)).setCell ⟨s, 4, none⟩ (.bool false)).setCell ⟨s, 5, none⟩ (.bool q)) ?_; intro w5 hw; replace HO : Aside0 (Kd.R k35 35 w5 w.heap.size (fun _ => True) (.slice Ao c.length co) c) := ⟨by rw [hw]; exact R_off HO.out a.out (by decide) off2_⟩; replace a : Aside0 (w5.heap[s]? = some (.cells #[.int .i64 l, .int .i64 m, .slice Ao c.length co, .int .i64 o, .bool false, .bool q] 24 (0, 0))) := ⟨by rw [hw]; exact put6 a.out⟩; replace d : Aside0 (w5.heap[K]? = some (.cells #[.int .i64 0, .int .i64 0, .slice none 0 0, .int .i64 0, .bool false, .bool false] 24 (0, 0))) := ⟨by rw [hw]; exact blk_off d.out NB.out.symm off2_⟩; replace HB : Aside0 (Below w.heap.size w w5) := ⟨by rw [hw]; exact bl_⟩; clear hw z0 z1 z2 z3 z4 z5 u x y z A B; obtain ⟨z0, z1, z2, z3, z4, z5, u, x, y, z, A, B⟩ := cells6 a.out; obtain ⟨C, D, E, F, G, H, p0, p1, p2, p3, p4, p5⟩ := cells6 d.out) | ((with_reducible refine gate_store (t := 4) (p := 20) rfl ?_); refine sx_ 4 20 (w5.setCell ⟨s, 4, none⟩ (.bool true)) ?_; intro w6 hw; replace HO : Aside0 (Kd.R k35 35 w6 w.heap.size (fun _ => True) (.slice Ao c.length co) c) := ⟨by rw [hw]; exact R_off HO.out a.out (by decide) off2_⟩; replace a : Aside0 (w6.heap[s]? = some (.cells #[.int .i64 l, .int .i64 m, .slice Ao c.length co, .int .i64 o, .bool true, .bool q] 24 (0, 0))) := ⟨by rw [hw]; exact blk_put (cs := #[.int .i64 l, .int .i64 m, .slice Ao c.length co, .int .i64 o, .bool false, .bool q]) a.out 4 _ rfl⟩; replace d : Aside0 (w6.heap[K]? = some (.cells #[.int .i64 0, .int .i64 0, .slice none 0 0, .int .i64 0, .bool false, .bool false] 24 (0, 0))) := ⟨by rw [hw]; exact blk_off d.out NB.out.symm off2_⟩; replace HB : Aside0 (Below w.heap.size w w6) := ⟨by rw [hw]; exact bl_⟩; clear hw z0 z1 z2 z3 z4 z5 u x y z A B C D E F G H p0 p1 p2 p3 p4 p5; obtain ⟨z0, z1, z2, z3, z4, z5, u, x, y, z, A, B⟩ := cells6 a.out; obtain ⟨C, D, E, F, G, H, p0, p1, p2, p3, p4, p5⟩ := cells6 d.out) | ((with_reducible refine gate_store (t := 4) (p := 21) rfl ?_); refine sx_ 4 21 (w6.setCell ⟨s, 5, none⟩ (.bool false)) ?_; intro w7 hw; replace HO : Aside0 (Kd.R k35 35 w7 w.heap.size (fun _ => True) (.slice Ao c.length co) c) := ⟨by rw [hw]; exact R_off HO.out a.out (by decide) off2_⟩; replace a : Aside0 (w7.heap[s]? = some (.cells #[.int .i64 l, .int .i64 m, .slice Ao c.length co, .int .i64 o, .bool true, .bool false] 24 (0, 0))) := ⟨by rw [hw]; exact blk_put (cs := #[.int .i64 l, .int .i64 m, .slice Ao c.length co, .int .i64 o, .bool true, .bool q]) a.out 5 _ rfl⟩; replace d : Aside0 (w7.heap[K]? = some (.cells #[.int .i64 0, .int .i64 0, .slice none 0 0, .int .i64 0, .bool false, .bool false] 24 (0, 0))) := ⟨by rw [hw]; exact blk_off d.out NB.out.symm off2_⟩; replace HB : Aside0 (Below w.heap.size w w7) := ⟨by rw [hw]; exact bl_⟩; clear hw z0 z1 z2 z3 z4 z5 u x y z A B C D E F G H p0 p1 p2 p3 p4 p5; obtain ⟨z0, z1, z2, z3, z4, z5, u, x, y, z, A, B⟩ := cells6 a.out; obtain ⟨C, D, E, F, G, H, p0, p1, p2, p3, p4, p5⟩ := cells6 d.out; obtain ⟨go, co', eo', gb, gl, cl, HG⟩ := Kd.R_form HO.out HP.out; (first | cases eo' | (injection eo' with ea_ en_ ec_; (first | subst ea_ | (injection ea_ with ea_; subst ea_)); subst ec_; clear en_)); have HCl := Z (clear_R HO.out c.length (Nat.le_refl _)); have HCb := Z (HB.out.grown HCl.out.2 HB.out.size (fun k_ e_ => by injection e_ with e_; rw [← e_]; exact gb)); have HZ := clear_run HO.out; clear gb gl HG) | ((with_reducible refine gate_builtin (b := .clear) (xs := #[.tmp 25]) rfl ?_); refine Kd.event_run (v := .tuple #[]) (w1 := w7.setCells go 0 (zl c.length)) rfl ?hr ?_; (case hr => (have hz_ := HZ; go_simp; first | done | rfl)); have g := Z (show Kd.R k35 35 (w7.setCells go 0 (zl c.length)) w.heap.size (fun _ => True) (.slice (some ⟨go, 0, none⟩) c.length co) (List.replicate c.length z35) by (have h_ := Kd.R_mono (ok' := fun _ => True) HCl.out.1 (fun _ _ => trivial); rw [List.drop_eq_nil_of_le (Nat.le_refl _), List.append_nil] at h_; exact h_)); have i := Z (blk_grown a.out HCl.out.2 (Kd.R_ne HO.out a.out (by decide))); have j := Z (blk_grown d.out HCl.out.2 (Kd.R_ne HO.out d.out (by decide))); have n := Z (HCb.out : Below w.heap.size w (w7.setCells go 0 (zl c.length))); generalize w7.setCells go 0 (zl c.length) = w8 at g i j n ⊢; clear HO a d HB z0 z1 z2 z3 z4 z5 u x y z A B C D E F G H p0 p1 p2 p3 p4 p5; have HO := g; have a := i; have d := j; have HB := n; clear g i j n; obtain ⟨z0, z1, z2, z3, z4, z5, u, x, y, z, A, B⟩ := cells6 a.out; obtain ⟨C, D, E, F, G, H, p0, p1, p2, p3, p4, p5⟩ := cells6 d.out) | ((with_reducible refine gate_store (t := 3) (p := 26) rfl ?_); refine sx_ 3 26 (w8.setCell ⟨s, 3, none⟩ (.int .i64 0)) ?_; intro X hw; replace HO : Aside0 (Kd.R k35 35 X w.heap.size (fun _ => True) (.slice (some ⟨go, 0, none⟩) c.length co) (List.replicate c.length z35)) := ⟨by rw [hw]; exact R_off HO.out a.out (by decide) off2_⟩; replace a : Aside0 (X.heap[s]? = some (.cells #[.int .i64 l, .int .i64 m, .slice (some ⟨go, 0, none⟩) c.length co, .int .i64 0, .bool true, .bool false] 24 (0, 0))) := ⟨by rw [hw]; exact blk_put (cs := #[.int .i64 l, .int .i64 m, .slice (some ⟨go, 0, none⟩) c.length co, .int .i64 o, .bool true, .bool false]) a.out 3 _ rfl⟩; replace d : Aside0 (X.heap[K]? = some (.cells #[.int .i64 0, .int .i64 0, .slice none 0 0, .int .i64 0, .bool false, .bool false] 24 (0, 0))) := ⟨by rw [hw]; exact blk_off d.out NB.out.symm off2_⟩; replace HB : Aside0 (Below w.heap.size w X) := ⟨by rw [hw]; exact bl_⟩; clear hw z0 z1 z2 z3 z4 z5 u x y z A B C D E F G H p0 p1 p2 p3 p4 p5; obtain ⟨z0, z1, z2, z3, z4, z5, u, x, y, z, A, B⟩ := cells6 a.out; obtain ⟨C, D, E, F, G, H, p0, p1, p2, p3, p4, p5⟩ := cells6 d.out))
      refine bodyPost_ret (results_ctt rfl _ _ K 24 #[.int .i64 l, .int .i64 m, .slice (some ⟨go, 0, none⟩) c.length co, .int .i64 0, .bool true, .bool false] (0, 0) _ rfl (put6 d.out) Tryd.underlying24 rfl (by kernel_rfl)) rfl ?_
      (have HO := HO; exact ⟨_, .slice none 0 0, rfl, ⟨⟨Kd.V_mono (Kd.R_V (Kd.R_reok (ok := fun k_ => w.heap.size ≤ k_) rfl (R_off HO.out d.out (by decide) off2_) (fun k_ e_ => Kd.R_base (R_off HO.out d.out (by decide) off2_) k_ e_))) (fun _ hk => .inr hk), by first | exact fun _ => Kd.R_reok (ok := fun k_ => w.heap.size ≤ k_) rfl (R_off HO.out d.out (by decide) off2_) (fun k_ e_ => Kd.R_base (R_off HO.out d.out (by decide) off2_) k_ e_) | exact Kd.R_reok (ok := fun k_ => w.heap.size ≤ k_) rfl (R_off HO.out d.out (by decide) off2_) (fun k_ e_ => Kd.R_base (R_off HO.out d.out (by decide) off2_) k_ e_)⟩⟩, ⟨fun _ => Kd.V_nil _ _ _ _ _⟩, bl_⟩)
     ·rw [if_neg hp] at h; cases h
    ·rw [if_neg O] at h
     simp only [Option.some.injEq, Prod.mk.injEq] at h
     obtain ⟨rfl, rfl, rfl, rfl, rfl, rfl, rfl, rfl, rfl⟩ := h
     have aj : (a1 == 109) = false := beq_eq_false_iff_ne.mpr O
     clear O
     go_enter Tryd.func64, Tryd.ntmps64
     go_wp2_with (first | ((with_reducible refine gate_dst (N := 2) rfl ?_); refine bx_ 2 24 #[.int .i64 l, .int .i64 m, .slice I c.length J, .int .i64 o, .bool false, .bool q] ?_; intro s hg w1 hbox hb; have r := Z (ve HS.out hg hb); have g := bs_ hb; have i := Z hbox; have j := Z (le_new hg (below_size bl_) : w.heap.size ≤ s); clear HB HS; have HS := r; have HB := g; have a := i; have T := j; clear r g i j hb hbox hg) | ((with_reducible refine gate_dst (N := 4) rfl ?_); refine bx_ 4 24 #[.int .i64 0, .int .i64 0, .slice none 0 0, .int .i64 0, .bool false, .bool false] ?_; intro K hg w2 hbox hb; have r := Z (ve HS.out hg hb); have g := kb' a hb; have i := bs_ hb; have j := Z hbox; have n := Z (le_new hg (below_size bl_) : w.heap.size ≤ K); have L := nl' a hg; clear HS a HB; have HS := r; have a := g; have HB := i; have d := j; have U := n; have NB := L; clear r g i j n L hb hbox hg; have hnb := NB.out; have hnc := NB.out.symm; obtain ⟨z0, z1, z2, z3, z4, z5, u, x, y, z, A, B⟩ := cells6 a.out; obtain ⟨C, D, E, F, G, H, p0, p1, p2, p3, p4, p5⟩ := cells6 d.out) | ((with_reducible refine gate_callee (f := 84) rfl ?_); refine goesL_ (some 9) rfl rfl Tryd.func84 (by kernel_rfl) rfl #[.int .u8 a1] rfl ag_ ?_; (with_reducible refine (attr_Aid.calls k a1 true _ HA.out).mono ?_); rintro e w3 ⟨rfl, hd⟩; refine ⟨_, rfl, ?_⟩; have hb := hd.below; clear hd; replace HS := vb' HS hb; replace a := kb' a hb; replace d := kb' d hb; replace HB := bs_ hb; clear hb z0 z1 z2 z3 z4 z5 u x y z A B C D E F G H p0 p1 p2 p3 p4 p5; obtain ⟨z0, z1, z2, z3, z4, z5, u, x, y, z, A, B⟩ := cells6 a.out; obtain ⟨C, D, E, F, G, H, p0, p1, p2, p3, p4, p5⟩ := cells6 d.out) | ((with_reducible refine gate_callee (f := 61) rfl ?_); refine goesL_ (some 19) rfl rfl Tryd.func61 (by kernel_rfl) rfl #[.agg #[.int .i64 l, .int .i64 m, .slice I c.length J, .int .i64 o, .bool false, .bool q]] rfl ag_ ?_; (with_reducible refine (grid_Copy.calls l m _ _ c o false q l m c o false q _ ?side1 ?side2 HC.out).mono ?_); (case side1 => exact (Kd.V_reads' HS.out).2.2); (case side2 => exact (Kd.V_reads' HS.out).2.1); rintro e w4 ⟨v1, rfl, Q, hb⟩; refine ⟨_, rfl, ?_⟩; have HO := Z (Kd.R_lower Q (below_size bl_)); replace a := kb' a hb; replace d := kb' d hb; replace HB := bs_ hb; clear HS Q hb z0 z1 z2 z3 z4 z5 u x y z A B C D E F G H p0 p1 p2 p3 p4 p5; obtain ⟨z0, z1, z2, z3, z4, z5, u, x, y, z, A, B⟩ := cells6 a.out; obtain ⟨Ao, co, eo⟩ := Kd.R_slice HO.out; subst eo) | ((with_reducible refine gate_store (t := 24) (p := 2) rfl ?_); refine sx_ 24 2 ((((((w4.setCell ⟨s, 0, none⟩ (.int .i64 l)).setCell ⟨s, 1, none⟩ (.int .i64 m)).setCell ⟨s, 2, none⟩ (.slice Ao c.length co)).setCell ⟨s, 3, none⟩ (.int .i64 o)).setCell ⟨s, 4, none⟩ (.bool false)).setCell ⟨s, 5, none⟩ (.bool q)) ?_; intro w5 hw; replace HO : Aside0 (Kd.R k35 35 w5 w.heap.size (fun _ => True) (.slice Ao c.length co) c) := ⟨by rw [hw]; exact R_off HO.out a.out (by decide) off2_⟩; replace a : Aside0 (w5.heap[s]? = some (.cells #[.int .i64 l, .int .i64 m, .slice Ao c.length co, .int .i64 o, .bool false, .bool q] 24 (0, 0))) := ⟨by rw [hw]; exact put6 a.out⟩; replace d : Aside0 (w5.heap[K]? = some (.cells #[.int .i64 0, .int .i64 0, .slice none 0 0, .int .i64 0, .bool false, .bool false] 24 (0, 0))) := ⟨by rw [hw]; exact blk_off d.out NB.out.symm off2_⟩; replace HB : Aside0 (Below w.heap.size w w5) := ⟨by rw [hw]; exact bl_⟩; clear hw z0 z1 z2 z3 z4 z5 u x y z A B; obtain ⟨z0, z1, z2, z3, z4, z5, u, x, y, z, A, B⟩ := cells6 a.out; obtain ⟨C, D, E, F, G, H, p0, p1, p2, p3, p4, p5⟩ := cells6 d.out) | ((with_reducible refine gate_store (t := 4) (p := 20) rfl ?_); refine sx_ 4 20 (w5.setCell ⟨s, 4, none⟩ (.bool true)) ?_; intro w6 hw; replace HO : Aside0 (Kd.R k35 35 w6 w.heap.size (fun _ => True) (.slice Ao c.length co) c) := ⟨by rw [hw]; exact R_off HO.out a.out (by decide) off2_⟩; replace a : Aside0 (w6.heap[s]? = some (.cells #[.int .i64 l, .int .i64 m, .slice Ao c.length co, .int .i64 o, .bool true, .bool q] 24 (0, 0))) := ⟨by rw [hw]; exact blk_put (cs := #[.int .i64 l, .int .i64 m, .slice Ao c.length co, .int .i64 o, .bool false, .bool q]) a.out 4 _ rfl⟩; replace d : Aside0 (w6.heap[K]? = some (.cells #[.int .i64 0, .int .i64 0, .slice none 0 0, .int .i64 0, .bool false, .bool false] 24 (0, 0))) := ⟨by rw [hw]; exact blk_off d.out NB.out.symm off2_⟩; replace HB : Aside0 (Below w.heap.size w w6) := ⟨by rw [hw]; exact bl_⟩; clear hw z0 z1 z2 z3 z4 z5 u x y z A B C D E F G H p0 p1 p2 p3 p4 p5; obtain ⟨z0, z1, z2, z3, z4, z5, u, x, y, z, A, B⟩ := cells6 a.out; obtain ⟨C, D, E, F, G, H, p0, p1, p2, p3, p4, p5⟩ := cells6 d.out) | ((with_reducible refine gate_store (t := 4) (p := 21) rfl ?_); refine sx_ 4 21 (w6.setCell ⟨s, 5, none⟩ (.bool false)) ?_; intro w7 hw; replace HO : Aside0 (Kd.R k35 35 w7 w.heap.size (fun _ => True) (.slice Ao c.length co) c) := ⟨by rw [hw]; exact R_off HO.out a.out (by decide) off2_⟩; replace a : Aside0 (w7.heap[s]? = some (.cells #[.int .i64 l, .int .i64 m, .slice Ao c.length co, .int .i64 o, .bool true, .bool false] 24 (0, 0))) := ⟨by rw [hw]; exact blk_put (cs := #[.int .i64 l, .int .i64 m, .slice Ao c.length co, .int .i64 o, .bool true, .bool q]) a.out 5 _ rfl⟩; replace d : Aside0 (w7.heap[K]? = some (.cells #[.int .i64 0, .int .i64 0, .slice none 0 0, .int .i64 0, .bool false, .bool false] 24 (0, 0))) := ⟨by rw [hw]; exact blk_off d.out NB.out.symm off2_⟩; replace HB : Aside0 (Below w.heap.size w w7) := ⟨by rw [hw]; exact bl_⟩; clear hw z0 z1 z2 z3 z4 z5 u x y z A B C D E F G H p0 p1 p2 p3 p4 p5; obtain ⟨z0, z1, z2, z3, z4, z5, u, x, y, z, A, B⟩ := cells6 a.out; obtain ⟨C, D, E, F, G, H, p0, p1, p2, p3, p4, p5⟩ := cells6 d.out))
     refine bodyPost_ret (results_ctt rfl _ _ K 24 #[.int .i64 l, .int .i64 m, .slice Ao c.length co, .int .i64 o, .bool true, .bool false] (0, 0) _ rfl (put6 d.out) Tryd.underlying24 rfl (by kernel_rfl)) rfl ?_
     exact ⟨_, .slice none 0 0, rfl, ⟨⟨Kd.V_mono (Kd.R_V (Kd.R_reok (ok := fun k_ => w.heap.size ≤ k_) rfl (R_off HO.out d.out (by decide) off2_) (fun k_ e_ => Kd.R_base (R_off HO.out d.out (by decide) off2_) k_ e_))) (fun _ hk => .inr hk), by first | exact fun _ => Kd.R_reok (ok := fun k_ => w.heap.size ≤ k_) rfl (R_off HO.out d.out (by decide) off2_) (fun k_ e_ => Kd.R_base (R_off HO.out d.out (by decide) off2_) k_ e_) | exact Kd.R_reok (ok := fun k_ => w.heap.size ≤ k_) rfl (R_off HO.out d.out (by decide) off2_) (fun k_ e_ => Kd.R_base (R_off HO.out d.out (by decide) off2_) k_ e_)⟩⟩, ⟨fun _ => Kd.V_nil _ _ _ _ _⟩, bl_⟩
   ·rw [if_neg hn] at h; cases h
theorem keys_asks.calls (k : Nat) (d : Int) (g : Int) (a : Nat → Prop) (c : Option Addr) (m : Nat) (b : List (S35)) (i : Int) (j : Bool) (l : Bool) (a1 : Int) (q : Int) (r : Int) (s : List (S35)) (t : Int) (u : Bool) (v : Bool) (x : Bool) (r8 : Option Er) (r9 : List S164) (w : World) (n : Kd.V k35 35 w w.heap.size (fun k_ => a k_) (.slice c b.length m) b) (h : keys_asks.f k d g b i j l a1 = some (q, r, s, t, u, v, x, r8, r9)) :
  Calls Tryd.prog 64 #[.agg #[.int .i64 d, .int .i64 g, .slice c b.length m, .int .i64 i, .bool j, .bool l], .int .u8 a1] w fun e w' => ∃ o p : Value, e = .returned (.tuple #[.agg #[.int .i64 q, .int .i64 r, o, .int .i64 t, .bool u, .bool v], .bool x, errW p r8]) ∧ Kd.V k35 35 w' w.heap.size (fun k_ => (a k_ ∨ w.heap.size ≤ k_)) o s ∧ Kd.V k164 164 w' w.heap.size (fun k_ => (a k_ ∨ w.heap.size ≤ k_)) p r9 ∧ Below w.heap.size w w' := by
 refine (keys_asks.callsB k d g a c m b i j l a1 q r s t u v x r8 r9 w n h).mono ?_
 rintro e w' ⟨A, B, he, y, z, hb⟩
 exact ⟨A, B, he, y.out.1, z.out _, hb⟩
theorem keys_asks.callsN (k : Nat) (d : Int) (g : Int) (b : Nat → Prop) (c : Option Addr) (m : Nat) (a : List (S35)) (i : Int) (j : Bool) (l : Bool) (a1 : Int) (q : Int) (r : Int) (s : List (S35)) (t : Int) (u : Bool) (v : Bool) (x : Bool) (r9 : List S164) (w : World) (o : Kd.V k35 35 w w.heap.size (fun k_ => b k_) (.slice c a.length m) a) (h : keys_asks.f k d g a i j l a1 = some (q, r, s, t, u, v, x, (none : Option Er), r9)) :
  Calls Tryd.prog 64 #[.agg #[.int .i64 d, .int .i64 g, .slice c a.length m, .int .i64 i, .bool j, .bool l], .int .u8 a1] w fun e w' => ∃ n p : Value, e = .returned (.tuple #[.agg #[.int .i64 q, .int .i64 r, n, .int .i64 t, .bool u, .bool v], .bool x, errW p (none : Option Er)]) ∧ Kd.R k35 35 w' w.heap.size (fun k_ => (w.heap.size ≤ k_)) n s ∧ Kd.V k164 164 w' w.heap.size (fun k_ => (b k_ ∨ w.heap.size ≤ k_) ∧ some k_ ≠ (n : Value).ownBlock) p r9 ∧ Below w.heap.size w w' := by
 refine (keys_asks.callsB k d g b c m a i j l a1 q r s t u v x none r9 w o h).mono ?_
 rintro e w' ⟨A, B, he, y, z, hb⟩
 exact ⟨A, B, he, y.out.2 rfl, z.out _, hb⟩
end

/-! ### move_Moves: function 85 -/
def move_Moves.f (a0 : Int) : Option (Bool) := if a0 ≥ 2 then (some (decide (a0 ≤ 9))) else (some false)
theorem move_Moves.calls (a0 : Int) (r : Bool) (w : World) (h : move_Moves.f a0 = some r) :
  Calls Tryd.prog 85 #[.int .i64 a0] w fun e w' => e = .returned (.bool r) ∧ Drawn0 w w' := by
 have H : (if a0 ≥ 2 then (some (decide (a0 ≤ 9))) else (some false)) = some r := h
 clear h
 by_cases c2 : a0 ≥ 2
 ·rw [if_pos c2] at H
  have a : decide (2 ≤ a0) = true := decide_eq_true c2
  clear c2
  obtain rfl := Option.some.inj H
  go_enter Tryd.func85, Tryd.ntmps85
  go_wp2
  go_ret
  exact ⟨dn_, dr_⟩
 ·rw [if_neg c2] at H
  have a : decide (2 ≤ a0) = false := decide_eq_false c2
  clear c2
  obtain rfl := Option.some.inj H
  go_enter Tryd.func85, Tryd.ntmps85
  go_wp2
  go_ret
  exact ⟨dn_, dr_⟩

/-! ### field_Prev: function 101 -/
section
open Go.Shelf
def field_Prev.f (b : Int) (c : Int) (a : List (S35)) (d : Int) (e : Bool) (g : Bool) (a1 : Int) : Option Int := if a.length ≤ 16383 then (if 0 ≤ a1 then (if a1 < (a.length : Int) then (some (prevI a a1)) else (none)) else (none)) else (none)
theorem field_Prev.calls (b : Int) (c : Int) (k : Option Addr) (j : Nat) (a : List (S35)) (d : Int) (g : Bool) (i : Bool) (a1 : Int) (r : Int) (w : World) (l : Kd.C k35 w k a.length a) (m : a.length ≤ j) (h : field_Prev.f b c a d g i a1 = some r) :
  Calls Tryd.prog 101 #[.agg #[.int .i64 b, .int .i64 c, .slice k a.length j, .int .i64 d, .bool g, .bool i], .int .i64 a1] w fun e w' => e = .returned (.int .i64 r) ∧ Below w.heap.size w w' := by
 obtain ⟨hn, n, o, rfl⟩ := guard3 h
 clear h
 have p := Tryd.underlying24
 have HF := Z (four_facts w (.cells #[.int .i64 b, .int .i64 c, .slice k a.length j, .int .i64 d, .bool g, .bool i] 24) (.cells #[.int .i64 b, .int .i64 c, .slice k a.length j, .int .i64 d, .bool g, .bool i] 24) (.cells #[.int .i64 a1] 3) (.cells #[.int .i64 (-2)] 3))
 have HR := Z l
 clear l
 go_enter Tryd.func101, Tryd.ntmps101
 go_wp2
 go_region_with (first
  | (go_at_call 75; refine (Round_exact b c _ _ j d g i a1 (-2) _).mono ?_; rintro e w' ⟨rfl, rfl⟩)
  | (go_at_call 89; refine (First_calls b c _ j a d g i a1 (-2) _ _ _ _ ?_ m hn n o ?_ ?_ ?_).mono ?_; exact Kd.C_below HR.out HF.out.1.drew; exact HF.out.2.1; exact HF.out.2.2.1; exact HF.out.2.2.2; rintro e w' ⟨rfl, hb⟩))
 all_goals
  go_wp2
  go_ret
  exact ⟨rfl, below_step HF.out.1.drew hb⟩
end

/-! ### grid_Span: function 103 -/
def grid_Span.l0 : Nat → Int → List Int → Int → Int → Int → List (S35) → Int → Bool → Bool → Option (List Int)
 | 0, _, _, _, _, _, _, _, _, _ => none
 | k + 1, l, h, j, b, c, a, d, e, g => if j = l then (some h) else (if (h.length : Int) < (a.length : Int) then (if h.length < 17592186044416 then ((grid_On.f b c a d e g j 1).bind fun i => (grid_Span.l0 k l (h ++ [j]) i b c a d e g)) else (none)) else (some h))
def grid_Span.f (k : Nat) (a : Int) (b : Int) (g : List (S35)) (c : Int) (d : Bool) (e : Bool) (a1 : Int) (i : Int) : Option (List Int) := (grid_On.f a b g c d e a1 1).bind fun h => (grid_Span.l0 k i (([a1] : List Int)) h a b g c d e)
theorem grid_Span.mono_l : ∀ k, (∀ b c d e f g i j l, LeO (grid_Span.l0 k b c d e f g i j l) (grid_Span.l0 (k + 1) b c d e f g i j l))
 | 0 => fun _ _ _ _ _ _ _ _ _ r h => by simp [grid_Span.l0] at h
 | k + 1 => by
  have a := grid_Span.mono_l k
  ·intro b c d e f g i j l
   unfold grid_Span.l0
   repeat' first
   | (with_reducible exact a _ _ _ _ _ _ _ _ _)
   | (with_reducible exact LeO.refl _)
   | (with_reducible exact LeO.none _)
   | (with_reducible refine LeO.ite ?_ ?_)
   | (with_reducible refine LeO.bind ?_ (fun _ => ?_))
   | exact a _ _ _ _ _ _ _ _ _
   | exact LeO.none _
   | refine LeO.ite ?_ ?_
   | refine LeO.bind ?_ (fun _ => ?_)
theorem grid_Span.mono : ∀ a0 a1 b c a4 d e g k, LeO (grid_Span.f k a0 a1 b c a4 d e g) (grid_Span.f (k + 1) a0 a1 b c a4 d e g) := by
 intro a0 a1 b c a4 d e g k
 have a := grid_Span.mono_l k
 unfold grid_Span.f
 repeat' first
   | (with_reducible exact a _ _ _ _ _ _ _ _ _)
   | (with_reducible exact LeO.refl _)
   | (with_reducible exact LeO.none _)
   | (with_reducible refine LeO.ite ?_ ?_)
   | (with_reducible refine LeO.bind ?_ (fun _ => ?_))
   | exact a _ _ _ _ _ _ _ _ _
   | exact LeO.none _
   | refine LeO.ite ?_ ?_
   | refine LeO.bind ?_ (fun _ => ?_)
theorem grid_Span.calls (k : Nat) (d : Int) (i : Int) (z : Option Addr) (A : Nat) (c : List (S35)) (j : Int) (l : Bool) (m : Bool) (a1 : Int) (G : Int) (r : List Int) (w : World) (V : Kd.C k35 w z c.length c) (U : c.length ≤ A) (h : grid_Span.f k d i c j l m a1 G = some r) :
  Calls Tryd.prog 103 #[.agg #[.int .i64 d, .int .i64 i, .slice z c.length A, .int .i64 j, .bool l, .bool m], .int .i64 a1, .int .i64 G] w fun e w' => ∃ av : Value, e = .returned (av) ∧ Kd.R (Kd.int .i64) 3 w' w.heap.size (fun _ => True) av r ∧ Below w.heap.size w w' := by
 have br := Tryd.underlying24
 have S := Z V
 have Q := Z U
 clear V U
 have HB := Z (Below.refl w.heap.size w)
 have H : ((grid_On.f d i c j l m a1 1).bind fun v => (grid_Span.l0 k G (([a1] : List Int)) v d i c j l m)) = some r := h
 clear h
 obtain ⟨K, x⟩ : ∃ y_ : List Int, y_ = (([a1] : List Int)) := ⟨_, rfl⟩
 replace H : ((grid_On.f d i c j l m a1 1).bind fun v => (grid_Span.l0 k G K v d i c j l m)) = some r := by first | (rw [x]; with_reducible exact H) | (have J := (Option.bind_some _ _).symm.trans H; rw [x]; with_reducible exact J) | (have J := (Option.bind_some _ _).symm.trans H; with_reducible exact J) | with_reducible exact H | (rw [x]; exact H) | exact H
 have O := Z x
 clear x
 replace H := Option.bind_eq_some_iff.mp H
 obtain ⟨v, aq, H⟩ := H
 replace H : (grid_Span.l0 k G K v d i c j l m) = some r := H
 have A4 := Z aq
 clear aq
 have H' := Z H
 clear H
 go_enter Tryd.func103, Tryd.ntmps103
 go_wp2_with (first | ((with_reducible refine gate_dst (N := 3) rfl ?_); (try (refine gate_guard (by rfl) ?_; dsimp only)); refine bx_ 3 24 #[.int .i64 d, .int .i64 i, .slice z c.length A, .int .i64 j, .bool l, .bool m] ?_; intro E hg w5 hbox hb; have a := Z (hbox); have bk := Z (ln_ hg : w.heap.size ≤ E); have bj := bk; replace HB := bs_ hb; clear hb hbox hg) | ((with_reducible refine gate_dst (N := 10) rfl ?_); (try (refine gate_guard (by rfl) ?_; dsimp only)); refine Kd.R_lit (Kd.int .i64) _ 3 ?hg (N := 10) ?hd (xs := ([a1] : List Int)) (inner := [.int .i64 a1]) (ok := fun _ => True) (okp := fun _ => True) ?hr ?hp (fun _ hk => hk) trivial (Below.refl _ _) (Nat.le_refl _) (by simp) ?_; (case hd => rfl); (case hg => rfl); (case hr => first | (go_simp; done) | (go_simp; rfl)); (case hp => exact (Reps.one (show Kd.M (Kd.int .i64) _ _ _ a1 [.int .i64 a1] from rfl) (Reps.none _ _))); intro bm w6 P hb hg_ hnew_; clear hg_ hnew_; (first | rw [← O.out] at P | (simp only [Int.reduceToNat] at P; rw [← O.out] at P)); have B := Z (Kd.R_lower P (below_size bl_)); replace a := kb' a hb; replace HB := bs_ hb; clear hb P; obtain ⟨Y, aa, ab, ac, ad, ae, af, ag, ah, ai, aj, ak⟩ := cells6 a.out) | ((with_reducible refine gate_callee (f := 80) rfl ?_); refine goesL_ (some 13) rfl rfl Tryd.func80 (by kernel_rfl) rfl #[.agg #[.int .i64 d, .int .i64 i, .slice z c.length A, .int .i64 j, .bool l, .bool m], .int .i64 a1, .int .i64 1] rfl ag_ ?_; (with_reducible refine (grid_On.calls d i _ _ c j l m a1 1 v _ ?side1 ?side2 A4.out).mono ?_); (case side1 => repeat (first | exact (Kd.C_below S.out HB.out) | (with_reducible apply pC))); (case side2 => exact Q.out); rintro e w9 ⟨rfl, hb⟩; refine ⟨_, rfl, ?_⟩; replace B := rb' B hb; replace a := kb' a hb; replace HB := bs_ hb; clear hb))
 go_loopg [7, 8] k (fun kq v7 v8 w' => ∃ (p : List Int) (n : Int), v8 = .int .i64 n ∧ Aside0 (grid_Span.l0 kq G p n d i c j l m = some r) ∧ Aside0 (kq ≤ k) ∧ Aside0 (Kd.R (Kd.int .i64) 3 w' w.heap.size (fun _ => True) v7 p) ∧ Aside0 (w'.heap[E]? = some (.cells #[.int .i64 d, .int .i64 i, (.slice z c.length A), .int .i64 j, .bool l, .bool m] 24 (0, 0))) ∧ Aside0 (Below w.heap.size w w'))
 case atStart => exact ⟨(K), (v), (dn_), H', ⟨Nat.le_refl _⟩, ⟨by (with_reducible repeat apply pR); exact B.out⟩, ⟨vK a.out⟩, ⟨bl_⟩⟩
 case round =>
  clear H'
  clear Y aa ab ac ad ae af ag ah ai aj ak
  obtain ⟨p, n, rfl, HA, ar, HO_7, a, HB⟩ := hrel
  cases gk with
  | zero => exact absurd HA.out (by simp [grid_Span.l0])
  | succ k1 =>
   have H := HA.out
   clear HA
   simp only [grid_Span.l0] at H
   by_cases c10 : n = G
   ·rw [if_pos c10] at H
    obtain ⟨am, an⟩ := eT_ c10
    clear c10
    obtain rfl := Option.some.inj H
    go_wp2
    go_ret
    exact ⟨_, er_, by (with_reducible repeat apply pR); exact HO_7.out, bl_⟩
   ·rw [if_neg c10] at H
    obtain ⟨am, an⟩ := eF_ c10
    by_cases I : (p.length : Int) < (c.length : Int)
    ·rw [if_pos I] at H
     have ao : decide ((p.length : Int) < (c.length : Int)) = true := decide_eq_true I
     have ap : decide (p.length < c.length) = true := decide_eq_true (Int.ofNat_lt.mp I)
     clear I
     by_cases T : p.length < 17592186044416
     ·rw [if_pos T] at H
      have al := Z T
      clear T
      obtain ⟨L, y⟩ : ∃ y_ : List Int, y_ = (p ++ [n]) := ⟨_, rfl⟩
      replace H : ((grid_On.f d i c j l m n 1).bind fun F => (grid_Span.l0 k1 G L F d i c j l m)) = some r := by first | (rw [y]; with_reducible exact H) | (have J := (Option.bind_some _ _).symm.trans H; rw [y]; with_reducible exact J) | (have J := (Option.bind_some _ _).symm.trans H; with_reducible exact J) | with_reducible exact H | (rw [y]; exact H) | exact H
      have X := Z y
      clear y
      replace H := Option.bind_eq_some_iff.mp H
      obtain ⟨F, W, H⟩ := H
      replace H : (grid_Span.l0 k1 G L F d i c j l m) = some r := H
      have bi := Z W
      clear W
      have H' := Z H
      clear H
      obtain ⟨aw, ax, ay⟩ := Kd.R_slice HO_7.out
      subst ay
      obtain ⟨aA, aC, aD, aE, aG, aH, aY, aZ, a0, a3, a4, a5⟩ := cells6 a.out
      go_wp2_with (first | ((with_reducible refine gate_builtin (b := .append) (xs := #[.tmp 28, .tmp 30]) rfl ?_); (try (refine gate_guard (by rfl) ?_; dsimp only)); at_builtin; refine Kd.R_append (Kd.int .i64) (w0 := w) w.heap.size rfl (.tmp 28) (.tmp 30) 41 3 (.int .i64 0) 8 rfl Tryd.underlying41 info3 rfl (by decide) (by omega) (.slice aw p.length ax) p n [.int .i64 n] (fun _ => True) (fun _ => False) rfl rfl ?aP (fun _ hk => hk.elim) ?aF ?aO ?aB ?aS ?aL ?_; (case aP => exact rfl); (case aB => exact bl_); (case aF => exact (fun _ _ => trivial)); (case aO => exact (by (with_reducible repeat apply pR); exact HO_7.out)); (case aS => exact (below_size bl_)); (case aL => have := al.out; omega); intro bn bu ho hb hg hat; rw [← X.out] at ho; replace a := Z (blk_grown (g := E) (o := .cells #[.int .i64 d, .int .i64 i, .slice z c.length A, .int .i64 j, .bool l, .bool m] 24 (0, 0)) (vK a.out) hg (Kd.R_ne HO_7.out a.out (by decide))); replace HB := Z (hb); have D := Z (ho); clear HO_7; clear ho hb hg hat; obtain ⟨aI, aJ, aK, aM, aN, aQ, a6, a7, a8, a9, ba, bb⟩ := cells6 a.out) | ((with_reducible refine gate_callee (f := 80) rfl ?_); refine goesL_ (some 27) rfl rfl Tryd.func80 (by kernel_rfl) rfl #[.agg #[.int .i64 d, .int .i64 i, .slice z c.length A, .int .i64 j, .bool l, .bool m], .int .i64 n, .int .i64 1] rfl ag_ ?_; (with_reducible refine (grid_On.calls d i _ _ c j l m n 1 F _ ?side1 ?side2 bi.out).mono ?_); (case side1 => repeat (first | exact (Kd.C_below S.out HB.out) | (with_reducible apply pC))); (case side2 => exact Q.out); rintro e bv ⟨rfl, hb⟩; refine ⟨_, rfl, ?_⟩; replace D := rb' D hb; replace a := kb' a hb; replace HB := bs_ hb; clear hb))
      go_roundg k1
      case measure => have := ar.out; omega
      case rel => exact ⟨(L), (F), (dn_), H', ⟨by have := ar.out; omega⟩, ⟨by (with_reducible repeat apply pR); exact D.out⟩, ⟨vK a.out⟩, ⟨bl_⟩⟩
     ·rw [if_neg T] at H
      exact absurd H (by simp)
    ·rw [if_neg I] at H
     have ao : decide ((p.length : Int) < (c.length : Int)) = false := decide_eq_false I
     have ap : decide (p.length < c.length) = false := decide_eq_false (fun h => I (Int.ofNat_lt.mpr h))
     clear I
     obtain rfl := Option.some.inj H
     obtain ⟨bp, bq, az⟩ := Kd.R_slice HO_7.out
     subst az
     obtain ⟨aR, aT, aU, aV, aW, aX, bc, bd, be, bf, bg, bh⟩ := cells6 a.out
     go_wp2
     go_ret
     exact ⟨_, er_, by (with_reducible repeat apply pR); exact HO_7.out, bl_⟩

end Go.Proofs.YtggecanpjkpkiaaDoor.P
