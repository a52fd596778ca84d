/- pp.py and press2.py (wip/tools) wrote this text. -/
import Derived.Test.YtgboplhcjhlabaaDoorPx0
import Derived.Test.YtgboplhcjhlabaaDoorPxS
import Derived.Test.YtgboplhcjhlabaaDoorPx0L
import Derived.Test.YtgboplhcjhlabaaDoorPx4
import Derived.Test.YtgboplhcjhlabaaDoorPx5
import Derived.Test.YtgboplhcjhlabaaDoorPx6
import Derived.Test.YtgboplhcjhlabaaDoorPx13
import Derived.Test.YtgboplhcjhlabaaDoorPx16
import Derived.Test.YtgboplhcjhlabaaDoorPx16N
import Derived.Test.YtgboplhcjhlabaaDoorPx17
import Derived.Test.YtgboplhcjhlabaaDoorPx17L
import Derived.Test.YtgboplhcjhlabaaDoorPx19
namespace Go.Proofs.YtgboplhcjhlabaaDoor.P
open Go.RowKit Go.Proofs.YtgboplhcjhlabaaDoorW.PrintWords Go.Proofs.YtgboplhcjhlabaaDoorW.PrintLast Go.Proofs.YtgboplhcjhlabaaDoorW.PrintMore
attribute [local go_sem] max2_int min2_int max_two min_two max_three min_three max_four min_four
attribute [local go_sem] Instr.field asAgg
set_option linter.unusedVariables false
set_option linter.unusedSimpArgs false

/-! ### shutterlaw13_HostKeeps: function 11 -/
mutual
def shutterlaw13_HostKeeps.j0 : Nat → Bool → Int → Int → List (S44) → Int → Bool → Bool → Int → Bool → Bool → Bool → List (S30) → Option (Bool)
 | 0, _, _, _, _, _, _, _, _, _, _, _, _ => none
 | k + 1, s, b, c, d, e, g, h, l, m, n, o, p => if s = true then ((shutterlaw13_awake.f k).bind fun q => (some q)) else ((shutterref10_Copy.f b c d e g h).bind fun a => ((host_Do.f k b c d e g h l m n o p).bind fun i => (if i.2.2.2.2.2.2.1.isNone = true then ((host_Reset.f b c d e g h true).bind fun j => (shutterlaw13_HostKeeps.l0 k 0 b c d e g h a.1 a.2.1 a.2.2.1 a.2.2.2.1 a.2.2.2.2.1 a.2.2.2.2.2 i.1 i.2.1 i.2.2.1 i.2.2.2.1 i.2.2.2.2.1 i.2.2.2.2.2.1 j.1 j.2.1 j.2.2.1 j.2.2.2.1 j.2.2.2.2.1 j.2.2.2.2.2)) else ((shutterref10_Same.f k b c d e g h a.1 a.2.1 a.2.2.1 a.2.2.2.1 a.2.2.2.2.1 a.2.2.2.2.2).bind fun r => (some r)))))
def shutterlaw13_HostKeeps.l0 : Nat → Int → Int → Int → List (S44) → Int → Bool → Bool → Int → Int → List (S44) → Int → Bool → Bool → Int → Int → List (S44) → Int → Bool → Bool → Int → Int → List (S44) → Int → Bool → Bool → Option (Bool)
 | 0, _, _, _, _, _, _, _, _, _, _, _, _, _, _, _, _, _, _, _, _, _, _, _, _, _ => none
 | k + 1, A, a, b, c, d, e, g, h, i, j, l, m, n, q, r, o, s, t, u, v, w, p, x, y, z => if A < (o.length : Int) then (if 0 ≤ A then (if A < (p.length : Int) then (shutterlaw13_HostKeeps.l0 k (wrap64 (A + 1)) a b c d e g h i j l m n q r (o.set (A : Int).toNat (⟨false, (⟨false, false, 0, false⟩ : S28), 7⟩ : S44)) s t u v w (p.set (A : Int).toNat (⟨false, (⟨false, false, 0, false⟩ : S28), 7⟩ : S44)) x y z) else (none)) else (none)) else ((shutterref10_Same.f k a b c d e g h i j l m n).bind fun B => (some B))
end
def shutterlaw13_HostKeeps.f (k : Nat) (a : Int) (b : Int) (l : List (S44)) (c : Int) (d : Bool) (e : Bool) (g : Int) (h : Bool) (i : Bool) (j : Bool) (m : List (S30)) : Option (Bool) := (shutterlaw13_awake.f k).bind fun n => (if n = true then ((shutterref10_Few.f k a b l c d e).bind fun o => (if o = true then ((shutterref08_Few.f k g h i j m).bind fun p => (shutterlaw13_HostKeeps.j0 k (!p) a b l c d e g h i j m)) else (shutterlaw13_HostKeeps.j0 k true a b l c d e g h i j m))) else (none))
theorem shutterlaw13_HostKeeps.mono_l : ∀ k, (∀ c d e f g i j l m n a b, LeO (shutterlaw13_HostKeeps.j0 k c d e f g i j l m n a b) (shutterlaw13_HostKeeps.j0 (k + 1) c d e f g i j l m n a b)) ∧ (∀ c d e f g i j l m n a b q s t u v w x y z A B C D, LeO (shutterlaw13_HostKeeps.l0 k c d e f g i j l m n a b q s t u v w x y z A B C D) (shutterlaw13_HostKeeps.l0 (k + 1) c d e f g i j l m n a b q s t u v w x y z A B C D))
 | 0 => ⟨fun _ _ _ _ _ _ _ _ _ _ _ _ r h => by simp [shutterlaw13_HostKeeps.j0] at h, fun _ _ _ _ _ _ _ _ _ _ _ _ _ _ _ _ _ _ _ _ _ _ _ _ _ r h => by simp [shutterlaw13_HostKeeps.l0] at h⟩
 | k + 1 => by
  obtain ⟨o, p⟩ := shutterlaw13_HostKeeps.mono_l k
  refine ⟨?_, ?_⟩
  ·intro c d e f g i j l m n a b
   unfold shutterlaw13_HostKeeps.j0
   repeat' first
   | (with_reducible exact o _ _ _ _ _ _ _ _ _ _ _ _)
   | (with_reducible exact p _ _ _ _ _ _ _ _ _ _ _ _ _ _ _ _ _ _ _ _ _ _ _ _ _)
   | (with_reducible exact host_Do.mono _ _ _ _ _ _ _ _ _ _ _ _)
   | (with_reducible exact shutterlaw13_awake.mono _)
   | (with_reducible exact shutterref08_Few.mono _ _ _ _ _ _)
   | (with_reducible exact shutterref10_Few.mono _ _ _ _ _ _ _)
   | (with_reducible exact shutterref10_Same.mono _ _ _ _ _ _ _ _ _ _ _ _ _)
   | (with_reducible exact LeO.refl _)
   | (with_reducible exact LeO.none _)
   | (with_reducible refine LeO.ite ?_ ?_)
   | (with_reducible refine LeO.bind ?_ (fun _ => ?_))
   | exact o _ _ _ _ _ _ _ _ _ _ _ _
   | exact p _ _ _ _ _ _ _ _ _ _ _ _ _ _ _ _ _ _ _ _ _ _ _ _ _
   | exact host_Do.mono _ _ _ _ _ _ _ _ _ _ _ _
   | exact shutterlaw13_awake.mono _
   | exact shutterref08_Few.mono _ _ _ _ _ _
   | exact shutterref10_Few.mono _ _ _ _ _ _ _
   | exact shutterref10_Same.mono _ _ _ _ _ _ _ _ _ _ _ _ _
   | exact LeO.none _
   | refine LeO.ite ?_ ?_
   | refine LeO.bind ?_ (fun _ => ?_)
  ·intro c d e f g i j l m n a b q s t u v w x y z A B C D
   unfold shutterlaw13_HostKeeps.l0
   repeat' first
   | (with_reducible exact o _ _ _ _ _ _ _ _ _ _ _ _)
   | (with_reducible exact p _ _ _ _ _ _ _ _ _ _ _ _ _ _ _ _ _ _ _ _ _ _ _ _ _)
   | (with_reducible exact host_Do.mono _ _ _ _ _ _ _ _ _ _ _ _)
   | (with_reducible exact shutterlaw13_awake.mono _)
   | (with_reducible exact shutterref08_Few.mono _ _ _ _ _ _)
   | (with_reducible exact shutterref10_Few.mono _ _ _ _ _ _ _)
   | (with_reducible exact shutterref10_Same.mono _ _ _ _ _ _ _ _ _ _ _ _ _)
   | (with_reducible exact LeO.refl _)
   | (with_reducible exact LeO.none _)
   | (with_reducible refine LeO.ite ?_ ?_)
   | (with_reducible refine LeO.bind ?_ (fun _ => ?_))
   | exact o _ _ _ _ _ _ _ _ _ _ _ _
   | exact p _ _ _ _ _ _ _ _ _ _ _ _ _ _ _ _ _ _ _ _ _ _ _ _ _
   | exact host_Do.mono _ _ _ _ _ _ _ _ _ _ _ _
   | exact shutterlaw13_awake.mono _
   | exact shutterref08_Few.mono _ _ _ _ _ _
   | exact shutterref10_Few.mono _ _ _ _ _ _ _
   | exact shutterref10_Same.mono _ _ _ _ _ _ _ _ _ _ _ _ _
   | exact LeO.none _
   | refine LeO.ite ?_ ?_
   | refine LeO.bind ?_ (fun _ => ?_)
theorem shutterlaw13_HostKeeps.mono : ∀ a0 a1 d e a4 g h i j l a k, LeO (shutterlaw13_HostKeeps.f k a0 a1 d e a4 g h i j l a) (shutterlaw13_HostKeeps.f (k + 1) a0 a1 d e a4 g h i j l a) := by
 intro a0 a1 d e a4 g h i j l a k
 obtain ⟨b, c⟩ := shutterlaw13_HostKeeps.mono_l k
 unfold shutterlaw13_HostKeeps.f
 repeat' first
   | (with_reducible exact b _ _ _ _ _ _ _ _ _ _ _ _)
   | (with_reducible exact c _ _ _ _ _ _ _ _ _ _ _ _ _ _ _ _ _ _ _ _ _ _ _ _ _)
   | (with_reducible exact host_Do.mono _ _ _ _ _ _ _ _ _ _ _ _)
   | (with_reducible exact shutterlaw13_awake.mono _)
   | (with_reducible exact shutterref08_Few.mono _ _ _ _ _ _)
   | (with_reducible exact shutterref10_Few.mono _ _ _ _ _ _ _)
   | (with_reducible exact shutterref10_Same.mono _ _ _ _ _ _ _ _ _ _ _ _ _)
   | (with_reducible exact LeO.refl _)
   | (with_reducible exact LeO.none _)
   | (with_reducible refine LeO.ite ?_ ?_)
   | (with_reducible refine LeO.bind ?_ (fun _ => ?_))
   | exact b _ _ _ _ _ _ _ _ _ _ _ _
   | exact c _ _ _ _ _ _ _ _ _ _ _ _ _ _ _ _ _ _ _ _ _ _ _ _ _
   | exact host_Do.mono _ _ _ _ _ _ _ _ _ _ _ _
   | exact shutterlaw13_awake.mono _
   | exact shutterref08_Few.mono _ _ _ _ _ _
   | exact shutterref10_Few.mono _ _ _ _ _ _ _
   | exact shutterref10_Same.mono _ _ _ _ _ _ _ _ _ _ _ _ _
   | exact LeO.none _
   | refine LeO.ite ?_ ?_
   | refine LeO.bind ?_ (fun _ => ?_)
set_option maxHeartbeats 8000000 in
set_option maxRecDepth 100000 in
theorem shutterlaw13_HostKeeps.calls (k : Nat) (s : Int) (u : Int) (ar : Option Addr) (au : Nat) (q : List (S44)) (x : Int) (y : Bool) (z : Bool) (K : Int) (L : Bool) (M : Bool) (O : Bool) (aI : Option Addr) (aJ : Nat) (J : List (S30)) (r : Bool) (w : World) (cF : Kd.C k44 w ar q.length q) (cB : q.length ≤ au) (cG : Kd.C k30 w aI J.length J) (cC : J.length ≤ aJ) (hG : LaidG w) (h : shutterlaw13_HostKeeps.f k s u q x y z K L M O J = some r) :
  Calls Tryd.prog 11 #[.agg #[.int .i64 s, .int .i64 u, .slice ar q.length au, .int .i64 x, .bool y, .bool z], .agg #[.int .i64 K, .bool L, .bool M, .bool O, .slice aI J.length aJ]] w fun e w' => e = .returned (.bool r) ∧ Below w.heap.size w w' := by
 have HG := Z hG
 clear hG
 have km := Tryd.underlying24
 have kp := Tryd.underlying60
 have ko := Tryd.underlying44
 have kn := Tryd.underlying34
 have kr := Tryd.underlying75
 have aS := Z cF
 have aR := Z cB
 clear cF cB
 have cl := Z cG
 have ck := Z cC
 clear cG cC
 have HB := Z (Below.refl w.heap.size w)
 have H : ((shutterlaw13_awake.f k).bind fun cn => (if cn = true then ((shutterref10_Few.f k s u q x y z).bind fun bp => (if bp = true then ((shutterref08_Few.f k K L M O J).bind fun aK => (shutterlaw13_HostKeeps.j0 k (!aK) s u q x y z K L M O J)) else (shutterlaw13_HostKeeps.j0 k true s u q x y z K L M O J))) else (none))) = some r := h
 clear h
 have eg := Z H
 clear H
 go_enter Tryd.func11, Tryd.ntmps11
 go_upto_region 1 with (first | ((with_reducible refine gate_dst (N := 2) rfl ?_); refine bx_ 2 24 #[.int .i64 s, .int .i64 u, .slice ar q.length au, .int .i64 x, .bool y, .bool z] ?_; intro az hg w4 hbox hb; have a := Z (hbox); have ci := Z (ln_ hg : w.heap.size ≤ az); have iS := Z (ln_ hg : w.heap.size ≤ az); replace HB := Z (below_step bl_ hb); clear hb hbox hg) | ((with_reducible refine gate_dst (N := 3) rfl ?_); refine bx_ 3 60 #[.int .i64 K, .bool L, .bool M, .bool O, .slice aI J.length aJ] ?_; intro aA hg w5 hbox hb; have b := Z (hbox); have cj := Z (ln_ hg : w.heap.size ≤ aA); have iT := Z (ln_ hg : w.heap.size ≤ aA); replace HB := Z (below_step bl_ hb); have aL := Z (nl a.out hg); have aM := Z (ng a.out hg); replace a := Z (kb a.out hb); clear hb hbox hg))
 (try simp only [Act.put, sA, sB, sC])
 go_cut [21] (fun iP wc => ∃ (kq : Nat) (bG : Bool), iP = .bool bG ∧ Aside0 (shutterlaw13_HostKeeps.j0 kq bG s u q x y z K L M O J = some r) ∧ Aside0 (kq ≤ k) ∧ Aside0 (wc.heap[az]? = some (.cells #[.int .i64 s, .int .i64 u, (.slice ar q.length au), .int .i64 x, .bool y, .bool z] 24 (0, 0))) ∧ Aside0 (wc.heap[aA]? = some (.cells #[.int .i64 K, .bool L, .bool M, .bool O, (.slice aI J.length aJ)] 60 (0, 0))) ∧ Aside0 (Below w.heap.size w wc))
 case first =>
  have H := eg.out
  clear eg
  replace H := Option.bind_eq_some_iff.mp H
  obtain ⟨cn, fe, H⟩ := H
  replace H : (if cn = true then ((shutterref10_Few.f k s u q x y z).bind fun bp => (if bp = true then ((shutterref08_Few.f k K L M O J).bind fun aK => (shutterlaw13_HostKeeps.j0 k (!aK) s u q x y z K L M O J)) else (shutterlaw13_HostKeeps.j0 k true s u q x y z K L M O J))) else (none)) = some r := H
  have A6 := Z fe
  clear fe
  by_cases c7 : cn = true
  ·subst c7
   have H1 : ((shutterref10_Few.f k s u q x y z).bind fun bp => (if bp = true then ((shutterref08_Few.f k K L M O J).bind fun aK => (shutterlaw13_HostKeeps.j0 k (!aK) s u q x y z K L M O J)) else (shutterlaw13_HostKeeps.j0 k true s u q x y z K L M O J))) = some r := by rw [if_pos rfl] at H; exact H
   clear H
   have H := H1
   clear H1
   replace H := Option.bind_eq_some_iff.mp H
   obtain ⟨bp, ff, H⟩ := H
   replace H : (if bp = true then ((shutterref08_Few.f k K L M O J).bind fun aK => (shutterlaw13_HostKeeps.j0 k (!aK) s u q x y z K L M O J)) else (shutterlaw13_HostKeeps.j0 k true s u q x y z K L M O J)) = some r := H
   have A8 := Z ff
   clear ff
   by_cases c9 : bp = true
   ·subst c9
    have H1 : ((shutterref08_Few.f k K L M O J).bind fun aK => (shutterlaw13_HostKeeps.j0 k (!aK) s u q x y z K L M O J)) = some r := by rw [if_pos rfl] at H; exact H
    clear H
    have H := H1
    clear H1
    replace H := Option.bind_eq_some_iff.mp H
    obtain ⟨aK, d9, H⟩ := H
    replace H : (shutterlaw13_HostKeeps.j0 k (!aK) s u q x y z K L M O J) = some r := H
    have h8 := Z d9
    clear d9
    have H' := Z H
    clear H
    go_wp2_with (first | ((with_reducible refine gate_callee (f := 28) rfl ?_); refine goesL_ (some 10) rfl rfl Tryd.func28 (by kernel_rfl) rfl #[] rfl ag_ ?_; (with_reducible refine (shutterlaw13_awake.calls k  true _ ?sideG A6.out).mono ?_); (case sideG => exact laidG_below HG.out bl_ rfl); rintro e kL ⟨rfl, hb⟩; refine ⟨_, rfl, ?_⟩; replace a := Z (kb a.out hb); replace b := Z (kb b.out hb); replace HB := Z (below_step bl_ hb); (try clear hb); (try clear bd); (try clear hk); (try clear hi); have iY := aL.out; have jD := aM.out; obtain ⟨bJ, bK, bL, bM, bN, bO, b0, b1, b2, b3, b4, b5⟩ := cells6 a.out) | (go_at_call 15; (with_reducible refine (shutterref10_Few.calls k s u _ _ q x y z true _ ?side1 ?side2 A8.out).mono ?_); (case side1 => repeat (first | exact (Kd.C_below aS.out HB.out) | (with_reducible apply pC))); (case side2 => exact aR.out); rintro e kM ⟨rfl, hb⟩; replace a := Z (kb a.out hb); replace b := Z (kb b.out hb); replace HB := Z (below_step bl_ hb); (try clear hb); (try clear bd); (try clear hk); (try clear hi); obtain ⟨bP, bQ, bR, bS, bT, b6, b7, b8, b9, ca⟩ := cells5 b.out) | (go_at_call 33; (with_reducible refine (shutterref08_Few.calls k K L M O _ _ J aK _ ?side1 ?side2 h8.out).mono ?_); (case side1 => repeat (first | exact (Kd.C_below cl.out HB.out) | (with_reducible apply pC))); (case side2 => exact ck.out); rintro e kN ⟨rfl, hb⟩; replace a := Z (kb a.out hb); replace b := Z (kb b.out hb); replace HB := Z (below_step bl_ hb); (try clear hb); (try clear bd); (try clear hk); (try clear hi)))
    go_meet
    case rel => exact ⟨_, (!aK), (dn_), H', ⟨by first | omega | exact Nat.le_refl _⟩, ⟨vK a.out⟩, ⟨vK b.out⟩, ⟨bl_⟩⟩
   ·replace c9 := Bool.eq_false_iff.mpr c9
    subst c9
    have H1 : (shutterlaw13_HostKeeps.j0 k true s u q x y z K L M O J) = some r := by rw [if_neg (show ¬ (false = true) by decide)] at H; exact H
    clear H
    have H := H1
    clear H1
    have H' := Z H
    clear H
    go_wp2_with (first | ((with_reducible refine gate_callee (f := 28) rfl ?_); refine goesL_ (some 10) rfl rfl Tryd.func28 (by kernel_rfl) rfl #[] rfl ag_ ?_; (with_reducible refine (shutterlaw13_awake.calls k  true _ ?sideG A6.out).mono ?_); (case sideG => exact laidG_below HG.out bl_ rfl); rintro e kO ⟨rfl, hb⟩; refine ⟨_, rfl, ?_⟩; replace a := Z (kb a.out hb); replace b := Z (kb b.out hb); replace HB := Z (below_step bl_ hb); (try clear hb); (try clear bd); (try clear hk); (try clear hi); have iZ := aL.out; have jE := aM.out; obtain ⟨bU, bV, bW, bX, bY, bZ, cb, cc, cd, ce, cf, cg⟩ := cells6 a.out) | (go_at_call 15; (with_reducible refine (shutterref10_Few.calls k s u _ _ q x y z false _ ?side1 ?side2 A8.out).mono ?_); (case side1 => repeat (first | exact (Kd.C_below aS.out HB.out) | (with_reducible apply pC))); (case side2 => exact aR.out); rintro e kP ⟨rfl, hb⟩; replace a := Z (kb a.out hb); replace b := Z (kb b.out hb); replace HB := Z (below_step bl_ hb); (try clear hb); (try clear bd); (try clear hk); (try clear hi)))
    go_meet
    case rel => exact ⟨_, (true), (dn_), H', ⟨by first | omega | exact Nat.le_refl _⟩, ⟨vK a.out⟩, ⟨vK b.out⟩, ⟨bl_⟩⟩
  ·replace c7 := Bool.eq_false_iff.mpr c7
   subst c7
   have H1 : (none) = some r := by rw [if_neg (show ¬ (false = true) by decide)] at H; exact H
   clear H
   have H := H1
   clear H1
   exact absurd H (by simp)
 case rest =>
  clear eg
  try clear c1
  try clear c2
  try clear p2
  try clear c7
  try clear c9
  try clear ig
  try clear ih
  try clear ii
  try clear bJ
  try clear bK
  try clear bL
  try clear bM
  try clear bN
  try clear bO
  try clear bP
  try clear bQ
  try clear bR
  try clear bS
  try clear bT
  try clear bU
  try clear bV
  try clear bW
  try clear bX
  try clear bY
  try clear bZ
  try clear b0
  try clear b1
  try clear b2
  try clear b3
  try clear b4
  try clear b5
  try clear b6
  try clear b7
  try clear b8
  try clear b9
  try clear ca
  try clear cb
  try clear cc
  try clear cd
  try clear ce
  try clear cf
  try clear cg
  obtain ⟨kq, bG, rfl, HA, fg, a, b, HB⟩ := hcut
  cases kq with
  | zero => exact absurd HA.out (by simp [shutterlaw13_HostKeeps.j0])
  | succ aG =>
   have H := HA.out
   clear HA
   simp only [shutterlaw13_HostKeeps.j0] at H
   by_cases cq : bG = true
   ·subst cq
    have H1 : ((shutterlaw13_awake.f aG).bind fun co => (some co)) = some r := by rw [if_pos rfl] at H; exact H
    clear H
    have H := H1
    clear H1
    replace H := Option.bind_eq_some_iff.mp H
    obtain ⟨co, ea, H⟩ := H
    replace H : (some co) = some r := H
    have h9 := Z ea
    clear ea
    obtain rfl := Option.some.inj H
    go_wp2_with (first | ((with_reducible refine gate_callee (f := 28) rfl ?_); refine goesL_ (some 22) rfl rfl Tryd.func28 (by kernel_rfl) rfl #[] rfl ag_ ?_; (with_reducible refine (shutterlaw13_awake.calls aG  co _ ?sideG h9.out).mono ?_); (case sideG => exact laidG_below HG.out bl_ rfl); rintro e kQ ⟨rfl, hb⟩; refine ⟨_, rfl, ?_⟩; replace a := Z (kb a.out hb); replace b := Z (kb b.out hb); replace HB := Z (below_step bl_ hb); (try clear hb); (try clear bd); (try clear hk); (try clear hi)))
    go_ret
    exact ⟨er_, bl_⟩
   ·replace cq := Bool.eq_false_iff.mpr cq
    subst cq
    have H1 : ((shutterref10_Copy.f s u q x y z).bind fun aB => ((host_Do.f aG s u q x y z K L M O J).bind fun aq => (if aq.2.2.2.2.2.2.1.isNone = true then ((host_Reset.f s u q x y z true).bind fun P => (shutterlaw13_HostKeeps.l0 aG 0 s u q x y z aB.1 aB.2.1 aB.2.2.1 aB.2.2.2.1 aB.2.2.2.2.1 aB.2.2.2.2.2 aq.1 aq.2.1 aq.2.2.1 aq.2.2.2.1 aq.2.2.2.2.1 aq.2.2.2.2.2.1 P.1 P.2.1 P.2.2.1 P.2.2.2.1 P.2.2.2.2.1 P.2.2.2.2.2)) else ((shutterref10_Same.f aG s u q x y z aB.1 aB.2.1 aB.2.2.1 aB.2.2.2.1 aB.2.2.2.2.1 aB.2.2.2.2.2).bind fun a6 => (some a6))))) = some r := by rw [if_neg (show ¬ (false = true) by decide)] at H; exact H
    clear H
    have H := H1
    clear H1
    replace H := Option.bind_eq_some_iff.mp H
    obtain ⟨⟨ab, ac, Y, ad, ae, af⟩, eb, H⟩ := H
    replace H : ((host_Do.f aG s u q x y z K L M O J).bind fun aq => (if aq.2.2.2.2.2.2.1.isNone = true then ((host_Reset.f s u q x y z true).bind fun P => (shutterlaw13_HostKeeps.l0 aG 0 s u q x y z ab ac Y ad ae af aq.1 aq.2.1 aq.2.2.1 aq.2.2.2.1 aq.2.2.2.2.1 aq.2.2.2.2.2.1 P.1 P.2.1 P.2.2.1 P.2.2.2.1 P.2.2.2.2.1 P.2.2.2.2.2)) else ((shutterref10_Same.f aG s u q x y z ab ac Y ad ae af).bind fun a6 => (some a6)))) = some r := H
    have fc := Z eb
    clear eb
    replace H := Option.bind_eq_some_iff.mp H
    obtain ⟨⟨ah, ai, av, aj, ak, al, eX, eY⟩, ec, H⟩ := H
    replace H : (if eX.isNone = true then ((host_Reset.f s u q x y z true).bind fun P => (shutterlaw13_HostKeeps.l0 aG 0 s u q x y z ab ac Y ad ae af ah ai av aj ak al P.1 P.2.1 P.2.2.1 P.2.2.2.1 P.2.2.2.2.1 P.2.2.2.2.2)) else ((shutterref10_Same.f aG s u q x y z ab ac Y ad ae af).bind fun a6 => (some a6))) = some r := H
    have fd := Z ec
    clear ec
    rcases eX with _ | cx
    ·have H1 : ((host_Reset.f s u q x y z true).bind fun P => (shutterlaw13_HostKeeps.l0 aG 0 s u q x y z ab ac Y ad ae af ah ai av aj ak al P.1 P.2.1 P.2.2.1 P.2.2.2.1 P.2.2.2.2.1 P.2.2.2.2.2)) = some r := by rw [if_pos (show (none : Option Er).isNone = true by rfl)] at H; exact H
     clear H
     have H := H1
     clear H1
     try simp only [errW_none, errW_some]
     replace H := Option.bind_eq_some_iff.mp H
     obtain ⟨⟨aT, aU, bt, aV, aW, aX⟩, ed, H⟩ := H
     replace H : (shutterlaw13_HostKeeps.l0 aG 0 s u q x y z ab ac Y ad ae af ah ai av aj ak al aT aU bt aV aW aX) = some r := H
     have ia := Z ed
     clear ed
     have H' := Z H
     clear H
     have ja := aL.out
     have jF := aM.out
     obtain ⟨cH, cI, cJ, cK, cL, cM, du, dv, dw, dx, dy, dz⟩ := cells6 a.out
     go_wp2_with (first | ((with_reducible refine gate_callee (f := 25) rfl ?_); refine goesL_ (some 24) rfl rfl Tryd.func25 (by kernel_rfl) rfl #[.agg #[.int .i64 s, .int .i64 u, .slice ar q.length au, .int .i64 x, .bool y, .bool z]] rfl ag_ ?_; (with_reducible refine (shutterref10_Copy.calls s u _ _ q x y z ab ac Y ad ae af _ ?side1 ?side2 fc.out).mono ?_); (case side1 => repeat (first | exact (Kd.C_below aS.out HB.out) | (with_reducible apply pC))); (case side2 => exact aR.out); rintro e kR ⟨go, rfl, aF, hb⟩; refine ⟨_, rfl, ?_⟩; have B := Z (Kd.R_lower aF (below_size bl_)); replace a := Z (kb a.out hb); replace b := Z (kb b.out hb); replace HB := Z (below_step bl_ hb); (try clear hb); (try clear bd); (try clear hk); (try clear hi); (try clear aF)) | ((with_reducible refine gate_dst (N := 5) rfl ?_); refine bx_ 5 24 #[.int .i64 0, .int .i64 0, .slice none 0 0, .int .i64 0, .bool false, .bool false] ?_; intro Q hg iQ hbox hb; replace B := Z (rb B.out hb); have l := Z (hbox); have bF := Z (ln_ hg : w.heap.size ≤ Q); have e2 := Z (ln_ hg : w.heap.size ≤ Q); replace HB := Z (below_step bl_ hb); have aC := Z (nl a.out hg); have aZ := Z (ng a.out hg); replace a := Z (kb a.out hb); have aD := Z (nl b.out hg); have a0 := Z (ng b.out hg); replace b := Z (kb b.out hb); clear hb hbox hg; have jb := aZ.out; have jG := aC.out; have jc := a0.out; have jH := aD.out; obtain ⟨cN, cO, cP, cQ, cR, cS, dA, dB, dC, dD, dE, dF⟩ := cells6 l.out; obtain ⟨bA, bD, fk⟩ := Kd.R_slice B.out; subst fk) | ((with_reducible refine gate_store (t := 24) (p := 5) rfl ?_); refine sx_ 24 5 ((((((iQ.setCell ⟨Q, 0, none⟩ (.int .i64 ab)).setCell ⟨Q, 1, none⟩ (.int .i64 ac)).setCell ⟨Q, 2, none⟩ (.slice bA Y.length bD)).setCell ⟨Q, 3, none⟩ (.int .i64 ad)).setCell ⟨Q, 4, none⟩ (.bool ae)).setCell ⟨Q, 5, none⟩ (.bool af)) ?_; intro ct hw; replace B : Aside0 (Kd.R k44 44 ct w.heap.size (fun _ => True) (.slice bA Y.length bD) Y) := ⟨(by rw [hw]; exact (by (with_reducible repeat apply pR); exact R_off B.out l.out (by decide) off2_))⟩; replace a : Aside0 (ct.heap[az]? = some (.cells #[.int .i64 s, .int .i64 u, .slice ar q.length au, .int .i64 x, .bool y, .bool z] 24 (0, 0))) := ⟨(by rw [hw]; exact (by (with_reducible repeat apply pK); exact blk_off a.out aC.out off2_))⟩; replace b : Aside0 (ct.heap[aA]? = some (.cells #[.int .i64 K, .bool L, .bool M, .bool O, .slice aI J.length aJ] 60 (0, 0))) := ⟨(by rw [hw]; exact (by (with_reducible repeat apply pK); exact blk_off b.out aD.out off2_))⟩; replace l : Aside0 (ct.heap[Q]? = some (.cells #[.int .i64 ab, .int .i64 ac, .slice bA Y.length bD, .int .i64 ad, .bool ae, .bool af] 24 (0, 0))) := ⟨by rw [hw]; exact (put6 l.out)⟩; replace HB : Aside0 (Below w.heap.size w ct) := ⟨by rw [hw]; exact bl_⟩; clear hw; obtain ⟨cT, cU, cV, cW, cX, cY, dG, dH, dI, dJ, dK, dL⟩ := cells6 a.out; obtain ⟨cZ, c0, c6, c8, da, dM, dN, dO, dP, dQ⟩ := cells5 b.out) | ((with_reducible refine gate_callee (f := 31) rfl ?_); refine goesL_ (some 28) rfl rfl Tryd.func31 (by kernel_rfl) rfl #[.agg #[.int .i64 s, .int .i64 u, .slice ar q.length au, .int .i64 x, .bool y, .bool z], .agg #[.int .i64 K, .bool L, .bool M, .bool O, .slice aI J.length aJ]] rfl ag_ ?_; (with_reducible refine (host_Do.callsN aG s u (fun k_ => k_ < w.heap.size) _ _ q x y z K L M O _ _ J ah ai av aj ak al eY _ ?side1 ?side2 ?side3 fd.out).mono ?_); (case side1 => exact Kd.V_mk aR.out (Kd.F_below (Kd.C_F k44_heap aS.out) bl_)); (case side2 => repeat (first | exact (Kd.C_below cl.out HB.out) | (with_reducible apply pC))); (case side3 => exact ck.out); rintro e kS ⟨e0, gp, rfl, aF, cr, hb⟩; refine ⟨_, rfl, ?_⟩; have aa := Z (Kd.R_lower (Kd.R_new' (Kd.R_mono (ok' := fun k_ => True) aF (fun _ hk_ => trivial)) (Kd.R_lt (by (with_reducible repeat apply pR); exact B.out))) (below_size bl_)); have an := Z (Kd.V_lower (Kd.V_mono (ok' := fun k_ => some k_ ≠ (e0 : Value).ownBlock ∧ some k_ ≠ (.slice bA Y.length bD : Value).ownBlock ∧ k_ ≠ az ∧ k_ ≠ aA ∧ k_ ≠ Q) cr (fun k_ hk_ => ⟨hk_.2, Or.elim hk_.1 (fun hs_ => fun e_ => Nat.not_le.2 hs_ (Kd.R_base B.out k_ e_.symm)) (fun hn_ => (Kd.fresh' (Kd.R_lt (by (with_reducible repeat apply pR); exact B.out)) k_ hn_)), Or.elim hk_.1 (fun hs_ => fun e_ => Nat.not_le.2 hs_ (by rw [e_]; exact ci.out)) (fun hn_ => (fb a.out k_ hn_)), Or.elim hk_.1 (fun hs_ => fun e_ => Nat.not_le.2 hs_ (by rw [e_]; exact cj.out)) (fun hn_ => (fb b.out k_ hn_)), Or.elim hk_.1 (fun hs_ => fun e_ => Nat.not_le.2 hs_ (by rw [e_]; exact bF.out)) (fun hn_ => (fb l.out k_ hn_))⟩)) (below_size bl_)); replace B := Z (Kd.R_elder' (by (with_reducible repeat apply pR); exact B.out) (Kd.R_base aF) hb); replace a := Z (kb a.out hb); replace b := Z (kb b.out hb); replace l := Z (kb l.out hb); replace HB := Z (below_step bl_ hb); (try clear hb); (try clear bd); (try clear hk); (try clear hi); (try clear aF); (try clear cr); (try simp only [errW_none, errW_some])) | ((with_reducible refine gate_dst (N := 6) rfl ?_); refine bx_ 6 24 #[.int .i64 0, .int .i64 0, .slice none 0 0, .int .i64 0, .bool false, .bool false] ?_; intro d hg kT hbox hb; replace B := Z (rb B.out hb); replace aa := Z (rb aa.out hb); replace an := Z (ve an.out hg hb); have G := Z (hbox); have e4 := Z (ln_ hg : w.heap.size ≤ d); have e3 := Z (ln_ hg : w.heap.size ≤ d); replace HB := Z (below_step bl_ hb); have aw := Z (nl a.out hg); have aN := Z (ng a.out hg); replace a := Z (kb a.out hb); have ax := Z (nl b.out hg); have aO := Z (ng b.out hg); replace b := Z (kb b.out hb); have ay := Z (nl l.out hg); have aP := Z (ng l.out hg); replace l := Z (kb l.out hb); clear hb hbox hg; have jd := aN.out; have jI := aw.out; have je := aO.out; have jJ := ax.out; have jf := aP.out; have jK := ay.out; obtain ⟨db, dc, dd, de, df, dg, dR, dS, dT, dU, dV, dW⟩ := cells6 G.out; obtain ⟨bq, bs, fl⟩ := Kd.R_slice aa.out; subst fl; obtain ⟨dh, di, dj, dk, dl, dm, dX, dY, dZ, d0, d1, d2⟩ := cells6 a.out) | ((with_reducible refine gate_callee (f := 29) rfl ?_); refine goesL_ (some 37) rfl rfl Tryd.func29 (by kernel_rfl) rfl #[.agg #[.int .i64 s, .int .i64 u, .slice ar q.length au, .int .i64 x, .bool y, .bool z], .bool true] rfl ag_ ?_; (with_reducible refine (host_Reset.calls s u _ _ q x y z true aT aU bt aV aW aX _ ?side1 ?side2 ia.out).mono ?_); (case side1 => exact Kd.C_below aS.out bl_); (case side2 => exact aR.out); rintro e kU ⟨ks, rfl, aF, hb⟩; refine ⟨_, rfl, ?_⟩; have D := Z (Kd.R_elder' (by (with_reducible repeat apply pR); exact (Kd.R_mono (f6R d (Kd.R_types B.out G.out (by decide)) (fun _ hk => hk.2)) (fun _ h_ => h_.1))) (Kd.R_base aF) hb); have E := Z (Kd.R_elder' (by (with_reducible repeat apply pR); exact (Kd.R_mono (f6R d (Kd.R_types aa.out G.out (by decide)) (fun _ hk => hk.2)) (fun _ h_ => h_.1))) (Kd.R_base aF) hb); have F := Z (Kd.V_elder' (by (with_reducible repeat apply pV); exact (Kd.V_mono (f6V d (Kd.V_mono an.out (fun k_ hk => (⟨hk, hk.2⟩ : _ ∧ k_ ≠ d))) (fun _ hk => hk.2)) (fun _ h_ => h_.1))) (Kd.R_base aF) hb); have I := Z (Kd.R_lower (Kd.R_new' (Kd.R_new' aF (Kd.R_lt (by (with_reducible repeat apply pR); exact (Kd.R_mono (f6R d (Kd.R_types B.out G.out (by decide)) (fun _ hk => hk.2)) (fun _ h_ => h_.1))))) (Kd.R_lt (by (with_reducible repeat apply pR); exact (Kd.R_mono (f6R d (Kd.R_types aa.out G.out (by decide)) (fun _ hk => hk.2)) (fun _ h_ => h_.1))))) (below_size bl_)); have S := Z (blk_below (g := az) (o := .cells #[.int .i64 s, .int .i64 u, .slice ar q.length au, .int .i64 x, .bool y, .bool z] 24 (0, 0)) (by (with_reducible repeat apply pK); exact blk_off a.out aw.out off2_) hb); have V := Z (blk_below (g := aA) (o := .cells #[.int .i64 K, .bool L, .bool M, .bool O, .slice aI J.length aJ] 60 (0, 0)) (by (with_reducible repeat apply pK); exact blk_off b.out ax.out off2_) hb); have W := Z (blk_below (g := Q) (o := .cells #[.int .i64 ab, .int .i64 ac, .slice bA Y.length bD, .int .i64 ad, .bool ae, .bool af] 24 (0, 0)) (by (with_reducible repeat apply pK); exact blk_off l.out ay.out off2_) hb); have am := Z (blk_below (g := d) (o := .cells #[.int .i64 ah, .int .i64 ai, .slice bq av.length bs, .int .i64 aj, .bool ak, .bool al] 24 (0, 0)) (put6 G.out) hb); have ao := Z (below_step bl_ hb); clear B aa an a b l G HB; have B := D; have aa := E; have an := F; have bv := I; have a := S; have b := V; have l := W; have G := am; have HB := ao; clear D E F I S V W am ao; (try clear hb); (try clear bd); (try clear hk); (try clear hi); (try clear aF)) | ((with_reducible refine gate_dst (N := 8) rfl ?_); refine bx_ 8 24 #[.int .i64 0, .int .i64 0, .slice none 0 0, .int .i64 0, .bool false, .bool false] ?_; intro U hg kV hbox hb; replace B := Z (rb B.out hb); replace aa := Z (rb aa.out hb); replace an := Z (ve an.out hg hb); replace bv := Z (rb bv.out hb); have ag := Z (hbox); have iV := Z (ln_ hg : w.heap.size ≤ U); have iU := Z (ln_ hg : w.heap.size ≤ U); replace HB := Z (below_step bl_ hb); have aY := Z (nl a.out hg); have bf := Z (ng a.out hg); replace a := Z (kb a.out hb); have be := Z (nl b.out hg); have bE := Z (ng b.out hg); replace b := Z (kb b.out hb); have a1 := Z (nl l.out hg); have bg := Z (ng l.out hg); replace l := Z (kb l.out hb); have a2 := Z (nl G.out hg); have bh := Z (ng G.out hg); replace G := Z (kb G.out hb); clear hb hbox hg; have jg := bf.out; have jL := aY.out; have jh := bE.out; have jM := be.out; have ji := bg.out; have jN := a1.out; have jj := bh.out; have jO := a2.out; obtain ⟨dn, dp, dq, dr, ds, dt, d3, d4, d5, d6, d7, d8⟩ := cells6 ag.out; obtain ⟨ch, cm, fm⟩ := Kd.R_slice bv.out; subst fm))
     go_loopg [9] aG (fun kq v9 w' => ∃ (i : Int) (ap : List (S44)) (m : List (S44)) (A : List (S44)) (u514002 : Value) (u527002 : Value) (u537002 : Value), v9 = .int .i64 i ∧ Aside0 (shutterlaw13_HostKeeps.l0 kq i s u q x y z ab ac ap ad ae af ah ai m aj ak al aT aU A aV aW aX = some r) ∧ Aside0 (kq ≤ aG) ∧ Aside0 (Kd.R k44 44 w' w.heap.size (fun k_ => some k_ ≠ (u527002 : Value).ownBlock ∧ some k_ ≠ (u537002 : Value).ownBlock) u514002 ap) ∧ Aside0 (Kd.R k44 44 w' w.heap.size (fun k_ => some k_ ≠ (u514002 : Value).ownBlock ∧ some k_ ≠ (u537002 : Value).ownBlock) u527002 m) ∧ Aside0 (Kd.R k44 44 w' w.heap.size (fun k_ => some k_ ≠ (u514002 : Value).ownBlock ∧ some k_ ≠ (u527002 : Value).ownBlock) u537002 A) ∧ Aside0 (w'.heap[az]? = some (.cells #[.int .i64 s, .int .i64 u, (.slice ar q.length au), .int .i64 x, .bool y, .bool z] 24 (0, 0))) ∧ Aside0 (w'.heap[aA]? = some (.cells #[.int .i64 K, .bool L, .bool M, .bool O, (.slice aI J.length aJ)] 60 (0, 0))) ∧ Aside0 (w'.heap[Q]? = some (.cells #[.int .i64 ab, .int .i64 ac, u514002, .int .i64 ad, .bool ae, .bool af] 24 (0, 0))) ∧ Aside0 (w'.heap[d]? = some (.cells #[.int .i64 ah, .int .i64 ai, u527002, .int .i64 aj, .bool ak, .bool al] 24 (0, 0))) ∧ Aside0 (w'.heap[U]? = some (.cells #[.int .i64 aT, .int .i64 aU, u537002, .int .i64 aV, .bool aW, .bool aX] 24 (0, 0))) ∧ Aside0 (Below w.heap.size w w'))
     case atStart => exact ⟨(0), (Y), (av), (bt), (.slice bA Y.length bD), (.slice bq av.length bs), (.slice ch bt.length cm), (dn_), H', ⟨Nat.le_refl _⟩, ⟨by (with_reducible repeat apply pR); exact Kd.R_mono (f6R U (Kd.R_types B.out ag.out (by decide)) (fun _ hk => hk.2)) (fun _ hk => ⟨hk.1.1.2, hk.1.2⟩)⟩, ⟨by (with_reducible repeat apply pR); exact Kd.R_mono (f6R U (Kd.R_types aa.out ag.out (by decide)) (fun _ hk => hk.2)) (fun _ hk => ⟨hk.1.1.2, hk.1.2⟩)⟩, ⟨by (with_reducible repeat apply pR); exact Kd.R_mono (f6R U (Kd.R_types bv.out ag.out (by decide)) (fun _ hk => hk.2)) (fun _ hk => ⟨hk.1.1.2, hk.1.2⟩)⟩, ⟨by (with_reducible repeat apply pK); exact blk_off a.out aY.out off2_⟩, ⟨by (with_reducible repeat apply pK); exact blk_off b.out be.out off2_⟩, ⟨by (with_reducible repeat apply pK); exact blk_off l.out a1.out off2_⟩, ⟨by (with_reducible repeat apply pK); exact blk_off G.out a2.out off2_⟩, ⟨put6 ag.out⟩, ⟨bl_⟩⟩
     case round =>
      clear H'
      try clear c1
      try clear c2
      try clear p2
      try clear c3
      try clear c4
      try clear c5
      try clear q5
      try clear c7
      try clear c9
      try clear ig
      try clear ih
      try clear ii
      try clear cq
      try clear kx
      try clear ky
      try clear kz
      try clear kA
      try clear kB
      try clear kC
      try clear kD
      try clear kE
      try clear kF
      try clear kG
      try clear kH
      try clear kI
      try clear kJ
      try clear kK
      try clear bJ
      try clear bK
      try clear bL
      try clear bM
      try clear bN
      try clear bO
      try clear bP
      try clear bQ
      try clear bR
      try clear bS
      try clear bT
      try clear bU
      try clear bV
      try clear bW
      try clear bX
      try clear bY
      try clear bZ
      try clear cH
      try clear cI
      try clear cJ
      try clear cK
      try clear cL
      try clear cM
      try clear cN
      try clear cO
      try clear cP
      try clear cQ
      try clear cR
      try clear cS
      try clear cT
      try clear cU
      try clear cV
      try clear cW
      try clear cX
      try clear cY
      try clear cZ
      try clear c0
      try clear c6
      try clear c8
      try clear da
      try clear db
      try clear dc
      try clear dd
      try clear de
      try clear df
      try clear dg
      try clear dh
      try clear di
      try clear dj
      try clear dk
      try clear dl
      try clear dm
      try clear dn
      try clear dp
      try clear dq
      try clear dr
      try clear ds
      try clear dt
      try clear b0
      try clear b1
      try clear b2
      try clear b3
      try clear b4
      try clear b5
      try clear b6
      try clear b7
      try clear b8
      try clear b9
      try clear ca
      try clear cb
      try clear cc
      try clear cd
      try clear ce
      try clear cf
      try clear cg
      try clear du
      try clear dv
      try clear dw
      try clear dx
      try clear dy
      try clear dz
      try clear dA
      try clear dB
      try clear dC
      try clear dD
      try clear dE
      try clear dF
      try clear dG
      try clear dH
      try clear dI
      try clear dJ
      try clear dK
      try clear dL
      try clear dM
      try clear dN
      try clear dO
      try clear dP
      try clear dQ
      try clear dR
      try clear dS
      try clear dT
      try clear dU
      try clear dV
      try clear dW
      try clear dX
      try clear dY
      try clear dZ
      try clear d0
      try clear d1
      try clear d2
      try clear d3
      try clear d4
      try clear d5
      try clear d6
      try clear d7
      try clear d8
      try clear p2
      try clear cx
      obtain ⟨i, ap, m, A, u514002, u527002, u537002, rfl, HA, fh, HO_514002, HO_527002, HO_537002, a, b, l, G, ag, HB⟩ := hrel
      cases gk with
      | zero => exact absurd HA.out (by simp [shutterlaw13_HostKeeps.l0])
      | succ k2 =>
       have H := HA.out
       clear HA
       simp only [shutterlaw13_HostKeeps.l0] at H
       by_cases bI : i < (m.length : Int)
       ·rw [if_pos bI] at H
        have e7 : decide (i < (m.length : Int)) = true := decide_eq_true bI
        clear bI
        by_cases cz : 0 ≤ i
        ·rw [if_pos cz] at H
         have iW : decide (0 ≤ i) = true := decide_eq_true cz
         clear cz
         obtain ⟨cp, bx⟩ : ∃ y_ : List (S44), y_ = (m.set (i : Int).toNat (⟨false, (⟨false, false, 0, false⟩ : S28), 7⟩ : S44)) := ⟨_, rfl⟩
         replace H : (if i < (A.length : Int) then (shutterlaw13_HostKeeps.l0 k2 (wrap64 (i + 1)) s u q x y z ab ac ap ad ae af ah ai cp aj ak al aT aU (A.set (i : Int).toNat (⟨false, (⟨false, false, 0, false⟩ : S28), 7⟩ : S44)) aV aW aX) else (none)) = some r := by first | (rw [bx]; with_reducible exact H) | (have bH := (Option.bind_some _ _).symm.trans H; rw [bx]; with_reducible exact bH) | (have bH := (Option.bind_some _ _).symm.trans H; with_reducible exact bH) | with_reducible exact H | (rw [bx]; exact H) | exact H
         have e5 := Z bx
         clear bx
         by_cases cA : i < (A.length : Int)
         ·rw [if_pos cA] at H
          have iX : decide (i < (A.length : Int)) = true := decide_eq_true cA
          clear cA
          obtain ⟨cy, bz⟩ : ∃ y_ : List (S44), y_ = (A.set (i : Int).toNat (⟨false, (⟨false, false, 0, false⟩ : S28), 7⟩ : S44)) := ⟨_, rfl⟩
          replace H : (shutterlaw13_HostKeeps.l0 k2 (wrap64 (i + 1)) s u q x y z ab ac ap ad ae af ah ai cp aj ak al aT aU cy aV aW aX) = some r := by first | (rw [bz]; with_reducible exact H) | (have bH := (Option.bind_some _ _).symm.trans H; rw [bz]; with_reducible exact bH) | (have bH := (Option.bind_some _ _).symm.trans H; with_reducible exact bH) | with_reducible exact H | (rw [bz]; exact H) | exact H
          have e6 := Z bz
          clear bz
          have H' := Z H
          clear H
          have jk := aN.out
          have jP := aw.out
          have jl := aO.out
          have jQ := ax.out
          have jm := aP.out
          have jR := ay.out
          have jn := a2.out
          have jS := bh.out
          obtain ⟨gq, gr, gs, gt, gu, gv, he, hf, hh, hj, hl, hm⟩ := cells6 G.out
          obtain ⟨j9, aQ, fn⟩ := Kd.R_slice HO_527002.out
          subst fn
          have p56 : 0 ≤ (i : Int) := od_
          have eV : (i : Int) < ((m.length : Int) : Int) := od_
          obtain ⟨T, kk, el, en, fr, ki, eh⟩ := Kd.R_form HO_527002.out (by omega)
          (first | cases el | (injection el with ea_ en_ ec_; (first | subst ea_ | (injection ea_ with ea_; subst ea_)); subst ec_; clear en_))
          have bB := Z en
          have kc := Z eh
          clear en fr eh
          obtain ⟨ke, e9, ep, a7, a9⟩ := Kd.R_elem HO_527002.out z44 (i : Int) p56 eV
          obtain rfl := k44_openM ep
          have iD : wr.cell? ⟨T, (i : Int).toNat * 6, none⟩ = some (.bool ((rd_T44 m i).f0)) := a7 0 _ rfl
          have iE : wr.cell? ⟨T, (i : Int).toNat * 6 + 1, none⟩ = some (.bool ((rd_T44 m i).f1.f0)) := a7 1 _ rfl
          have iF : wr.cell? ⟨T, (i : Int).toNat * 6 + 2, none⟩ = some (.bool ((rd_T44 m i).f1.f1)) := a7 2 _ rfl
          have iG : wr.cell? ⟨T, (i : Int).toNat * 6 + 3, none⟩ = some (.int .i64 ((rd_T44 m i).f1.f2)) := a7 3 _ rfl
          have iH : wr.cell? ⟨T, (i : Int).toNat * 6 + 4, none⟩ = some (.bool ((rd_T44 m i).f1.f3)) := a7 4 _ rfl
          have iI : wr.cell? ⟨T, (i : Int).toNat * 6 + 5, none⟩ = some (.int .u8 ((rd_T44 m i).f2)) := a7 5 _ rfl
          have ij : wr.frozen? ⟨T, (i : Int).toNat * 6, none⟩ = false := a9 0
          have ik : wr.frozen? ⟨T, (i : Int).toNat * 6 + 1, none⟩ = false := a9 1
          have il : wr.frozen? ⟨T, (i : Int).toNat * 6 + 2, none⟩ = false := a9 2
          have im : wr.frozen? ⟨T, (i : Int).toNat * 6 + 3, none⟩ = false := a9 3
          have io : wr.frozen? ⟨T, (i : Int).toNat * 6 + 4, none⟩ = false := a9 4
          have ip : wr.frozen? ⟨T, (i : Int).toNat * 6 + 5, none⟩ = false := a9 5
          clear e9 a7 a9 ep
          replace p56 := eq_true p56
          replace eV := eq_true eV
          have ej := Z (show Kd.R k44 44 wr w.heap.size (fun k_ => some k_ ≠ (u514002 : Value).ownBlock ∧ some k_ ≠ (u537002 : Value).ownBlock) (.slice (some ⟨T, 0, none⟩) m.length aQ) m from (by (with_reducible repeat apply pR); exact HO_527002.out))
          obtain ⟨kg, cD, er, a3, bb⟩ := Kd.R_elem ej.out z44 (i : Int) (od_) (by have h_ : (i : Int) < ((m.length : Int) : Int) := od_; first | exact h_ | (have e_ := (Kd.R_reads' HO_527002.out).1; omega) | simpa using h_)
          obtain rfl := k44_openM er
          have cv := Kd.R_seg ej.out (i : Int) (od_) (by have h_ : (i : Int) < ((m.length : Int) : Int) := od_; first | exact h_ | (have e_ := (Kd.R_reads' HO_527002.out).1; omega) | simpa using h_) (seg := [.bool false, .bool false, .bool false, .int .i64 0, .bool false, .int .u8 7]) (j := 0) cD a3 (show 6 ≤ 6 from by decide) (x' := (⟨false, (⟨false, false, 0, false⟩ : S28), 7⟩ : S44)) (k44_mkM _ _ _ (⟨false, (⟨false, false, 0, false⟩ : S28), 7⟩ : S44) ) (fun _ hk => hk)
          have eF := a3 0 _ rfl
          (try simp only [show (k44).sz = 6 from rfl, Nat.mul_one, Nat.add_zero] at eF)
          have et := bb 0
          (try simp only [show (k44).sz = 6 from rfl, Nat.mul_one, Nat.add_zero] at et)
          have eG := a3 1 _ rfl
          (try simp only [show (k44).sz = 6 from rfl, Nat.mul_one, Nat.add_zero] at eG)
          have eu := bb 1
          (try simp only [show (k44).sz = 6 from rfl, Nat.mul_one, Nat.add_zero] at eu)
          have eH := a3 2 _ rfl
          (try simp only [show (k44).sz = 6 from rfl, Nat.mul_one, Nat.add_zero] at eH)
          have ev := bb 2
          (try simp only [show (k44).sz = 6 from rfl, Nat.mul_one, Nat.add_zero] at ev)
          have eI := a3 3 _ rfl
          (try simp only [show (k44).sz = 6 from rfl, Nat.mul_one, Nat.add_zero] at eI)
          have ew := bb 3
          (try simp only [show (k44).sz = 6 from rfl, Nat.mul_one, Nat.add_zero] at ew)
          have eJ := a3 4 _ rfl
          (try simp only [show (k44).sz = 6 from rfl, Nat.mul_one, Nat.add_zero] at eJ)
          have ex := bb 4
          (try simp only [show (k44).sz = 6 from rfl, Nat.mul_one, Nat.add_zero] at ex)
          have eK := a3 5 _ rfl
          (try simp only [show (k44).sz = 6 from rfl, Nat.mul_one, Nat.add_zero] at eK)
          have ey := bb 5
          (try simp only [show (k44).sz = 6 from rfl, Nat.mul_one, Nat.add_zero] at ey)
          clear cD a3 bb er
          go_wp2_with (first | ((with_reducible refine gate_store (t := 44) (p := 49) rfl ?_); refine sx_ 44 49 ((((((wr.setCell ⟨T, (i : Int).toNat * 6, none⟩ (.bool false)).setCell ⟨T, (i : Int).toNat * 6 + 1, none⟩ (.bool false)).setCell ⟨T, (i : Int).toNat * 6 + 2, none⟩ (.bool false)).setCell ⟨T, (i : Int).toNat * 6 + 3, none⟩ (.int .i64 0)).setCell ⟨T, (i : Int).toNat * 6 + 4, none⟩ (.bool false)).setCell ⟨T, (i : Int).toNat * 6 + 5, none⟩ (.int .u8 7)) ?_; intro aH hw; have hg : wr.grownBy aH (some T) := (by rw [hw]; exact cv.2); have hp_ : Kd.R k44 44 aH w.heap.size (fun k_ => some k_ ≠ (u514002 : Value).ownBlock ∧ some k_ ≠ (u537002 : Value).ownBlock) (.slice (some ⟨T, 0, none⟩) m.length aQ) cp := (by rw [hw, e5.out]; exact cv.1); clear cv; replace HO_514002 := Z (Kd.R_after (v := (.slice (some ⟨T, 0, none⟩) m.length aQ)) (v1 := (.slice (some ⟨T, 0, none⟩) m.length aQ)) (ok := (fun k_ => some k_ ≠ (u537002 : Value).ownBlock)) (by (with_reducible repeat apply pR); exact Kd.R_mono HO_514002.out (fun _ hk => ⟨hk.2, hk.1⟩)) hg (.inl rfl)); replace HO_537002 := Z (Kd.R_after (v := (.slice (some ⟨T, 0, none⟩) m.length aQ)) (v1 := (.slice (some ⟨T, 0, none⟩) m.length aQ)) (ok := (fun k_ => some k_ ≠ (u514002 : Value).ownBlock)) (by (with_reducible repeat apply pR); exact HO_537002.out) hg (.inl rfl)); replace a := Z (blk_grown (g := az) (o := .cells #[.int .i64 s, .int .i64 u, .slice ar q.length au, .int .i64 x, .bool y, .bool z] 24 (0, 0)) (vK a.out) hg (Kd.R_ne HO_527002.out a.out (by decide))); replace b := Z (blk_grown (g := aA) (o := .cells #[.int .i64 K, .bool L, .bool M, .bool O, .slice aI J.length aJ] 60 (0, 0)) (vK b.out) hg (Kd.R_ne HO_527002.out b.out (by decide))); replace l := Z (blk_grown (g := Q) (o := .cells #[.int .i64 ab, .int .i64 ac, u514002, .int .i64 ad, .bool ae, .bool af] 24 (0, 0)) (vK l.out) hg (Kd.R_ne HO_527002.out l.out (by decide))); replace G := Z (blk_grown (g := d) (o := .cells #[.int .i64 ah, .int .i64 ai, .slice (some ⟨T, 0, none⟩) m.length aQ, .int .i64 aj, .bool ak, .bool al] 24 (0, 0)) (vK G.out) hg (Kd.R_ne HO_527002.out G.out (by decide))); replace ag := Z (blk_grown (g := U) (o := .cells #[.int .i64 aT, .int .i64 aU, u537002, .int .i64 aV, .bool aW, .bool aX] 24 (0, 0)) (vK ag.out) hg (Kd.R_ne HO_527002.out ag.out (by decide))); replace HO_527002 := Z (hp_); replace HB := Z ((by rw [hw]; exact below_set (below_set (below_set (below_set (below_set (below_set (HB.out) bB.out) bB.out) bB.out) bB.out) bB.out) bB.out : Below w.heap.size w aH)); clear hg hw hp_; have jo := bf.out; have jT := aY.out; have jp := bE.out; have jU := be.out; have jq := bg.out; have jV := a1.out; obtain ⟨gw, gx, gy, gz, gA, gB, hp, hq, hs, ht, hu, hv⟩ := cells6 ag.out; have p58 : 0 ≤ (i : Int) := od_; have eW : (i : Int) < ((A.length : Int) : Int) := od_; obtain ⟨X, bi, em, eo, fs, kj, ei⟩ := Kd.R_form HO_537002.out (by omega); (first | cases em | (injection em with ea_ en_ ec_; (first | subst ea_ | (injection ea_ with ea_; subst ea_)); subst ec_; clear en_)); have bC := Z eo; have kd := Z ei; clear eo fs ei; obtain ⟨kf, fa, eq, a8, ba⟩ := Kd.R_elem HO_537002.out z44 (i : Int) p58 eW; obtain rfl := k44_openM eq; have iJ : aH.cell? ⟨X, (i : Int).toNat * 6, none⟩ = some (.bool ((rd_T44 A i).f0)) := a8 0 _ rfl; have iK : aH.cell? ⟨X, (i : Int).toNat * 6 + 1, none⟩ = some (.bool ((rd_T44 A i).f1.f0)) := a8 1 _ rfl; have iL : aH.cell? ⟨X, (i : Int).toNat * 6 + 2, none⟩ = some (.bool ((rd_T44 A i).f1.f1)) := a8 2 _ rfl; have iM : aH.cell? ⟨X, (i : Int).toNat * 6 + 3, none⟩ = some (.int .i64 ((rd_T44 A i).f1.f2)) := a8 3 _ rfl; have iN : aH.cell? ⟨X, (i : Int).toNat * 6 + 4, none⟩ = some (.bool ((rd_T44 A i).f1.f3)) := a8 4 _ rfl; have iO : aH.cell? ⟨X, (i : Int).toNat * 6 + 5, none⟩ = some (.int .u8 ((rd_T44 A i).f2)) := a8 5 _ rfl; have iq : aH.frozen? ⟨X, (i : Int).toNat * 6, none⟩ = false := ba 0; have ir : aH.frozen? ⟨X, (i : Int).toNat * 6 + 1, none⟩ = false := ba 1; have it : aH.frozen? ⟨X, (i : Int).toNat * 6 + 2, none⟩ = false := ba 2; have iu : aH.frozen? ⟨X, (i : Int).toNat * 6 + 3, none⟩ = false := ba 3; have iv : aH.frozen? ⟨X, (i : Int).toNat * 6 + 4, none⟩ = false := ba 4; have iw : aH.frozen? ⟨X, (i : Int).toNat * 6 + 5, none⟩ = false := ba 5; clear fa a8 ba eq; replace p58 := eq_true p58; replace eW := eq_true eW; have ek := Z (show Kd.R k44 44 aH w.heap.size (fun k_ => some k_ ≠ (u514002 : Value).ownBlock ∧ some k_ ≠ (.slice (some ⟨T, 0, none⟩) m.length aQ : Value).ownBlock) (.slice (some ⟨X, 0, none⟩) A.length bi) A from (by (with_reducible repeat apply pR); exact HO_537002.out)); obtain ⟨kh, cE, es, a4, bc⟩ := Kd.R_elem ek.out z44 (i : Int) (od_) (by have h_ : (i : Int) < ((A.length : Int) : Int) := od_; first | exact h_ | (have e_ := (Kd.R_reads' HO_537002.out).1; omega) | simpa using h_); obtain rfl := k44_openM es; have cw := Kd.R_seg ek.out (i : Int) (od_) (by have h_ : (i : Int) < ((A.length : Int) : Int) := od_; first | exact h_ | (have e_ := (Kd.R_reads' HO_537002.out).1; omega) | simpa using h_) (seg := [.bool false, .bool false, .bool false, .int .i64 0, .bool false, .int .u8 7]) (j := 0) cE a4 (show 6 ≤ 6 from by decide) (x' := (⟨false, (⟨false, false, 0, false⟩ : S28), 7⟩ : S44)) (k44_mkM _ _ _ (⟨false, (⟨false, false, 0, false⟩ : S28), 7⟩ : S44) ) (fun _ hk => hk); have eL := a4 0 _ rfl; (try simp only [show (k44).sz = 6 from rfl, Nat.mul_one, Nat.add_zero] at eL); have ez := bc 0; (try simp only [show (k44).sz = 6 from rfl, Nat.mul_one, Nat.add_zero] at ez); have eM := a4 1 _ rfl; (try simp only [show (k44).sz = 6 from rfl, Nat.mul_one, Nat.add_zero] at eM); have eA := bc 1; (try simp only [show (k44).sz = 6 from rfl, Nat.mul_one, Nat.add_zero] at eA); have eN := a4 2 _ rfl; (try simp only [show (k44).sz = 6 from rfl, Nat.mul_one, Nat.add_zero] at eN); have eB := bc 2; (try simp only [show (k44).sz = 6 from rfl, Nat.mul_one, Nat.add_zero] at eB); have eO := a4 3 _ rfl; (try simp only [show (k44).sz = 6 from rfl, Nat.mul_one, Nat.add_zero] at eO); have eC := bc 3; (try simp only [show (k44).sz = 6 from rfl, Nat.mul_one, Nat.add_zero] at eC); have eP := a4 4 _ rfl; (try simp only [show (k44).sz = 6 from rfl, Nat.mul_one, Nat.add_zero] at eP); have eD := bc 4; (try simp only [show (k44).sz = 6 from rfl, Nat.mul_one, Nat.add_zero] at eD); have eQ := a4 5 _ rfl; (try simp only [show (k44).sz = 6 from rfl, Nat.mul_one, Nat.add_zero] at eQ); have eE := bc 5; (try simp only [show (k44).sz = 6 from rfl, Nat.mul_one, Nat.add_zero] at eE); clear cE a4 bc es) | ((with_reducible refine gate_store (t := 44) (p := 54) rfl ?_); refine sx_ 44 54 ((((((aH.setCell ⟨X, (i : Int).toNat * 6, none⟩ (.bool false)).setCell ⟨X, (i : Int).toNat * 6 + 1, none⟩ (.bool false)).setCell ⟨X, (i : Int).toNat * 6 + 2, none⟩ (.bool false)).setCell ⟨X, (i : Int).toNat * 6 + 3, none⟩ (.int .i64 0)).setCell ⟨X, (i : Int).toNat * 6 + 4, none⟩ (.bool false)).setCell ⟨X, (i : Int).toNat * 6 + 5, none⟩ (.int .u8 7)) ?_; intro e1 hw; have hg : aH.grownBy e1 (some X) := (by rw [hw]; exact cw.2); have hp_ : Kd.R k44 44 e1 w.heap.size (fun k_ => some k_ ≠ (u514002 : Value).ownBlock ∧ some k_ ≠ (.slice (some ⟨T, 0, none⟩) m.length aQ : Value).ownBlock) (.slice (some ⟨X, 0, none⟩) A.length bi) cy := (by rw [hw, e6.out]; exact cw.1); clear cw; replace HO_514002 := Z (Kd.R_after (v := (.slice (some ⟨X, 0, none⟩) A.length bi)) (v1 := (.slice (some ⟨X, 0, none⟩) A.length bi)) (ok := (fun k_ => some k_ ≠ (.slice (some ⟨T, 0, none⟩) m.length aQ : Value).ownBlock)) (by (with_reducible repeat apply pR); exact Kd.R_mono HO_514002.out (fun _ hk => ⟨hk.2, hk.1⟩)) hg (.inl rfl)); replace HO_527002 := Z (Kd.R_after (v := (.slice (some ⟨X, 0, none⟩) A.length bi)) (v1 := (.slice (some ⟨X, 0, none⟩) A.length bi)) (ok := (fun k_ => some k_ ≠ (u514002 : Value).ownBlock)) (by (with_reducible repeat apply pR); exact HO_527002.out) hg (.inl rfl)); replace a := Z (blk_grown (g := az) (o := .cells #[.int .i64 s, .int .i64 u, .slice ar q.length au, .int .i64 x, .bool y, .bool z] 24 (0, 0)) (vK a.out) hg (Kd.R_ne HO_537002.out a.out (by decide))); replace b := Z (blk_grown (g := aA) (o := .cells #[.int .i64 K, .bool L, .bool M, .bool O, .slice aI J.length aJ] 60 (0, 0)) (vK b.out) hg (Kd.R_ne HO_537002.out b.out (by decide))); replace l := Z (blk_grown (g := Q) (o := .cells #[.int .i64 ab, .int .i64 ac, u514002, .int .i64 ad, .bool ae, .bool af] 24 (0, 0)) (vK l.out) hg (Kd.R_ne HO_537002.out l.out (by decide))); replace G := Z (blk_grown (g := d) (o := .cells #[.int .i64 ah, .int .i64 ai, .slice (some ⟨T, 0, none⟩) m.length aQ, .int .i64 aj, .bool ak, .bool al] 24 (0, 0)) (vK G.out) hg (Kd.R_ne HO_537002.out G.out (by decide))); replace ag := Z (blk_grown (g := U) (o := .cells #[.int .i64 aT, .int .i64 aU, .slice (some ⟨X, 0, none⟩) A.length bi, .int .i64 aV, .bool aW, .bool aX] 24 (0, 0)) (vK ag.out) hg (Kd.R_ne HO_537002.out ag.out (by decide))); replace HO_537002 := Z (hp_); replace HB := Z ((by rw [hw]; exact below_set (below_set (below_set (below_set (below_set (below_set (HB.out) bC.out) bC.out) bC.out) bC.out) bC.out) bC.out : Below w.heap.size w e1)); clear hg hw hp_))
          go_roundg k2
          case measure => have := fg.out; have := fh.out; omega
          case rel => exact ⟨(wrap64 (i + 1)), (ap), (cp), (cy), (u514002), (.slice (some ⟨T, 0, none⟩) m.length aQ), (.slice (some ⟨X, 0, none⟩) A.length bi), (dn_), H', ⟨by have := fg.out; have := fh.out; omega⟩, ⟨by (with_reducible repeat apply pR); exact HO_514002.out⟩, ⟨by (with_reducible repeat apply pR); exact HO_527002.out⟩, ⟨by (with_reducible repeat apply pR); exact HO_537002.out⟩, ⟨vK a.out⟩, ⟨vK b.out⟩, ⟨vK l.out⟩, ⟨vK G.out⟩, ⟨vK ag.out⟩, ⟨bl_⟩⟩
         ·rw [if_neg cA] at H
          exact absurd H (by simp)
        ·rw [if_neg cz] at H
         exact absurd H (by simp)
       ·rw [if_neg bI] at H
        have e7 : decide (i < (m.length : Int)) = false := decide_eq_false bI
        clear bI
        replace H := Option.bind_eq_some_iff.mp H
        obtain ⟨eZ, ee, H⟩ := H
        replace H : (some eZ) = some r := H
        have ic := Z ee
        clear ee
        obtain rfl := Option.some.inj H
        have jr := aN.out
        have jW := aw.out
        have js := aO.out
        have jX := ax.out
        have jt := aP.out
        have jY := ay.out
        have ju := a2.out
        have jZ := bh.out
        obtain ⟨gC, gD, gE, gF, gG, gH, hx, hy, hz, hA, hB, hC⟩ := cells6 G.out
        obtain ⟨ka, kl, fo⟩ := Kd.R_slice HO_527002.out
        subst fo
        have jv := aL.out
        have j1 := aM.out
        have jw := aC.out
        have j2 := aZ.out
        have jx := aY.out
        have j3 := bf.out
        obtain ⟨gI, gJ, gK, gL, gM, gN, hD, hE, hF, hH, hI, hJ⟩ := cells6 a.out
        have jy := a0.out
        have j4 := aD.out
        have jz := a1.out
        have j5 := bg.out
        obtain ⟨gO, gP, gQ, gR, gS, gT, hK, hL, hM, hN, hO, hP⟩ := cells6 l.out
        obtain ⟨fi, fj, fp⟩ := Kd.R_slice HO_514002.out
        subst fp
        go_wp2_with (first | ((with_reducible refine gate_callee (f := 19) rfl ?_); refine goesL_ (some 57) rfl rfl Tryd.func19 (by kernel_rfl) rfl #[.agg #[.int .i64 s, .int .i64 u, .slice ar q.length au, .int .i64 x, .bool y, .bool z], .agg #[.int .i64 ab, .int .i64 ac, .slice fi ap.length fj, .int .i64 ad, .bool ae, .bool af]] rfl ag_ ?_; (with_reducible refine (shutterref10_Same.calls k2 s u _ _ q x y z ab ac _ _ ap ad ae af eZ _ ?side1 ?side2 ?side3 ?side4 ic.out).mono ?_); (case side1 => repeat (first | exact (Kd.C_below aS.out HB.out) | (with_reducible apply pC))); (case side2 => exact aR.out); (case side3 => repeat (first | exact (Kd.R_reads' HO_514002.out).2.2 | (with_reducible apply pC))); (case side4 => exact (Kd.R_reads' HO_514002.out).2.1); rintro e kW ⟨rfl, hb⟩; refine ⟨_, rfl, ?_⟩; replace HO_514002 := Z (rb HO_514002.out hb); replace HO_527002 := Z (rb HO_527002.out hb); replace HO_537002 := Z (rb HO_537002.out hb); replace a := Z (kb a.out hb); replace b := Z (kb b.out hb); replace l := Z (kb l.out hb); replace G := Z (kb G.out hb); replace ag := Z (kb ag.out hb); replace HB := Z (below_step bl_ hb); (try clear hb); (try clear bd); (try clear hk); (try clear hi)))
        go_ret
        exact ⟨er_, bl_⟩
    ·have H1 : ((shutterref10_Same.f aG s u q x y z ab ac Y ad ae af).bind fun a6 => (some a6)) = some r := by rw [if_neg (show ¬ (some cx).isNone = true by simp)] at H; exact H
     clear H
     have H := H1
     clear H1
     try simp only [errW_none, errW_some]
     replace H := Option.bind_eq_some_iff.mp H
     obtain ⟨a6, ef, H⟩ := H
     replace H : (some a6) = some r := H
     have ie := Z ef
     clear ef
     obtain rfl := Option.some.inj H
     have jA := aL.out
     have j6 := aM.out
     obtain ⟨gU, gV, gW, gX, gY, gZ, hQ, hR, hS, hT, hU, hV⟩ := cells6 a.out
     go_wp2_with (first | ((with_reducible refine gate_callee (f := 25) rfl ?_); refine goesL_ (some 24) rfl rfl Tryd.func25 (by kernel_rfl) rfl #[.agg #[.int .i64 s, .int .i64 u, .slice ar q.length au, .int .i64 x, .bool y, .bool z]] rfl ag_ ?_; (with_reducible refine (shutterref10_Copy.calls s u _ _ q x y z ab ac Y ad ae af _ ?side1 ?side2 fc.out).mono ?_); (case side1 => repeat (first | exact (Kd.C_below aS.out HB.out) | (with_reducible apply pC))); (case side2 => exact aR.out); rintro e kX ⟨go, rfl, aF, hb⟩; refine ⟨_, rfl, ?_⟩; have B := Z (Kd.R_lower aF (below_size bl_)); replace a := Z (kb a.out hb); replace b := Z (kb b.out hb); replace HB := Z (below_step bl_ hb); (try clear hb); (try clear bd); (try clear hk); (try clear hi); (try clear aF)) | ((with_reducible refine gate_dst (N := 5) rfl ?_); refine bx_ 5 24 #[.int .i64 0, .int .i64 0, .slice none 0 0, .int .i64 0, .bool false, .bool false] ?_; intro Q hg iR hbox hb; replace B := Z (rb B.out hb); have l := Z (hbox); have bF := Z (ln_ hg : w.heap.size ≤ Q); have e2 := Z (ln_ hg : w.heap.size ≤ Q); replace HB := Z (below_step bl_ hb); have aC := Z (nl a.out hg); have aZ := Z (ng a.out hg); replace a := Z (kb a.out hb); have aD := Z (nl b.out hg); have a0 := Z (ng b.out hg); replace b := Z (kb b.out hb); clear hb hbox hg; have jB := aZ.out; have j7 := aC.out; have jC := a0.out; have j8 := aD.out; obtain ⟨g0, g1, g2, g3, g4, g5, hW, hX, hY, hZ, h0, h1⟩ := cells6 l.out; obtain ⟨br, bj, fq⟩ := Kd.R_slice B.out; subst fq) | ((with_reducible refine gate_store (t := 24) (p := 5) rfl ?_); refine sx_ 24 5 ((((((iR.setCell ⟨Q, 0, none⟩ (.int .i64 ab)).setCell ⟨Q, 1, none⟩ (.int .i64 ac)).setCell ⟨Q, 2, none⟩ (.slice br Y.length bj)).setCell ⟨Q, 3, none⟩ (.int .i64 ad)).setCell ⟨Q, 4, none⟩ (.bool ae)).setCell ⟨Q, 5, none⟩ (.bool af)) ?_; intro cu hw; replace B : Aside0 (Kd.R k44 44 cu w.heap.size (fun _ => True) (.slice br Y.length bj) Y) := ⟨(by rw [hw]; exact (by (with_reducible repeat apply pR); exact R_off B.out l.out (by decide) off2_))⟩; replace a : Aside0 (cu.heap[az]? = some (.cells #[.int .i64 s, .int .i64 u, .slice ar q.length au, .int .i64 x, .bool y, .bool z] 24 (0, 0))) := ⟨(by rw [hw]; exact (by (with_reducible repeat apply pK); exact blk_off a.out aC.out off2_))⟩; replace b : Aside0 (cu.heap[aA]? = some (.cells #[.int .i64 K, .bool L, .bool M, .bool O, .slice aI J.length aJ] 60 (0, 0))) := ⟨(by rw [hw]; exact (by (with_reducible repeat apply pK); exact blk_off b.out aD.out off2_))⟩; replace l : Aside0 (cu.heap[Q]? = some (.cells #[.int .i64 ab, .int .i64 ac, .slice br Y.length bj, .int .i64 ad, .bool ae, .bool af] 24 (0, 0))) := ⟨by rw [hw]; exact (put6 l.out)⟩; replace HB : Aside0 (Below w.heap.size w cu) := ⟨by rw [hw]; exact bl_⟩; clear hw; obtain ⟨g6, g7, g8, g9, ha, hc, h2, h3, h4, h5, h6, h7⟩ := cells6 a.out; obtain ⟨ft, fu, fv, fw, fx, fQ, fR, fS, fT, fU⟩ := cells5 b.out) | ((with_reducible refine gate_callee (f := 31) rfl ?_); refine goesL_ (some 28) rfl rfl Tryd.func31 (by kernel_rfl) rfl #[.agg #[.int .i64 s, .int .i64 u, .slice ar q.length au, .int .i64 x, .bool y, .bool z], .agg #[.int .i64 K, .bool L, .bool M, .bool O, .slice aI J.length aJ]] rfl ag_ ?_; (with_reducible refine (host_Do.calls aG s u (fun k_ => k_ < w.heap.size) _ _ q x y z K L M O _ _ J ah ai av aj ak al (some cx) eY _ ?side1 ?side2 ?side3 fd.out).mono ?_); (case side1 => exact Kd.V_mk aR.out (Kd.F_below (Kd.C_F k44_heap aS.out) bl_)); (case side2 => repeat (first | exact (Kd.C_below cl.out HB.out) | (with_reducible apply pC))); (case side3 => exact ck.out); rintro e ku ⟨e0, gp, rfl, aF, cr, hb⟩; refine ⟨_, rfl, ?_⟩; have aa := Z (Kd.V_lower (Kd.V_mono (ok' := fun k_ => some k_ ≠ (.slice br Y.length bj : Value).ownBlock ∧ k_ ≠ az ∧ k_ ≠ aA ∧ k_ ≠ Q) aF (fun k_ hk_ => ⟨Or.elim hk_ (fun hs_ => fun e_ => Nat.not_le.2 hs_ (Kd.R_base B.out k_ e_.symm)) (fun hn_ => (Kd.fresh' (Kd.R_lt (by (with_reducible repeat apply pR); exact B.out)) k_ hn_)), Or.elim hk_ (fun hs_ => fun e_ => Nat.not_le.2 hs_ (by rw [e_]; exact ci.out)) (fun hn_ => (fb a.out k_ hn_)), Or.elim hk_ (fun hs_ => fun e_ => Nat.not_le.2 hs_ (by rw [e_]; exact cj.out)) (fun hn_ => (fb b.out k_ hn_)), Or.elim hk_ (fun hs_ => fun e_ => Nat.not_le.2 hs_ (by rw [e_]; exact bF.out)) (fun hn_ => (fb l.out k_ hn_))⟩)) (below_size bl_)); have an := Z (Kd.V_lower (Kd.V_mono (ok' := fun k_ => some k_ ≠ (.slice br Y.length bj : Value).ownBlock ∧ k_ ≠ az ∧ k_ ≠ aA ∧ k_ ≠ Q) cr (fun k_ hk_ => ⟨Or.elim hk_ (fun hs_ => fun e_ => Nat.not_le.2 hs_ (Kd.R_base B.out k_ e_.symm)) (fun hn_ => (Kd.fresh' (Kd.R_lt (by (with_reducible repeat apply pR); exact B.out)) k_ hn_)), Or.elim hk_ (fun hs_ => fun e_ => Nat.not_le.2 hs_ (by rw [e_]; exact ci.out)) (fun hn_ => (fb a.out k_ hn_)), Or.elim hk_ (fun hs_ => fun e_ => Nat.not_le.2 hs_ (by rw [e_]; exact cj.out)) (fun hn_ => (fb b.out k_ hn_)), Or.elim hk_ (fun hs_ => fun e_ => Nat.not_le.2 hs_ (by rw [e_]; exact bF.out)) (fun hn_ => (fb l.out k_ hn_))⟩)) (below_size bl_)); replace B := Z (rb B.out hb); replace a := Z (kb a.out hb); replace b := Z (kb b.out hb); replace l := Z (kb l.out hb); replace HB := Z (below_step bl_ hb); (try clear hb); (try clear bd); (try clear hk); (try clear hi); (try clear aF); (try clear cr); (try simp only [errW_none, errW_some])) | ((with_reducible refine gate_dst (N := 6) rfl ?_); refine bx_ 6 24 #[.int .i64 0, .int .i64 0, .slice none 0 0, .int .i64 0, .bool false, .bool false] ?_; intro d hg kv hbox hb; replace B := Z (rb B.out hb); replace aa := Z (ve aa.out hg hb); replace an := Z (ve an.out hg hb); have G := Z (hbox); have e4 := Z (ln_ hg : w.heap.size ≤ d); have e3 := Z (ln_ hg : w.heap.size ≤ d); replace HB := Z (below_step bl_ hb); have aw := Z (nl a.out hg); have aN := Z (ng a.out hg); replace a := Z (kb a.out hb); have ax := Z (nl b.out hg); have aO := Z (ng b.out hg); replace b := Z (kb b.out hb); have ay := Z (nl l.out hg); have aP := Z (ng l.out hg); replace l := Z (kb l.out hb); clear hb hbox hg; have ix := aN.out; have iA := aw.out; have iy := aO.out; have iB := ax.out; have iz := aP.out; have iC := ay.out; obtain ⟨fy, fz, fA, fB, fC, fD, fV, fW, fX, fY, fZ, ga⟩ := cells6 G.out; obtain ⟨bu, bw, e8⟩ := Kd.V_slice aa.out; subst e8; obtain ⟨fE, fF, fG, fH, fI, fJ, gb, gc, gd, ge, gf, gg⟩ := cells6 a.out; obtain ⟨fK, fL, fM, fN, fO, fP, gh, gi, gj, gl, gm, gn⟩ := cells6 l.out) | ((with_reducible refine gate_callee (f := 19) rfl ?_); refine goesL_ (some 35) rfl rfl Tryd.func19 (by kernel_rfl) rfl #[.agg #[.int .i64 s, .int .i64 u, .slice ar q.length au, .int .i64 x, .bool y, .bool z], .agg #[.int .i64 ab, .int .i64 ac, .slice br Y.length bj, .int .i64 ad, .bool ae, .bool af]] rfl ag_ ?_; (with_reducible refine (shutterref10_Same.calls aG s u _ _ q x y z ab ac _ _ Y ad ae af a6 _ ?side1 ?side2 ?side3 ?side4 ie.out).mono ?_); (case side1 => exact Kd.C_below aS.out bl_); (case side2 => exact aR.out); (case side3 => refine (Kd.R_reads' (e := 44) (base := w.heap.size) (ok := fun k_ => True) (n := Y.length) (c := bj) ?_).2.2; exact (by (with_reducible repeat apply pR); exact (Kd.R_mono (f6R d (Kd.R_types B.out G.out (by decide)) (fun _ hk => hk.2)) (fun _ h_ => h_.1)))); (case side4 => exact (Kd.R_reads' B.out).2.1); rintro e kw ⟨rfl, hb⟩; refine ⟨_, rfl, ?_⟩; replace B := Z (Kd.R_below (by (with_reducible repeat apply pR); exact (Kd.R_mono (f6R d (Kd.R_types B.out G.out (by decide)) (fun _ hk => hk.2)) (fun _ h_ => h_.1))) hb); replace aa := Z (Kd.V_below (by (with_reducible repeat apply pV); exact (Kd.V_mono (f6V d (Kd.V_mono aa.out (fun k_ hk => (⟨hk, hk.2⟩ : _ ∧ k_ ≠ d))) (fun _ hk => hk.2)) (fun _ h_ => h_.1))) hb); replace an := Z (Kd.V_below (by (with_reducible repeat apply pV); exact (Kd.V_mono (f6V d (Kd.V_mono an.out (fun k_ hk => (⟨hk, hk.2⟩ : _ ∧ k_ ≠ d))) (fun _ hk => hk.2)) (fun _ h_ => h_.1))) hb); replace a := Z (blk_below (g := az) (o := .cells #[.int .i64 s, .int .i64 u, .slice ar q.length au, .int .i64 x, .bool y, .bool z] 24 (0, 0)) (by (with_reducible repeat apply pK); exact blk_off a.out aw.out off2_) hb); replace b := Z (blk_below (g := aA) (o := .cells #[.int .i64 K, .bool L, .bool M, .bool O, .slice aI J.length aJ] 60 (0, 0)) (by (with_reducible repeat apply pK); exact blk_off b.out ax.out off2_) hb); replace l := Z (blk_below (g := Q) (o := .cells #[.int .i64 ab, .int .i64 ac, .slice br Y.length bj, .int .i64 ad, .bool ae, .bool af] 24 (0, 0)) (by (with_reducible repeat apply pK); exact blk_off l.out ay.out off2_) hb); replace G := Z (blk_below (g := d) (o := .cells #[.int .i64 ah, .int .i64 ai, .slice bu av.length bw, .int .i64 aj, .bool ak, .bool al] 24 (0, 0)) (put6 G.out) hb); replace HB := Z (below_step bl_ hb); (try clear hb); (try clear bd); (try clear hk); (try clear hi)))
     go_ret
     exact ⟨er_, bl_⟩

end Go.Proofs.YtgboplhcjhlabaaDoor.P
