/- Printed walks of the law's functions, joined by joinpx.py: each function as a plain Lean function, and that Go's code comes to its answer. -/
import Derived.Test.YtggecanpjkpkiaaDoorJKeysKeeps1
namespace Go.Proofs.YtggecanpjkpkiaaDoor.P
open Go.RowKit Go.Proofs.YtggecanpjkpkiaaDoorW.PrintWords Go.Proofs.YtggecanpjkpkiaaDoorW.PrintLast Go.Proofs.YtggecanpjkpkiaaDoorW.PrintMore
attribute [local go_sem] max2_int min2_int max_two min_two max_three min_three max_four min_four
attribute [local go_sem] Instr.field asAgg
set_option linter.unusedVariables false
set_option linter.unusedSimpArgs false
set_option maxHeartbeats 8000000
set_option maxRecDepth 100000
theorem V_ne_10 {α : Type} {d : Kd α} {e base g n c : Nat} {ok : Nat → Prop} {W : World} {ad : Addr} {xs : List α} (h : Kd.V d e W base ok (.slice (some ad) n c) xs) (hg : ∀ k, ok k → k ≠ g) (hn : 0 < n) (hs : 0 < d.sz) : ad.block ≠ g := by
 intro he
 have hl := (Kd.V_at h).1
 have hC : d.C { W with heap := W.heap.setIfInBounds g (.cells #[] 0) } (some ad) xs.length xs := (Kd.V_at h).2.2 _ (fun k hk _ => by simp [Ne.symm (hg k hk)])
 obtain ⟨ad', hea, hc⟩ := hC.2.2 (by omega)
 injection hea with hea
 subst hea
 obtain ⟨cl, hcl, _, hcell⟩ := hc 0 _ (List.getElem?_eq_getElem (by omega))
 have a := hcell 0 _ (List.getElem?_eq_getElem (by omega))
 rw [Nat.zero_mul, Nat.zero_add, Addr.add_zero'] at a
 subst he
 by_cases hlt : ad.block < W.heap.size <;> simp [World.cell?, hlt] at a
def shutterref11_mod.l0 : Nat → Int → Int → Option (Int)
 | 0, _, _ => none
 | k + 1, b, a => if b < 0 then (shutterref11_mod.l0 k (wrap64 (b + a)) a) else (if a = 0 then (none) else (some (Int.tmod b a)))
def shutterref11_mod.f (k : Nat) (a0 : Int) (a1 : Int) : Option (Int) := shutterref11_mod.l0 k a0 a1
theorem shutterref11_mod.mono_l : ∀ k, (∀ b c, LeO (shutterref11_mod.l0 k b c) (shutterref11_mod.l0 (k + 1) b c))
 | 0 => fun _ _ r h => by simp [shutterref11_mod.l0] at h
 | k + 1 => by
  have a := shutterref11_mod.mono_l k
  ·intro b c
   unfold shutterref11_mod.l0
   repeat' first
   | (with_reducible exact a _ _)
   | (with_reducible exact LeO.refl _)
   | (with_reducible exact LeO.none _)
   | (with_reducible refine LeO.ite ?_ ?_)
   | (with_reducible refine LeO.bind ?_ (fun _ => ?_))
   | exact a _ _
   | exact LeO.none _
   | refine LeO.ite ?_ ?_
   | refine LeO.bind ?_ (fun _ => ?_)
theorem shutterref11_mod.mono : ∀ a0 a1 k, LeO (shutterref11_mod.f k a0 a1) (shutterref11_mod.f (k + 1) a0 a1) := by
 intro a0 a1 k
 have a := shutterref11_mod.mono_l k
 unfold shutterref11_mod.f
 repeat' first
   | (with_reducible exact a _ _)
   | (with_reducible exact LeO.refl _)
   | (with_reducible exact LeO.none _)
   | (with_reducible refine LeO.ite ?_ ?_)
   | (with_reducible refine LeO.bind ?_ (fun _ => ?_))
   | exact a _ _
   | exact LeO.none _
   | refine LeO.ite ?_ ?_
   | refine LeO.bind ?_ (fun _ => ?_)
theorem shutterref11_mod.calls (k : Nat) (a0 : Int) (a1 : Int) (r : Int) (w : World) (h : shutterref11_mod.f k a0 a1 = some r) :
  Calls Tryd.prog 47 #[.int .i64 a0, .int .i64 a1] w fun e w' => e = .returned (.int .i64 r) ∧ Drawn0 w w' := by
 have H : (shutterref11_mod.l0 k a0 a1) = some r := h
 clear h
 have H' := Z H
 clear H
 go_enter Tryd.func47, Tryd.ntmps47
 go_wp2
 go_loopg [0] k (fun kq i w' => ∃ (a : Int), i = .int .i64 a ∧ Aside0 (shutterref11_mod.l0 kq a a1 = some r) ∧ Aside0 (kq ≤ k) ∧ Drawn0 w w')
 case atStart => exact ⟨(a0), (dn_), H', ⟨Nat.le_refl _⟩, dr_⟩
 case round =>
  clear H'
  obtain ⟨a, rfl, HA, b, ⟨j, rfl⟩⟩ := hrel
  cases gk with
  | zero => exact absurd HA.out (by simp [shutterref11_mod.l0])
  | succ k1 =>
   have H := HA.out
   clear HA
   simp only [shutterref11_mod.l0] at H
   by_cases c3 : a < 0
   ·rw [if_pos c3] at H
    have c : decide (a < 0) = true := decide_eq_true c3
    clear c3
    have H' := Z H
    clear H
    go_wp2
    go_roundg k1
    case measure => have := b.out; omega
    case rel => exact ⟨(wrap64 (a + a1)), (dn_), H', ⟨by have := b.out; omega⟩, dr_⟩
   ·rw [if_neg c3] at H
    have c : decide (a < 0) = false := decide_eq_false c3
    clear c3
    by_cases c4 : a1 = 0
    ·rw [if_pos c4] at H
     exact absurd H (by simp)
    ·rw [if_neg c4] at H
     obtain ⟨d, g⟩ := eF_ c4
     obtain rfl := Option.some.inj H
     go_wp2
     go_ret
     exact ⟨dn_, dr_⟩
def shutterref11_Begin.l0 : Nat → Int → Int → Int → Int → List (S35) → Int → Bool → Bool → Option (Int)
 | 0, _, _, _, _, _, _, _, _ => none
 | k + 1, j, i, c, d, a, e, g, h => if i < (a.length : Int) then ((shutterref11_mod.f k (wrap64 (j - i)) (a.length : Int)).bind fun b => (if 0 ≤ b then (if b < (a.length : Int) then (if (rd_T35 a b).f0 = true then (some b) else (shutterref11_Begin.l0 k j (wrap64 (i + 1)) c d a e g h)) else (none)) else (none))) else (some (-1))
def shutterref11_Begin.f (k : Nat) (a : Int) (b : Int) (g : List (S35)) (c : Int) (d : Bool) (e : Bool) (a1 : Int) : Option (Int) := shutterref11_Begin.l0 k a1 0 a b g c d e
theorem shutterref11_Begin.mono_l : ∀ k, (∀ b c d e f g i j, LeO (shutterref11_Begin.l0 k b c d e f g i j) (shutterref11_Begin.l0 (k + 1) b c d e f g i j))
 | 0 => fun _ _ _ _ _ _ _ _ r h => by simp [shutterref11_Begin.l0] at h
 | k + 1 => by
  have a := shutterref11_Begin.mono_l k
  ·intro b c d e f g i j
   unfold shutterref11_Begin.l0
   repeat' first
   | (with_reducible exact a _ _ _ _ _ _ _ _)
   | (with_reducible exact shutterref11_mod.mono _ _ _)
   | (with_reducible exact LeO.refl _)
   | (with_reducible exact LeO.none _)
   | (with_reducible refine LeO.ite ?_ ?_)
   | (with_reducible refine LeO.bind ?_ (fun _ => ?_))
   | exact a _ _ _ _ _ _ _ _
   | exact shutterref11_mod.mono _ _ _
   | exact LeO.none _
   | refine LeO.ite ?_ ?_
   | refine LeO.bind ?_ (fun _ => ?_)
theorem shutterref11_Begin.mono : ∀ a0 a1 b c a4 d e k, LeO (shutterref11_Begin.f k a0 a1 b c a4 d e) (shutterref11_Begin.f (k + 1) a0 a1 b c a4 d e) := by
 intro a0 a1 b c a4 d e k
 have a := shutterref11_Begin.mono_l k
 unfold shutterref11_Begin.f
 repeat' first
   | (with_reducible exact a _ _ _ _ _ _ _ _)
   | (with_reducible exact shutterref11_mod.mono _ _ _)
   | (with_reducible exact LeO.refl _)
   | (with_reducible exact LeO.none _)
   | (with_reducible refine LeO.ite ?_ ?_)
   | (with_reducible refine LeO.bind ?_ (fun _ => ?_))
   | exact a _ _ _ _ _ _ _ _
   | exact shutterref11_mod.mono _ _ _
   | exact LeO.none _
   | refine LeO.ite ?_ ?_
   | refine LeO.bind ?_ (fun _ => ?_)
theorem shutterref11_Begin.calls (k : Nat) (n : Int) (o : Int) (z : Option Addr) (A : Nat) (a : List (S35)) (p : Int) (q : Bool) (s : Bool) (a1 : Int) (r : Int) (w : World) (I : Kd.C k35 w z a.length a) (G : a.length ≤ A) (h : shutterref11_Begin.f k n o a p q s a1 = some r) :
  Calls Tryd.prog 21 #[.agg #[.int .i64 n, .int .i64 o, .slice z a.length A, .int .i64 p, .bool q, .bool s], .int .i64 a1] w fun e w' => e = .returned (.int .i64 r) ∧ Below w.heap.size w w' := by
 have aM := Tryd.underlying24
 have F := Z I
 have aJ := Z G
 clear I G
 have HB := Z (Below.refl w.heap.size w)
 have H : (shutterref11_Begin.l0 k a1 0 n o a p q s) = some r := h
 clear h
 have H' := Z H
 clear H
 go_enter Tryd.func21, Tryd.ntmps21
 go_wp2_with (first | ((with_reducible refine gate_dst (N := 2) rfl ?_); refine bx_ 2 24 #[.int .i64 n, .int .i64 o, .slice z a.length A, .int .i64 p, .bool q, .bool s] ?_; intro B hg w3 hbox hb; have v := Z (hbox); have aI := Z (ln_ hg : w.heap.size ≤ B); have aH := aI; replace HB := bs_ hb; clear hb hbox hg))
 go_loopg [5] k (fun kq v5 w' => ∃ (j : Int), v5 = .int .i64 j ∧ Aside0 (shutterref11_Begin.l0 kq a1 j n o a p q s = some r) ∧ Aside0 (kq ≤ k) ∧ Aside0 (w'.heap[B]? = some (.cells #[.int .i64 n, .int .i64 o, (.slice z a.length A), .int .i64 p, .bool q, .bool s] 24 (0, 0))) ∧ Aside0 (Below w.heap.size w w'))
 case atStart => exact ⟨(0), (dn_), H', ⟨Nat.le_refl _⟩, ⟨vK v.out⟩, ⟨bl_⟩⟩
 case round =>
  clear H'
  obtain ⟨j, rfl, HA, L, v, HB⟩ := hrel
  cases gk with
  | zero => exact absurd HA.out (by simp [shutterref11_Begin.l0])
  | succ k1 =>
   have H := HA.out
   clear HA
   simp only [shutterref11_Begin.l0] at H
   by_cases c4 : j < (a.length : Int)
   ·rw [if_pos c4] at H
    have S : decide (j < (a.length : Int)) = true := decide_eq_true c4
    clear c4
    replace H := Option.bind_eq_some_iff.mp H
    obtain ⟨b, K, H⟩ := H
    replace H : (if 0 ≤ b then (if b < (a.length : Int) then (if (rd_T35 a b).f0 = true then (some b) else (shutterref11_Begin.l0 k1 a1 (wrap64 (j + 1)) n o a p q s)) else (none)) else (none)) = some r := H
    have A5 := Z K
    clear K
    by_cases c6 : 0 ≤ b
    ·rw [if_pos c6] at H
     have aK : decide (0 ≤ b) = true := decide_eq_true c6
     clear c6
     by_cases c7 : b < (a.length : Int)
     ·rw [if_pos c7] at H
      have aL : decide (b < (a.length : Int)) = true := decide_eq_true c7
      clear c7
      obtain ⟨M, E⟩ : ∃ b_ : Bool, b_ = ((rd_T35 a b).f0) := ⟨_, rfl⟩
      replace H : (if M = true then (some b) else (shutterref11_Begin.l0 k1 a1 (wrap64 (j + 1)) n o a p q s)) = some r := by rw [← E] at H; exact H
      have u := Z E
      clear E
      by_cases c9 : M = true
      ·subst c9
       have H1 : (some b) = some r := by rw [if_pos rfl] at H; exact H
       clear H
       have H := H1
       clear H1
       obtain rfl := Option.some.inj H
       obtain ⟨T, U, V, W, X, Y, am, an, ao, ap, aq, ar⟩ := cells6 v.out
       go_wp2_with (first | ((with_reducible refine gate_callee (f := 47) rfl ?_); refine goesL_ (some 20) rfl rfl Tryd.func47 (by kernel_rfl) rfl #[.int .i64 (wrap64 (a1 - j)), .int .i64 (a.length : Int)] rfl ag_ ?_; (with_reducible refine (shutterref11_mod.calls k1 (wrap64 (a1 - j)) (a.length : Int) b _ A5.out).mono ?_); rintro e w' ⟨rfl, ⟨nd, rfl⟩⟩; refine ⟨_, rfl, ?_⟩; have x : 0 ≤ (b : Int) := od_; have y : b < (a.length : Int) := od_; obtain ⟨J, D, c, d, g, l, i, m⟩ := at_T35 F.out b x y; (try rw [← u.out] at c); (try rw [← u.out] at d); (try rw [← u.out] at g); (try rw [← u.out] at i); cases D; replace c := (HB.out.cell (bk_ w _ c)).trans c; replace d := (HB.out.cell (bk_ w _ d)).trans d; replace g := (HB.out.cell (bk_ w _ g)).trans g; replace l := (HB.out.cell (bk_ w _ l)).trans l; replace i := (HB.out.cell (bk_ w _ i)).trans i; replace m := (HB.out.cell (bk_ w _ m)).trans m; replace x := eq_true x; replace y := eq_true y))
       go_ret
       exact ⟨er_, bl_⟩
      ·replace c9 := Bool.eq_false_iff.mpr c9
       subst c9
       have H1 : (shutterref11_Begin.l0 k1 a1 (wrap64 (j + 1)) n o a p q s) = some r := by rw [if_neg (show ¬ (false = true) by decide)] at H; exact H
       clear H
       have H := H1
       clear H1
       have H' := Z H
       clear H
       obtain ⟨aa, ab, ac, ad, ae, af, au, av, aw, ax, ay, az⟩ := cells6 v.out
       go_wp2_with (first | ((with_reducible refine gate_callee (f := 47) rfl ?_); refine goesL_ (some 20) rfl rfl Tryd.func47 (by kernel_rfl) rfl #[.int .i64 (wrap64 (a1 - j)), .int .i64 (a.length : Int)] rfl ag_ ?_; (with_reducible refine (shutterref11_mod.calls k1 (wrap64 (a1 - j)) (a.length : Int) b _ A5.out).mono ?_); rintro e w' ⟨rfl, ⟨nd, rfl⟩⟩; refine ⟨_, rfl, ?_⟩; have x : 0 ≤ (b : Int) := od_; have y : b < (a.length : Int) := od_; obtain ⟨J, D, c, d, g, l, i, m⟩ := at_T35 F.out b x y; (try rw [← u.out] at c); (try rw [← u.out] at d); (try rw [← u.out] at g); (try rw [← u.out] at i); cases D; replace c := (HB.out.cell (bk_ w _ c)).trans c; replace d := (HB.out.cell (bk_ w _ d)).trans d; replace g := (HB.out.cell (bk_ w _ g)).trans g; replace l := (HB.out.cell (bk_ w _ l)).trans l; replace i := (HB.out.cell (bk_ w _ i)).trans i; replace m := (HB.out.cell (bk_ w _ m)).trans m; replace x := eq_true x; replace y := eq_true y))
       go_roundg k1
       case measure => have := L.out; omega
       case rel => exact ⟨(wrap64 (j + 1)), (dn_), H', ⟨by have := L.out; omega⟩, ⟨vK v.out⟩, ⟨bl_⟩⟩
     ·rw [if_neg c7] at H
      exact absurd H (by simp)
    ·rw [if_neg c6] at H
     exact absurd H (by simp)
   ·rw [if_neg c4] at H
    have S : decide (j < (a.length : Int)) = false := decide_eq_false c4
    clear c4
    obtain rfl := Option.some.inj H
    obtain ⟨ag, ah, ai, aj, ak, al, aA, aB, aC, aD, aE, aF⟩ := cells6 v.out
    go_wp2
    go_ret
    exact ⟨er_, bl_⟩
def shutterref11_Of.f (k : Nat) (c : Int) (d : Int) (b : List (S35)) (e : Int) (g : Bool) (h : Bool) (a1 : Int) : Option (Bool × Bool × Int × Bool) := (shutterref11_Begin.f k c d b e g h a1).bind fun a => (if a < 0 then (some (false, false, 0, false)) else (if 0 ≤ a then (if a < (b.length : Int) then (some ((rd_T35 b a).f1.f0, (rd_T35 b a).f1.f1, (rd_T35 b a).f1.f2, (rd_T35 b a).f1.f3)) else (none)) else (none)))
theorem shutterref11_Of.mono : ∀ a0 a1 a b a4 c d k, LeO (shutterref11_Of.f k a0 a1 a b a4 c d) (shutterref11_Of.f (k + 1) a0 a1 a b a4 c d) := by
 intro a0 a1 a b a4 c d k
 unfold shutterref11_Of.f
 repeat' first
   | (with_reducible exact shutterref11_Begin.mono _ _ _ _ _ _ _ _)
   | (with_reducible exact LeO.refl _)
   | (with_reducible exact LeO.none _)
   | (with_reducible refine LeO.ite ?_ ?_)
   | (with_reducible refine LeO.bind ?_ (fun _ => ?_))
   | exact shutterref11_Begin.mono _ _ _ _ _ _ _ _
   | exact LeO.none _
   | refine LeO.ite ?_ ?_
   | refine LeO.bind ?_ (fun _ => ?_)
theorem shutterref11_Of.calls (k : Nat) (l : Int) (m : Int) (x : Option Addr) (y : Nat) (b : List (S35)) (n : Int) (o : Bool) (p : Bool) (a1 : Int) (X : Bool) (Y : Bool) (r3 : Int) (r4 : Bool) (w : World) (S : Kd.C k35 w x b.length b) (R : b.length ≤ y) (h : shutterref11_Of.f k l m b n o p a1 = some (X, Y, r3, r4)) :
  Calls Tryd.prog 48 #[.agg #[.int .i64 l, .int .i64 m, .slice x b.length y, .int .i64 n, .bool o, .bool p], .int .i64 a1] w fun e w' => e = .returned (.agg #[.bool X, .bool Y, .int .i64 r3, .bool r4]) ∧ Below w.heap.size w w' := by
 have bh := Tryd.underlying24
 have bi := Tryd.underlying33
 have G := Z S
 have O := Z R
 clear S R
 have HB := Z (Below.refl w.heap.size w)
 have H : ((shutterref11_Begin.f k l m b n o p a1).bind fun a => (if a < 0 then (some (false, false, 0, false)) else (if 0 ≤ a then (if a < (b.length : Int) then (some ((rd_T35 b a).f1.f0, (rd_T35 b a).f1.f1, (rd_T35 b a).f1.f2, (rd_T35 b a).f1.f3)) else (none)) else (none)))) = some (X, Y, r3, r4) := h
 clear h
 replace H := Option.bind_eq_some_iff.mp H
 obtain ⟨a, ac, H⟩ := H
 replace H : (if a < 0 then (some (false, false, 0, false)) else (if 0 ≤ a then (if a < (b.length : Int) then (some ((rd_T35 b a).f1.f0, (rd_T35 b a).f1.f1, (rd_T35 b a).f1.f2, (rd_T35 b a).f1.f3)) else (none)) else (none))) = some (X, Y, r3, r4) := H
 have A3 := Z ac
 clear ac
 by_cases c4 : a < 0
 ·rw [if_pos c4] at H
  have ad : decide (a < 0) = true := decide_eq_true c4
  clear c4
  simp only [Option.some.injEq, Prod.mk.injEq] at H
  obtain ⟨rfl, rfl, rfl, rfl⟩ := H
  go_enter Tryd.func48, Tryd.ntmps48
  go_wp2_with (first | ((with_reducible refine gate_dst (N := 2) rfl ?_); refine bx_ 2 24 #[.int .i64 l, .int .i64 m, .slice x b.length y, .int .i64 n, .bool o, .bool p] ?_; intro v hg w5 hbox hb; have c := Z (hbox); have V := Z (ln_ hg : w.heap.size ≤ v); have T := V; replace HB := bs_ hb; clear hb hbox hg) | ((with_reducible refine gate_dst (N := 4) rfl ?_); refine bx_ 4 33 #[.bool false, .bool false, .int .i64 0, .bool false] ?_; intro q hg w6 hbox hb; have d := Z (hbox); have W := Z (ln_ hg : w.heap.size ≤ q); have U := W; replace HB := bs_ hb; have r := nl' c hg; have s := ng' c hg; replace c := kb' c hb; clear hb hbox hg; have bf := r.out; have bg := s.out; obtain ⟨aX, aY, aZ, a0, a2, a3, a4, a5, a6, a7, a8, a9⟩ := cells6 c.out) | ((with_reducible refine gate_callee (f := 21) rfl ?_); refine goesL_ (some 8) rfl rfl Tryd.func21 (by kernel_rfl) rfl #[.agg #[.int .i64 l, .int .i64 m, .slice x b.length y, .int .i64 n, .bool o, .bool p], .int .i64 a1] rfl ag_ ?_; (with_reducible refine (shutterref11_Begin.calls k l m _ _ b n o p a1 a _ ?side1 ?side2 A3.out).mono ?_); (case side1 => repeat (first | exact (Kd.C_below G.out HB.out) | (with_reducible apply pC))); (case side2 => exact O.out); rintro e w9 ⟨rfl, hb⟩; refine ⟨_, rfl, ?_⟩; replace c := kb' c hb; replace d := kb' d hb; replace HB := bs_ hb; clear hb; obtain ⟨af, ag, ah, ai, aB, aC, aD, aE⟩ := cells4 d.out))
  refine bodyPost_ret (results_cell_row rfl _ _ q 33 #[.bool false, .bool false, .int .i64 0, .bool false] (0, 0) _ rfl (by (with_reducible repeat apply pK); refine blk_put (cs := #[.bool false, .bool false, .int .i64 0, .bool false]) ?_ 3 _ rfl; (with_reducible repeat apply pK); refine blk_put (cs := #[.bool false, .bool false, .int .i64 0, .bool false]) ?_ 2 _ rfl; (with_reducible repeat apply pK); refine blk_put (cs := #[.bool false, .bool false, .int .i64 0, .bool false]) ?_ 1 _ rfl; (with_reducible repeat apply pK); refine blk_put (cs := #[.bool false, .bool false, .int .i64 0, .bool false]) ?_ 0 _ rfl; (with_reducible repeat apply pK); exact d.out) Tryd.underlying33 rfl (by kernel_rfl)) rfl ?_
  exact ⟨er_, bl_⟩
 ·rw [if_neg c4] at H
  have ad : decide (a < 0) = false := decide_eq_false c4
  clear c4
  by_cases P : 0 ≤ a
  ·rw [if_pos P] at H
   have bb : decide (0 ≤ a) = true := decide_eq_true P
   clear P
   by_cases Q : a < (b.length : Int)
   ·rw [if_pos Q] at H
    have bc : decide (a < (b.length : Int)) = true := decide_eq_true Q
    clear Q
    simp only [Option.some.injEq, Prod.mk.injEq] at H
    obtain ⟨rfl, rfl, rfl, rfl⟩ := H
    go_enter Tryd.func48, Tryd.ntmps48
    go_wp2_with (first | ((with_reducible refine gate_dst (N := 2) rfl ?_); refine bx_ 2 24 #[.int .i64 l, .int .i64 m, .slice x b.length y, .int .i64 n, .bool o, .bool p] ?_; intro v hg bj hbox hb; have c := Z (hbox); have V := Z (ln_ hg : w.heap.size ≤ v); have T := V; replace HB := bs_ hb; clear hb hbox hg) | ((with_reducible refine gate_dst (N := 4) rfl ?_); refine bx_ 4 33 #[.bool false, .bool false, .int .i64 0, .bool false] ?_; intro q hg bk hbox hb; have d := Z (hbox); have W := Z (ln_ hg : w.heap.size ≤ q); have U := W; replace HB := bs_ hb; have r := nl' c hg; have s := ng' c hg; replace c := kb' c hb; clear hb hbox hg; have bd := r.out; have be := s.out; obtain ⟨aj, ak, al, am, an, ao, aF, aG, aH, aI, aJ, aK⟩ := cells6 c.out) | ((with_reducible refine gate_callee (f := 21) rfl ?_); refine goesL_ (some 8) rfl rfl Tryd.func21 (by kernel_rfl) rfl #[.agg #[.int .i64 l, .int .i64 m, .slice x b.length y, .int .i64 n, .bool o, .bool p], .int .i64 a1] rfl ag_ ?_; (with_reducible refine (shutterref11_Begin.calls k l m _ _ b n o p a1 a _ ?side1 ?side2 A3.out).mono ?_); (case side1 => repeat (first | exact (Kd.C_below G.out HB.out) | (with_reducible apply pC))); (case side2 => exact O.out); rintro e bl ⟨rfl, hb⟩; refine ⟨_, rfl, ?_⟩; replace c := kb' c hb; replace d := kb' d hb; replace HB := bs_ hb; clear hb; obtain ⟨ap, aq, ar, au, av, aw, aL, aM, aN, aO, aP, aQ⟩ := cells6 c.out; have L : 0 ≤ (a : Int) := od_; have M : a < (b.length : Int) := od_; obtain ⟨ba, ae, z, A, B, D, E, F⟩ := at_T35 G.out a L M; cases ae; replace z := (HB.out.cell (bk_ w _ z)).trans z; replace A := (HB.out.cell (bk_ w _ A)).trans A; replace B := (HB.out.cell (bk_ w _ B)).trans B; replace D := (HB.out.cell (bk_ w _ D)).trans D; replace E := (HB.out.cell (bk_ w _ E)).trans E; replace F := (HB.out.cell (bk_ w _ F)).trans F; replace L := eq_true L; replace M := eq_true M; obtain ⟨ax, ay, az, aA, aR, aS, aT, aU⟩ := cells4 d.out))
    refine bodyPost_ret (results_cell_row rfl _ _ q 33 #[.bool ((rd_T35 b a).f1.f0), .bool ((rd_T35 b a).f1.f1), .int .i64 ((rd_T35 b a).f1.f2), .bool ((rd_T35 b a).f1.f3)] (0, 0) _ rfl (by (with_reducible repeat apply pK); refine blk_put (cs := #[.bool ((rd_T35 b a).f1.f0), .bool ((rd_T35 b a).f1.f1), .int .i64 ((rd_T35 b a).f1.f2), .bool false]) ?_ 3 _ rfl; (with_reducible repeat apply pK); refine blk_put (cs := #[.bool ((rd_T35 b a).f1.f0), .bool ((rd_T35 b a).f1.f1), .int .i64 0, .bool false]) ?_ 2 _ rfl; (with_reducible repeat apply pK); refine blk_put (cs := #[.bool ((rd_T35 b a).f1.f0), .bool false, .int .i64 0, .bool false]) ?_ 1 _ rfl; (with_reducible repeat apply pK); refine blk_put (cs := #[.bool false, .bool false, .int .i64 0, .bool false]) ?_ 0 _ rfl; (with_reducible repeat apply pK); exact d.out) Tryd.underlying33 rfl (by kernel_rfl)) rfl ?_
    exact ⟨er_, bl_⟩
   ·rw [if_neg Q] at H
    exact absurd H (by simp)
  ·rw [if_neg P] at H
   exact absurd H (by simp)
def shutterref11_Open.f (k : Nat) (c : Int) (d : Int) (a : List (S35)) (e : Int) (g : Bool) (h : Bool) (a1 : Int) : Option (Bool) := if 0 ≤ a1 then (if a1 < (a.length : Int) then (if ((rd_T35 a a1).f0 = true) then (some false) else ((shutterref11_Of.f k c d a e g h a1).bind fun b => (some (!b.1)))) else (none)) else (none)
theorem shutterref11_Open.mono : ∀ a0 a1 a b a4 c d k, LeO (shutterref11_Open.f k a0 a1 a b a4 c d) (shutterref11_Open.f (k + 1) a0 a1 a b a4 c d) := by
 intro a0 a1 a b a4 c d k
 unfold shutterref11_Open.f
 repeat' first
   | (with_reducible exact shutterref11_Of.mono _ _ _ _ _ _ _ _)
   | (with_reducible exact LeO.refl _)
   | (with_reducible exact LeO.none _)
   | (with_reducible refine LeO.ite ?_ ?_)
   | (with_reducible refine LeO.bind ?_ (fun _ => ?_))
   | exact shutterref11_Of.mono _ _ _ _ _ _ _ _
   | exact LeO.none _
   | refine LeO.ite ?_ ?_
   | refine LeO.bind ?_ (fun _ => ?_)
theorem shutterref11_Open.calls (k : Nat) (m : Int) (n : Int) (B : Option Addr) (E : Nat) (a : List (S35)) (o : Int) (p : Bool) (q : Bool) (a1 : Int) (r : Bool) (w : World) (L : Kd.C k35 w B a.length a) (K : a.length ≤ E) (h : shutterref11_Open.f k m n a o p q a1 = some r) :
  Calls Tryd.prog 22 #[.agg #[.int .i64 m, .int .i64 n, .slice B a.length E, .int .i64 o, .bool p, .bool q], .int .i64 a1] w fun e w' => e = .returned (.bool r) ∧ Below w.heap.size w w' := by
 have aB := Tryd.underlying24
 have aC := Tryd.underlying33
 have D := Z L
 have Q := Z K
 clear L K
 have HB := Z (Below.refl w.heap.size w)
 have H : (if 0 ≤ a1 then (if a1 < (a.length : Int) then (if ((rd_T35 a a1).f0 = true) then (some false) else ((shutterref11_Of.f k m n a o p q a1).bind fun x => (some (!x.1)))) else (none)) else (none)) = some r := h
 clear h
 by_cases c3 : 0 ≤ a1
 ·rw [if_pos c3] at H
  have az : decide (0 ≤ a1) = true := decide_eq_true c3
  clear c3
  by_cases c4 : a1 < (a.length : Int)
  ·rw [if_pos c4] at H
   have aA : decide (a1 < (a.length : Int)) = true := decide_eq_true c4
   clear c4
   obtain ⟨T, J⟩ : ∃ b_ : Bool, b_ = ((rd_T35 a a1).f0) := ⟨_, rfl⟩
   replace H : (if (T = true) then (some false) else ((shutterref11_Of.f k m n a o p q a1).bind fun x => (some (!x.1)))) = some r := by rw [← J] at H; exact H
   have l := Z J
   clear J
   by_cases c6 : (T = true)
   ·subst c6
    have H1 : (some false) = some r := by rw [if_pos rfl] at H; exact H
    clear H
    have H := H1
    clear H1
    obtain rfl := Option.some.inj H
    go_enter Tryd.func22, Tryd.ntmps22
    go_wp2_with (first | ((with_reducible refine gate_dst (N := 2) rfl ?_); refine bx_ 2 24 #[.int .i64 m, .int .i64 n, .slice B a.length E, .int .i64 o, .bool p, .bool q] ?_; intro y hg w7 hbox hb; have s := Z (hbox); have P := Z (ln_ hg : w.heap.size ≤ y); have O := P; replace HB := bs_ hb; clear hb hbox hg; obtain ⟨ak, al, am, an, ao, ap, aq, ar, au, av, aw, ax⟩ := cells6 s.out; have u : 0 ≤ (a1 : Int) := od_; have v : a1 < (a.length : Int) := od_; obtain ⟨R, I, b, c, d, i, g, j⟩ := at_T35 D.out a1 u v; (try rw [← l.out] at b); (try rw [← l.out] at c); (try rw [← l.out] at d); (try rw [← l.out] at g); cases I; replace b := (HB.out.cell (bk_ w _ b)).trans b; replace c := (HB.out.cell (bk_ w _ c)).trans c; replace d := (HB.out.cell (bk_ w _ d)).trans d; replace i := (HB.out.cell (bk_ w _ i)).trans i; replace g := (HB.out.cell (bk_ w _ g)).trans g; replace j := (HB.out.cell (bk_ w _ j)).trans j; replace u := eq_true u; replace v := eq_true v))
    go_ret
    exact ⟨er_, bl_⟩
   ·replace c6 := Bool.eq_false_iff.mpr c6
    subst c6
    have H1 : ((shutterref11_Of.f k m n a o p q a1).bind fun x => (some (!x.1))) = some r := by rw [if_neg (show ¬ (false = true) by decide)] at H; exact H
    clear H
    have H := H1
    clear H1
    replace H := Option.bind_eq_some_iff.mp H
    obtain ⟨⟨M, U, V, W⟩, S, H⟩ := H
    replace H : (some (!M)) = some r := H
    have A9 := Z S
    clear S
    obtain rfl := Option.some.inj H
    go_enter Tryd.func22, Tryd.ntmps22
    go_wp2_with (first | ((with_reducible refine gate_dst (N := 2) rfl ?_); refine bx_ 2 24 #[.int .i64 m, .int .i64 n, .slice B a.length E, .int .i64 o, .bool p, .bool q] ?_; intro y hg aE hbox hb; have s := Z (hbox); have P := Z (ln_ hg : w.heap.size ≤ y); have O := P; replace HB := bs_ hb; clear hb hbox hg; obtain ⟨X, Y, aa, ab, ac, ad, ae, af, ag, ah, ai, aj⟩ := cells6 s.out; have u : 0 ≤ (a1 : Int) := od_; have v : a1 < (a.length : Int) := od_; obtain ⟨R, I, b, c, d, i, g, j⟩ := at_T35 D.out a1 u v; (try rw [← l.out] at b); (try rw [← l.out] at c); (try rw [← l.out] at d); (try rw [← l.out] at g); cases I; replace b := (HB.out.cell (bk_ w _ b)).trans b; replace c := (HB.out.cell (bk_ w _ c)).trans c; replace d := (HB.out.cell (bk_ w _ d)).trans d; replace i := (HB.out.cell (bk_ w _ i)).trans i; replace g := (HB.out.cell (bk_ w _ g)).trans g; replace j := (HB.out.cell (bk_ w _ j)).trans j; replace u := eq_true u; replace v := eq_true v) | (go_at_call 48; (with_reducible refine (shutterref11_Of.calls k m n _ _ a o p q a1 M U V W _ ?side1 ?side2 A9.out).mono ?_); (case side1 => repeat (first | exact (Kd.C_below D.out HB.out) | (with_reducible apply pC))); (case side2 => exact Q.out); rintro e aF ⟨rfl, hb⟩; replace s := kb' s hb; replace HB := bs_ hb; clear hb))
    go_ret
    exact ⟨er_, bl_⟩
  ·rw [if_neg c4] at H
   exact absurd H (by simp)
 ·rw [if_neg c3] at H
  exact absurd H (by simp)
def shutterref11_Cells.l0 : Nat → List Int → Int → Int → Int → Int → List (S35) → Int → Bool → Bool → Option (List Int)
 | 0, _, _, _, _, _, _, _, _, _ => none
 | k + 1, i, l, j, c, d, a, e, g, h => if j ≤ (a.length : Int) then ((shutterref11_mod.f k (wrap64 (l + j)) (a.length : Int)).bind fun b => (if 0 ≤ b then (if b < (a.length : Int) then (if (rd_T35 a b).f0 = true then (some i) else (if i.length < 17592186044416 then (shutterref11_Cells.l0 k (i ++ [b]) l (wrap64 (j + 1)) c d a e g h) else (none))) else (none)) else (none))) else (some i)
def shutterref11_Cells.f (k : Nat) (a : Int) (b : Int) (g : List (S35)) (c : Int) (d : Bool) (e : Bool) (a1 : Int) : Option (List Int) := (shutterref11_Begin.f k a b g c d e a1).bind fun h => (shutterref11_Cells.l0 k ([] : List Int) h 1 a b g c d e)
theorem shutterref11_Cells.mono_l : ∀ k, (∀ b c d e f g i j l, LeO (shutterref11_Cells.l0 k b c d e f g i j l) (shutterref11_Cells.l0 (k + 1) b c d e f g i j l))
 | 0 => fun _ _ _ _ _ _ _ _ _ r h => by simp [shutterref11_Cells.l0] at h
 | k + 1 => by
  have a := shutterref11_Cells.mono_l k
  ·intro b c d e f g i j l
   unfold shutterref11_Cells.l0
   repeat' first
   | (with_reducible exact a _ _ _ _ _ _ _ _ _)
   | (with_reducible exact shutterref11_Begin.mono _ _ _ _ _ _ _ _)
   | (with_reducible exact shutterref11_mod.mono _ _ _)
   | (with_reducible exact LeO.refl _)
   | (with_reducible exact LeO.none _)
   | (with_reducible refine LeO.ite ?_ ?_)
   | (with_reducible refine LeO.bind ?_ (fun _ => ?_))
   | exact a _ _ _ _ _ _ _ _ _
   | exact shutterref11_Begin.mono _ _ _ _ _ _ _ _
   | exact shutterref11_mod.mono _ _ _
   | exact LeO.none _
   | refine LeO.ite ?_ ?_
   | refine LeO.bind ?_ (fun _ => ?_)
theorem shutterref11_Cells.mono : ∀ a0 a1 b c a4 d e k, LeO (shutterref11_Cells.f k a0 a1 b c a4 d e) (shutterref11_Cells.f (k + 1) a0 a1 b c a4 d e) := by
 intro a0 a1 b c a4 d e k
 have a := shutterref11_Cells.mono_l k
 unfold shutterref11_Cells.f
 repeat' first
   | (with_reducible exact a _ _ _ _ _ _ _ _ _)
   | (with_reducible exact shutterref11_Begin.mono _ _ _ _ _ _ _ _)
   | (with_reducible exact shutterref11_mod.mono _ _ _)
   | (with_reducible exact LeO.refl _)
   | (with_reducible exact LeO.none _)
   | (with_reducible refine LeO.ite ?_ ?_)
   | (with_reducible refine LeO.bind ?_ (fun _ => ?_))
   | exact a _ _ _ _ _ _ _ _ _
   | exact shutterref11_Begin.mono _ _ _ _ _ _ _ _
   | exact shutterref11_mod.mono _ _ _
   | exact LeO.none _
   | refine LeO.ite ?_ ?_
   | refine LeO.bind ?_ (fun _ => ?_)
theorem shutterref11_Cells.calls (k : Nat) (n : Int) (p : Int) (L : Option Addr) (G : Nat) (a : List (S35)) (q : Int) (s : Bool) (u : Bool) (a1 : Int) (r : List Int) (w : World) (W : Kd.C k35 w L a.length a) (V : a.length ≤ G) (h : shutterref11_Cells.f k n p a q s u a1 = some r) :
  Calls Tryd.prog 57 #[.agg #[.int .i64 n, .int .i64 p, .slice L a.length G, .int .i64 q, .bool s, .bool u], .int .i64 a1] w fun e w' => ∃ ax : Value, e = .returned (ax) ∧ Kd.R (Kd.int .i64) 3 w' w.heap.size (fun _ => True) ax r ∧ Below w.heap.size w w' := by
 have bm := Tryd.underlying24
 have M := Z W
 have an := Z V
 clear W V
 have HB := Z (Below.refl w.heap.size w)
 have H : ((shutterref11_Begin.f k n p a q s u a1).bind fun A => (shutterref11_Cells.l0 k ([] : List Int) A 1 n p a q s u)) = some r := h
 clear h
 replace H := Option.bind_eq_some_iff.mp H
 obtain ⟨A, ar, H⟩ := H
 replace H : (shutterref11_Cells.l0 k ([] : List Int) A 1 n p a q s u) = some r := H
 have A3 := Z ar
 clear ar
 have H' := Z H
 clear H
 go_enter Tryd.func57, Tryd.ntmps57
 go_wp2_with (first | ((with_reducible refine gate_dst (N := 2) rfl ?_); refine bx_ 2 24 #[.int .i64 n, .int .i64 p, .slice L a.length G, .int .i64 q, .bool s, .bool u] ?_; intro K hg w4 hbox hb; have d := Z (hbox); have bi := Z (ln_ hg : w.heap.size ≤ K); have bh := bi; replace HB := bs_ hb; clear hb hbox hg; obtain ⟨aa, ab, ac, ad, ae, af, ag, ah, ai, aj, ak, al⟩ := cells6 d.out) | ((with_reducible refine gate_callee (f := 21) rfl ?_); refine goesL_ (some 11) rfl rfl Tryd.func21 (by kernel_rfl) rfl #[.agg #[.int .i64 n, .int .i64 p, .slice L a.length G, .int .i64 q, .bool s, .bool u], .int .i64 a1] rfl ag_ ?_; (with_reducible refine (shutterref11_Begin.calls k n p _ _ a q s u a1 A _ ?side1 ?side2 A3.out).mono ?_); (case side1 => repeat (first | exact (Kd.C_below M.out HB.out) | (with_reducible apply pC))); (case side2 => exact an.out); rintro e w6 ⟨rfl, hb⟩; refine ⟨_, rfl, ?_⟩; replace d := kb' d hb; replace HB := bs_ hb; clear hb))
 go_loopg [5, 7] k (fun kq v5 v7 w' => ∃ (v : List Int) (x : Int), v7 = .int .i64 x ∧ Aside0 (shutterref11_Cells.l0 kq v A x n p a q s u = some r) ∧ Aside0 (kq ≤ k) ∧ Aside0 (Kd.R (Kd.int .i64) 3 w' w.heap.size (fun _ => True) v5 v) ∧ Aside0 (w'.heap[K]? = some (.cells #[.int .i64 n, .int .i64 p, (.slice L a.length G), .int .i64 q, .bool s, .bool u] 24 (0, 0))) ∧ Aside0 (Below w.heap.size w w'))
 case atStart => exact ⟨(([] : List Int)), (1), (dn_), H', ⟨Nat.le_refl _⟩, ⟨by first | exact Kd.R_nil _ _ _ _ _ | exact Kd.N_nil _ _ _ _ _ | exact Kd.V_nil _ _ _ _ _ | exact Kd.Q_nil _ _ _ _ _ | exact Kd.S_nil _ _ _ _ _⟩, ⟨vK d.out⟩, ⟨bl_⟩⟩
 case round =>
  clear H'
  clear aa ab ac ad ae af ag ah ai aj ak al
  obtain ⟨v, x, rfl, HA, av, HO_5, d, HB⟩ := hrel
  cases gk with
  | zero => exact absurd HA.out (by simp [shutterref11_Cells.l0])
  | succ k1 =>
   have H := HA.out
   clear HA
   simp only [shutterref11_Cells.l0] at H
   by_cases c7 : x ≤ (a.length : Int)
   ·rw [if_pos c7] at H
    have ay : decide (x ≤ (a.length : Int)) = true := decide_eq_true c7
    clear c7
    replace H := Option.bind_eq_some_iff.mp H
    obtain ⟨c, au, H⟩ := H
    replace H : (if 0 ≤ c then (if c < (a.length : Int) then (if (rd_T35 a c).f0 = true then (some v) else (if v.length < 17592186044416 then (shutterref11_Cells.l0 k1 (v ++ [c]) A (wrap64 (x + 1)) n p a q s u) else (none))) else (none)) else (none)) = some r := H
    have A8 := Z au
    clear au
    by_cases c9 : 0 ≤ c
    ·rw [if_pos c9] at H
     have bl : decide (0 ≤ c) = true := decide_eq_true c9
     clear c9
     by_cases c10 : c < (a.length : Int)
     ·rw [if_pos c10] at H
      have bj : decide (c < (a.length : Int)) = true := decide_eq_true c10
      clear c10
      obtain ⟨Y, O⟩ : ∃ b_ : Bool, b_ = ((rd_T35 a c).f0) := ⟨_, rfl⟩
      replace H : (if Y = true then (some v) else (if v.length < 17592186044416 then (shutterref11_Cells.l0 k1 (v ++ [c]) A (wrap64 (x + 1)) n p a q s u) else (none))) = some r := by rw [← O] at H; exact H
      have B := Z O
      clear O
      by_cases T : Y = true
      ·subst T
       have H1 : (some v) = some r := by rw [if_pos rfl] at H; exact H
       clear H
       have H := H1
       clear H1
       obtain rfl := Option.some.inj H
       obtain ⟨az, aA, aC, aD, aE, aG, aX, aY, aZ, a0, a2, a3⟩ := cells6 d.out
       go_wp2_with (first | ((with_reducible refine gate_callee (f := 47) rfl ?_); refine goesL_ (some 25) rfl rfl Tryd.func47 (by kernel_rfl) rfl #[.int .i64 (wrap64 (A + x)), .int .i64 (a.length : Int)] rfl ag_ ?_; (with_reducible refine (shutterref11_mod.calls k1 (wrap64 (A + x)) (a.length : Int) c _ A8.out).mono ?_); rintro e w' ⟨rfl, ⟨nd, rfl⟩⟩; refine ⟨_, rfl, ?_⟩; have D : 0 ≤ (c : Int) := od_; have E : c < (a.length : Int) := od_; obtain ⟨S, Q, i, j, l, y, m, z⟩ := at_T35 M.out c D E; (try rw [← B.out] at i); (try rw [← B.out] at j); (try rw [← B.out] at l); (try rw [← B.out] at m); cases Q; replace i := (HB.out.cell (bk_ w _ i)).trans i; replace j := (HB.out.cell (bk_ w _ j)).trans j; replace l := (HB.out.cell (bk_ w _ l)).trans l; replace y := (HB.out.cell (bk_ w _ y)).trans y; replace m := (HB.out.cell (bk_ w _ m)).trans m; replace z := (HB.out.cell (bk_ w _ z)).trans z; replace D := eq_true D; replace E := eq_true E))
       go_ret
       exact ⟨_, er_, by (with_reducible repeat apply pR); exact HO_5.out, bl_⟩
      ·replace T := Bool.eq_false_iff.mpr T
       subst T
       have H1 : (if v.length < 17592186044416 then (shutterref11_Cells.l0 k1 (v ++ [c]) A (wrap64 (x + 1)) n p a q s u) else (none)) = some r := by rw [if_neg (show ¬ (false = true) by decide)] at H; exact H
       clear H
       have H := H1
       clear H1
       by_cases U : v.length < 17592186044416
       ·rw [if_pos U] at H
        have ap := Z U
        clear U
        obtain ⟨am, F⟩ : ∃ y_ : List Int, y_ = (v ++ [c]) := ⟨_, rfl⟩
        replace H : (shutterref11_Cells.l0 k1 am A (wrap64 (x + 1)) n p a q s u) = some r := by first | (rw [F]; with_reducible exact H) | (have X := (Option.bind_some _ _).symm.trans H; rw [F]; with_reducible exact X) | (have X := (Option.bind_some _ _).symm.trans H; with_reducible exact X) | with_reducible exact H | (rw [F]; exact H) | exact H
        have aq := Z F
        clear F
        have H' := Z H
        clear H
        obtain ⟨aH, aI, aJ, aK, aM, aN, a4, a5, a6, a7, a8, a9⟩ := cells6 d.out
        go_wp2_with (first | ((with_reducible refine gate_callee (f := 47) rfl ?_); refine goesL_ (some 25) rfl rfl Tryd.func47 (by kernel_rfl) rfl #[.int .i64 (wrap64 (A + x)), .int .i64 (a.length : Int)] rfl ag_ ?_; (with_reducible refine (shutterref11_mod.calls k1 (wrap64 (A + x)) (a.length : Int) c _ A8.out).mono ?_); rintro e w' ⟨rfl, ⟨nd, rfl⟩⟩; refine ⟨_, rfl, ?_⟩; have D : 0 ≤ (c : Int) := od_; have E : c < (a.length : Int) := od_; obtain ⟨S, Q, i, j, l, y, m, z⟩ := at_T35 M.out c D E; (try rw [← B.out] at i); (try rw [← B.out] at j); (try rw [← B.out] at l); (try rw [← B.out] at m); cases Q; replace i := (HB.out.cell (bk_ w _ i)).trans i; replace j := (HB.out.cell (bk_ w _ j)).trans j; replace l := (HB.out.cell (bk_ w _ l)).trans l; replace y := (HB.out.cell (bk_ w _ y)).trans y; replace m := (HB.out.cell (bk_ w _ m)).trans m; replace z := (HB.out.cell (bk_ w _ z)).trans z; replace D := eq_true D; replace E := eq_true E) | ((with_reducible refine gate_builtin (b := .append) (xs := #[.tmp 32, .tmp 34]) rfl ?_); at_builtin; refine Kd.R_append (Kd.int .i64) (w0 := w) w.heap.size rfl (.tmp 32) (.tmp 34) 41 3 (.int .i64 0) 8 rfl Tryd.underlying41 info3 rfl (by decide) (by omega) u5 v c [.int .i64 c] (fun _ => True) (fun _ => False) rfl rfl ?aP (fun _ hk => hk.elim) ?aF ?aO ?aB ?aS ?aL ?_; (case aP => exact rfl); (case aB => exact bl_); (case aF => exact (fun _ _ => trivial)); (case aO => exact (by (with_reducible repeat apply pR); exact HO_5.out)); (case aS => exact (below_size bl_)); (case aL => have := ap.out; omega); intro bn br ho hb hg hat; rw [← aq.out] at ho; replace d := Z (blk_grown (g := K) (o := .cells #[.int .i64 n, .int .i64 p, .slice (some S) a.length G, .int .i64 q, .bool s, .bool u] 24 (0, 0)) (vK d.out) hg (Kd.R_ne HO_5.out d.out (by decide))); replace HB := Z (hb); have ao := Z (ho); clear HO_5; clear ho hb hg hat))
        go_roundg k1
        case measure => have := av.out; omega
        case rel => exact ⟨(am), (wrap64 (x + 1)), (dn_), H', ⟨by have := av.out; omega⟩, ⟨by (with_reducible repeat apply pR); exact ao.out⟩, ⟨vK d.out⟩, ⟨bl_⟩⟩
       ·rw [if_neg U] at H
        exact absurd H (by simp)
     ·rw [if_neg c10] at H
      exact absurd H (by simp)
    ·rw [if_neg c9] at H
     exact absurd H (by simp)
   ·rw [if_neg c7] at H
    have ay : decide (x ≤ (a.length : Int)) = false := decide_eq_false c7
    clear c7
    obtain rfl := Option.some.inj H
    obtain ⟨aQ, aR, aT, aU, aV, aW, ba, bb, bc, bd, be, bf⟩ := cells6 d.out
    go_wp2
    go_ret
    exact ⟨_, er_, by (with_reducible repeat apply pR); exact HO_5.out, bl_⟩
def shutterref14_Line.l0 : Nat → Int → List Int → List Int → Bool → Int → Option (List Int)
 | 0, _, _, _, _, _ => none
 | k + 1, d, c, b, e, a => if a < (b.length : Int) then (if 0 ≤ a then (if (rd b a) = d then (if c.length < 17592186044416 then (shutterref14_Line.l0 k d (c ++ [rd b a]) b true (wrap64 (a + 1))) else (none)) else (if e = true then (if c.length < 17592186044416 then (shutterref14_Line.l0 k d (c ++ [rd b a]) b e (wrap64 (a + 1))) else (none)) else (shutterref14_Line.l0 k d c b e (wrap64 (a + 1))))) else (none)) else (some c)
def shutterref14_Line.f (k : Nat) (a : Int) (b : Int) (g : List (S35)) (c : Int) (d : Bool) (e : Bool) (a1 : Int) : Option (List Int) := (shutterref11_Open.f k a b g c d e a1).bind fun h => (if h = true then ((shutterref11_Cells.f k a b g c d e a1).bind fun i => (shutterref14_Line.l0 k a1 ([] : List Int) i false 0)) else (some ([] : List Int)))
theorem shutterref14_Line.mono_l : ∀ k, (∀ b c d e f, LeO (shutterref14_Line.l0 k b c d e f) (shutterref14_Line.l0 (k + 1) b c d e f))
 | 0 => fun _ _ _ _ _ r h => by simp [shutterref14_Line.l0] at h
 | k + 1 => by
  have a := shutterref14_Line.mono_l k
  ·intro b c d e f
   unfold shutterref14_Line.l0
   repeat' first
   | (with_reducible exact a _ _ _ _ _)
   | (with_reducible exact shutterref11_Cells.mono _ _ _ _ _ _ _ _)
   | (with_reducible exact shutterref11_Open.mono _ _ _ _ _ _ _ _)
   | (with_reducible exact LeO.refl _)
   | (with_reducible exact LeO.none _)
   | (with_reducible refine LeO.ite ?_ ?_)
   | (with_reducible refine LeO.bind ?_ (fun _ => ?_))
   | exact a _ _ _ _ _
   | exact shutterref11_Cells.mono _ _ _ _ _ _ _ _
   | exact shutterref11_Open.mono _ _ _ _ _ _ _ _
   | exact LeO.none _
   | refine LeO.ite ?_ ?_
   | refine LeO.bind ?_ (fun _ => ?_)
theorem shutterref14_Line.mono : ∀ a0 a1 b c a4 d e k, LeO (shutterref14_Line.f k a0 a1 b c a4 d e) (shutterref14_Line.f (k + 1) a0 a1 b c a4 d e) := by
 intro a0 a1 b c a4 d e k
 have a := shutterref14_Line.mono_l k
 unfold shutterref14_Line.f
 repeat' first
   | (with_reducible exact a _ _ _ _ _)
   | (with_reducible exact shutterref11_Cells.mono _ _ _ _ _ _ _ _)
   | (with_reducible exact shutterref11_Open.mono _ _ _ _ _ _ _ _)
   | (with_reducible exact LeO.refl _)
   | (with_reducible exact LeO.none _)
   | (with_reducible refine LeO.ite ?_ ?_)
   | (with_reducible refine LeO.bind ?_ (fun _ => ?_))
   | exact a _ _ _ _ _
   | exact shutterref11_Cells.mono _ _ _ _ _ _ _ _
   | exact shutterref11_Open.mono _ _ _ _ _ _ _ _
   | exact LeO.none _
   | refine LeO.ite ?_ ?_
   | refine LeO.bind ?_ (fun _ => ?_)
theorem shutterref14_Line.calls (k : Nat) (j : Int) (l : Int) (A : Option Addr) (B : Nat) (i : List (S35)) (m : Int) (n : Bool) (p : Bool) (a1 : Int) (r : List Int) (w : World) (ae : Kd.C k35 w A i.length i) (ad : i.length ≤ B) (h : shutterref14_Line.f k j l i m n p a1 = some r) :
  Calls Tryd.prog 32 #[.agg #[.int .i64 j, .int .i64 l, .slice A i.length B, .int .i64 m, .bool n, .bool p], .int .i64 a1] w fun e w' => ∃ a7 : Value, e = .returned (a7) ∧ Kd.R (Kd.int .i64) 3 w' w.heap.size (fun _ => True) a7 r ∧ Below w.heap.size w w' := by
 have bF := Tryd.underlying24
 have Q := Z ae
 have P := Z ad
 clear ae ad
 have HB := Z (Below.refl w.heap.size w)
 have H : ((shutterref11_Open.f k j l i m n p a1).bind fun S => (if S = true then ((shutterref11_Cells.f k j l i m n p a1).bind fun c => (shutterref14_Line.l0 k a1 ([] : List Int) c false 0)) else (some ([] : List Int)))) = some r := h
 clear h
 replace H := Option.bind_eq_some_iff.mp H
 obtain ⟨S, a3, H⟩ := H
 replace H : (if S = true then ((shutterref11_Cells.f k j l i m n p a1).bind fun c => (shutterref14_Line.l0 k a1 ([] : List Int) c false 0)) else (some ([] : List Int))) = some r := H
 have A3 := Z a3
 clear a3
 by_cases c4 : S = true
 ·subst c4
  have H1 : ((shutterref11_Cells.f k j l i m n p a1).bind fun c => (shutterref14_Line.l0 k a1 ([] : List Int) c false 0)) = some r := by rw [if_pos rfl] at H; exact H
  clear H
  have H := H1
  clear H1
  replace H := Option.bind_eq_some_iff.mp H
  obtain ⟨c, a4, H⟩ := H
  replace H : (shutterref14_Line.l0 k a1 ([] : List Int) c false 0) = some r := H
  have A5 := Z a4
  clear a4
  have H' := Z H
  clear H
  go_enter Tryd.func32, Tryd.ntmps32
  go_wp2_with (first | ((with_reducible refine gate_dst (N := 2) rfl ?_); refine bx_ 2 24 #[.int .i64 j, .int .i64 l, .slice A i.length B, .int .i64 m, .bool n, .bool p] ?_; intro y hg w6 hbox hb; have d := Z (hbox); have aM := Z (ln_ hg : w.heap.size ≤ y); have aK := aM; replace HB := bs_ hb; clear hb hbox hg; obtain ⟨af, ag, ah, ai, aj, ak, ar, au, av, aw, ax, ay⟩ := cells6 d.out) | ((with_reducible refine gate_callee (f := 22) rfl ?_); refine goesL_ (some 11) rfl rfl Tryd.func22 (by kernel_rfl) rfl #[.agg #[.int .i64 j, .int .i64 l, .slice A i.length B, .int .i64 m, .bool n, .bool p], .int .i64 a1] rfl ag_ ?_; (with_reducible refine (shutterref11_Open.calls k j l _ _ i m n p a1 true _ ?side1 ?side2 A3.out).mono ?_); (case side1 => repeat (first | exact (Kd.C_below Q.out HB.out) | (with_reducible apply pC))); (case side2 => exact P.out); rintro e w8 ⟨rfl, hb⟩; refine ⟨_, rfl, ?_⟩; replace d := kb' d hb; replace HB := bs_ hb; clear hb; obtain ⟨al, am, an, ao, ap, aq, az, aA, aC, aD, aE, aG⟩ := cells6 d.out) | ((with_reducible refine gate_callee (f := 57) rfl ?_); refine goesL_ (some 16) rfl rfl Tryd.func57 (by kernel_rfl) rfl #[.agg #[.int .i64 j, .int .i64 l, .slice A i.length B, .int .i64 m, .bool n, .bool p], .int .i64 a1] rfl ag_ ?_; (with_reducible refine (shutterref11_Cells.calls k j l _ _ i m n p a1 c _ ?side1 ?side2 A5.out).mono ?_); (case side1 => repeat (first | exact (Kd.C_below Q.out HB.out) | (with_reducible apply pC))); (case side2 => exact P.out); rintro e bK ⟨aH, rfl, a6, hb⟩; refine ⟨_, rfl, ?_⟩; have aN := Z (Kd.R_lower a6 (below_size bl_)); replace d := kb' d hb; replace HB := bs_ hb; clear hb a6))
  go_loopg [5, 7, 8] k (fun kq v5 v7 v8 w' => ∃ (u : List Int) (T : Bool) (a : Int), v7 = .bool T ∧ v8 = .int .i64 a ∧ Aside0 (shutterref14_Line.l0 kq a1 u c T a = some r) ∧ Aside0 (kq ≤ k) ∧ Aside0 (Kd.R (Kd.int .i64) 3 w' w.heap.size (fun k_ => some k_ ≠ (aH : Value).ownBlock) v5 u) ∧ Aside0 (Kd.R (Kd.int .i64) 3 w' w.heap.size (fun k_ => some k_ ≠ (v5 : Value).ownBlock) aH c) ∧ Aside0 (w'.heap[y]? = some (.cells #[.int .i64 j, .int .i64 l, (.slice A i.length B), .int .i64 m, .bool n, .bool p] 24 (0, 0))) ∧ Aside0 (Below w.heap.size w w'))
  case atStart => exact ⟨(([] : List Int)), (false), (0), (dn_), (dn_), H', ⟨Nat.le_refl _⟩, ⟨by first | exact Kd.R_nil _ _ _ _ _ | exact Kd.N_nil _ _ _ _ _ | exact Kd.V_nil _ _ _ _ _ | exact Kd.Q_nil _ _ _ _ _ | exact Kd.S_nil _ _ _ _ _⟩, ⟨by (with_reducible repeat apply pR); exact Kd.R_mono aN.out (fun _ hk => (by simp [Value.ownBlock]))⟩, ⟨vK d.out⟩, ⟨bl_⟩⟩
  case round =>
   clear H'
   clear af ag ah ai aj ak al am an ao ap aq ar au av aw ax ay az aA aC aD aE aG
   obtain ⟨u, T, a, rfl, rfl, HA, L, HO_5, HO_6, d, HB⟩ := hrel
   cases gk with
   | zero => exact absurd HA.out (by simp [shutterref14_Line.l0])
   | succ k1 =>
    have H := HA.out
    clear HA
    simp only [shutterref14_Line.l0] at H
    by_cases M : a < (c.length : Int)
    ·rw [if_pos M] at H
     have aZ : decide (a < (c.length : Int)) = true := decide_eq_true M
     clear M
     by_cases Y : 0 ≤ a
     ·rw [if_pos Y] at H
      have bw : decide (0 ≤ a) = true := decide_eq_true Y
      clear Y
      by_cases J : (rd c a) = a1
      ·rw [if_pos J] at H
       obtain ⟨a0, a2⟩ := eT_ J
       clear J
       by_cases aa : u.length < 17592186044416
       ·rw [if_pos aa] at H
        have aT := Z aa
        clear aa
        obtain ⟨aI, F⟩ : ∃ y_ : List Int, y_ = (u ++ [rd c a]) := ⟨_, rfl⟩
        replace H : (shutterref14_Line.l0 k1 a1 aI c true (wrap64 (a + 1))) = some r := by first | (rw [F]; with_reducible exact H) | (have I := (Option.bind_some _ _).symm.trans H; rw [F]; with_reducible exact I) | (have I := (Option.bind_some _ _).symm.trans H; with_reducible exact I) | with_reducible exact H | (rw [F]; exact H) | exact H
        have aV := Z F
        clear F
        have H' := Z H
        clear H
        obtain ⟨bz, a8, bc⟩ := Kd.R_slice HO_6.out
        subst bc
        have v : 0 ≤ (a : Int) := od_
        have x : a < (c.length : Int) := od_
        obtain ⟨E, K, O⟩ := Kd.at_int (Kd.R_reads' HO_6.out).2.2 a v x
        cases K
        replace v := eq_true v
        replace x := eq_true x
        have U : 0 ≤ (a : Int) := od_
        have W : a < (c.length : Int) := od_
        obtain ⟨aX, ba, bs⟩ := Kd.at_int (Kd.R_reads' HO_6.out).2.2 a U W
        obtain rfl : E = aX := (by injection ba)
        replace U := eq_true U
        replace W := eq_true W
        go_wp2_with (first | ((with_reducible refine gate_builtin (b := .append) (xs := #[.tmp 30, .tmp 35]) rfl ?_); at_builtin; refine Kd.R_append (Kd.int .i64) (w0 := w) w.heap.size rfl (.tmp 30) (.tmp 35) 41 3 (.int .i64 0) 8 rfl Tryd.underlying41 info3 rfl (by decide) (by omega) u5 u (rd c a) [.int .i64 (rd c a)] (fun k_ => some k_ ≠ (.slice (some E) c.length a8 : Value).ownBlock) (fun _ => False) rfl rfl ?aP (fun _ hk => hk.elim) ?aF ?aO ?aB ?aS ?aL ?_; (case aP => exact rfl); (case aB => exact bl_); (case aF => exact (fun k_ hk => Kd.fresh' (Kd.R_lt (by (with_reducible repeat apply pR); exact HO_6.out)) k_ hk)); (case aO => exact (by (with_reducible repeat apply pR); exact HO_5.out)); (case aS => exact (below_size bl_)); (case aL => have := aT.out; omega); intro bG bL ho hb hg hat; rw [← aV.out] at ho; replace HO_6 := Z (Kd.R_after (ok := (fun _ => True)) (by (with_reducible repeat apply pR); exact Kd.R_mono HO_6.out (fun _ hk => ⟨trivial, hk⟩)) hg hat); replace d := Z (blk_grown (g := y) (o := .cells #[.int .i64 j, .int .i64 l, .slice A i.length B, .int .i64 m, .bool n, .bool p] 24 (0, 0)) (vK d.out) hg (Kd.R_ne HO_5.out d.out (by decide))); replace HB := Z (hb); have aQ := Z (ho); clear HO_5; clear ho hb hg hat))
        go_roundg k1
        case measure => have := L.out; omega
        case rel => exact ⟨(aI), (true), (wrap64 (a + 1)), (dn_), (dn_), H', ⟨by have := L.out; omega⟩, ⟨by (with_reducible repeat apply pR); exact aQ.out⟩, ⟨by (with_reducible repeat apply pR); exact Kd.R_mono HO_6.out (fun _ hk => hk.2)⟩, ⟨vK d.out⟩, ⟨bl_⟩⟩
       ·rw [if_neg aa] at H
        exact absurd H (by simp)
      ·rw [if_neg J] at H
       obtain ⟨a0, a2⟩ := eF_ J
       by_cases ab : T = true
       ·subst ab
        have H1 : (if u.length < 17592186044416 then (shutterref14_Line.l0 k1 a1 (u ++ [rd c a]) c true (wrap64 (a + 1))) else (none)) = some r := by rw [if_pos rfl] at H; exact H
        clear H
        have H := H1
        clear H1
        by_cases ac : u.length < 17592186044416
        ·rw [if_pos ac] at H
         have aU := Z ac
         clear ac
         obtain ⟨aJ, G⟩ : ∃ y_ : List Int, y_ = (u ++ [rd c a]) := ⟨_, rfl⟩
         replace H : (shutterref14_Line.l0 k1 a1 aJ c true (wrap64 (a + 1))) = some r := by first | (rw [G]; with_reducible exact H) | (have I := (Option.bind_some _ _).symm.trans H; rw [G]; with_reducible exact I) | (have I := (Option.bind_some _ _).symm.trans H; with_reducible exact I) | with_reducible exact H | (rw [G]; exact H) | exact H
         have aW := Z G
         clear G
         have H' := Z H
         clear H
         obtain ⟨bA, a9, bd⟩ := Kd.R_slice HO_6.out
         subst bd
         have v : 0 ≤ (a : Int) := od_
         have x : a < (c.length : Int) := od_
         obtain ⟨E, K, O⟩ := Kd.at_int (Kd.R_reads' HO_6.out).2.2 a v x
         cases K
         replace v := eq_true v
         replace x := eq_true x
         have V : 0 ≤ (a : Int) := od_
         have X : a < (c.length : Int) := od_
         obtain ⟨aY, bb, bt⟩ := Kd.at_int (Kd.R_reads' HO_6.out).2.2 a V X
         obtain rfl : E = aY := (by injection bb)
         replace V := eq_true V
         replace X := eq_true X
         go_wp2_with (first | ((with_reducible refine gate_builtin (b := .append) (xs := #[.tmp 30, .tmp 35]) rfl ?_); at_builtin; refine Kd.R_append (Kd.int .i64) (w0 := w) w.heap.size rfl (.tmp 30) (.tmp 35) 41 3 (.int .i64 0) 8 rfl Tryd.underlying41 info3 rfl (by decide) (by omega) u5 u (rd c a) [.int .i64 (rd c a)] (fun k_ => some k_ ≠ (.slice (some E) c.length a9 : Value).ownBlock) (fun _ => False) rfl rfl ?aP (fun _ hk => hk.elim) ?aF ?aO ?aB ?aS ?aL ?_; (case aP => exact rfl); (case aB => exact bl_); (case aF => exact (fun k_ hk => Kd.fresh' (Kd.R_lt (by (with_reducible repeat apply pR); exact HO_6.out)) k_ hk)); (case aO => exact (by (with_reducible repeat apply pR); exact HO_5.out)); (case aS => exact (below_size bl_)); (case aL => have := aU.out; omega); intro bH bM ho hb hg hat; rw [← aW.out] at ho; replace HO_6 := Z (Kd.R_after (ok := (fun _ => True)) (by (with_reducible repeat apply pR); exact Kd.R_mono HO_6.out (fun _ hk => ⟨trivial, hk⟩)) hg hat); replace d := Z (blk_grown (g := y) (o := .cells #[.int .i64 j, .int .i64 l, .slice A i.length B, .int .i64 m, .bool n, .bool p] 24 (0, 0)) (vK d.out) hg (Kd.R_ne HO_5.out d.out (by decide))); replace HB := Z (hb); have aR := Z (ho); clear HO_5; clear ho hb hg hat))
         go_roundg k1
         case measure => have := L.out; omega
         case rel => exact ⟨(aJ), (true), (wrap64 (a + 1)), (dn_), (dn_), H', ⟨by have := L.out; omega⟩, ⟨by (with_reducible repeat apply pR); exact aR.out⟩, ⟨by (with_reducible repeat apply pR); exact Kd.R_mono HO_6.out (fun _ hk => hk.2)⟩, ⟨vK d.out⟩, ⟨bl_⟩⟩
        ·rw [if_neg ac] at H
         exact absurd H (by simp)
       ·replace ab := Bool.eq_false_iff.mpr ab
        subst ab
        have H1 : (shutterref14_Line.l0 k1 a1 u c false (wrap64 (a + 1))) = some r := by rw [if_neg (show ¬ (false = true) by decide)] at H; exact H
        clear H
        have H := H1
        clear H1
        have H' := Z H
        clear H
        obtain ⟨bB, bD, be⟩ := Kd.R_slice HO_6.out
        subst be
        have v : 0 ≤ (a : Int) := od_
        have x : a < (c.length : Int) := od_
        obtain ⟨E, K, O⟩ := Kd.at_int (Kd.R_reads' HO_6.out).2.2 a v x
        cases K
        replace v := eq_true v
        replace x := eq_true x
        go_wp2
        go_roundg k1
        case measure => have := L.out; omega
        case rel => exact ⟨(u), (false), (wrap64 (a + 1)), (dn_), (dn_), H', ⟨by have := L.out; omega⟩, ⟨by (with_reducible repeat apply pR); exact HO_5.out⟩, ⟨by (with_reducible repeat apply pR); exact HO_6.out⟩, ⟨vK d.out⟩, ⟨bl_⟩⟩
     ·rw [if_neg Y] at H
      exact absurd H (by simp)
    ·rw [if_neg M] at H
     have aZ : decide (a < (c.length : Int)) = false := decide_eq_false M
     clear M
     obtain rfl := Option.some.inj H
     obtain ⟨bC, bE, bf⟩ := Kd.R_slice HO_6.out
     subst bf
     go_wp2
     go_ret
     exact ⟨_, er_, by (with_reducible repeat apply pR); exact Kd.R_mono HO_5.out (fun _ hk => trivial), bl_⟩
 ·replace c4 := Bool.eq_false_iff.mpr c4
  subst c4
  have H1 : (some ([] : List Int)) = some r := by rw [if_neg (show ¬ (false = true) by decide)] at H; exact H
  clear H
  have H := H1
  clear H1
  obtain rfl := Option.some.inj H
  go_enter Tryd.func32, Tryd.ntmps32
  go_wp2_with (first | ((with_reducible refine gate_dst (N := 2) rfl ?_); refine bx_ 2 24 #[.int .i64 j, .int .i64 l, .slice A i.length B, .int .i64 m, .bool n, .bool p] ?_; intro y hg bN hbox hb; have d := Z (hbox); have aM := Z (ln_ hg : w.heap.size ≤ y); have aK := aM; replace HB := bs_ hb; clear hb hbox hg; obtain ⟨bg, bh, bi, bj, bk, bl, bm, bn, bo, bp, bq, br⟩ := cells6 d.out) | ((with_reducible refine gate_callee (f := 22) rfl ?_); refine goesL_ (some 11) rfl rfl Tryd.func22 (by kernel_rfl) rfl #[.agg #[.int .i64 j, .int .i64 l, .slice A i.length B, .int .i64 m, .bool n, .bool p], .int .i64 a1] rfl ag_ ?_; (with_reducible refine (shutterref11_Open.calls k j l _ _ i m n p a1 false _ ?side1 ?side2 A3.out).mono ?_); (case side1 => repeat (first | exact (Kd.C_below Q.out HB.out) | (with_reducible apply pC))); (case side2 => exact P.out); rintro e bO ⟨rfl, hb⟩; refine ⟨_, rfl, ?_⟩; replace d := kb' d hb; replace HB := bs_ hb; clear hb))
  go_ret
  exact ⟨_, er_, by first | exact Kd.R_nil _ _ _ _ _ | exact Kd.N_nil _ _ _ _ _ | exact Kd.V_nil _ _ _ _ _ | exact Kd.Q_nil _ _ _ _ _ | exact Kd.S_nil _ _ _ _ _, bl_⟩
end Go.Proofs.YtggecanpjkpkiaaDoor.P
