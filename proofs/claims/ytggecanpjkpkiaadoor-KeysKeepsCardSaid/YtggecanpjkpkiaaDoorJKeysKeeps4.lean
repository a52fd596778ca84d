/- Printed walks of the law's functions, joined by joinpx.py: each function as a plain Lean function, and that Go's code comes to its answer. -/
import Derived.Test.YtggecanpjkpkiaaDoorJKeysKeeps1
import Derived.Test.YtggecanpjkpkiaaDoorPx3
import Derived.Test.YtggecanpjkpkiaaDoorJKeysKeeps3
namespace Go.Proofs.YtggecanpjkpkiaaDoor.P
open Go.RowKit Go.Proofs.YtggecanpjkpkiaaDoorW.PrintWords Go.Proofs.YtggecanpjkpkiaaDoorW.PrintLast Go.Proofs.YtggecanpjkpkiaaDoorW.PrintMore
attribute [local go_sem] max2_int min2_int max_two min_two max_three min_three max_four min_four
attribute [local go_sem] Instr.field asAgg
set_option linter.unusedVariables false
set_option linter.unusedSimpArgs false
set_option maxHeartbeats 8000000
set_option maxRecDepth 100000
def field_enters.f (c : Int) (d : Int) (a : List (S35)) (e : Int) (g : Bool) (h : Bool) (a1 : Int) : Option (Bool) := if 0 ≤ a1 then (if a1 < (a.length : Int) then (if (rd_T35 a a1).f0 = true then (if ((rd_T35 a a1).f1.f0 = true) then (some false) else ((grid_On.f c d a e g h a1 1).bind fun b => (if 0 ≤ b then (if b < (a.length : Int) then (some (!((rd_T35 a b).f0))) else (none)) else (none)))) else (some false)) else (none)) else (none)
def field_enters.T2 : Bool × List (List Nat × List Nat) := (true, [([], []), ([0], [0]), ([1], [1]), ([2], [2]), ([3, 2], [2, 3]), ([4, 2], [2, 4]), ([5, 2], [2, 5]), ([2, 6], [2, 6]), ([7, 2], [7]), ([8], [8]), ([9, 8], [8, 9]), ([8], [8]), ([8], [8]), ([11, 12, 8, 8], [8, 11, 12]), ([10, 13, 8], [8, 10, 13]), ([14, 8], [8, 14]), ([15, 8], [8, 15]), ([16, 8], [8, 16]), ([8, 17], [8, 17]), ([18, 13, 0, 1, 2, 3, 4, 5, 6, 7, 8, 9, 10, 11, 12, 13, 14, 15, 16, 17, 18], [18])])
def field_enters.B2 : List Nat := [0, 1, 3, 7, 15, 31, 63, 127, 255, 511, 1023, 511, 511, 6655, 16383, 32767, 65535, 131071, 262143, 524287]
theorem field_enters.tab2 : rtab .any (opsOf Tryd.f99 2) = field_enters.T2 := by kernel_rfl
theorem field_enters.bits2 : waitsOk field_enters.T2.2 field_enters.B2 = true := by kernel_rfl
theorem field_enters.calls (D : Int) (E : Int) (ai : Option Addr) (ab : Nat) (a : List (S35)) (F : Int) (G : Bool) (I : Bool) (a1 : Int) (r : Bool) (w : World) (aD : Kd.C k35 w ai a.length a) (aC : a.length ≤ ab) (h : field_enters.f D E a F G I a1 = some r) :
  Calls Tryd.prog 99 #[.agg #[.int .i64 D, .int .i64 E, .slice ai a.length ab, .int .i64 F, .bool G, .bool I], .int .i64 a1] w fun e w' => e = .returned (.bool r) ∧ Below w.heap.size w w' := by
 have cq := Tryd.underlying24
 have cr := Tryd.underlying35
 have ae := Z aD
 have aQ := Z aC
 clear aD aC
 have HB := Z (Below.refl w.heap.size w)
 have H : (if 0 ≤ a1 then (if a1 < (a.length : Int) then (if (rd_T35 a a1).f0 = true then (if ((rd_T35 a a1).f1.f0 = true) then (some false) else ((grid_On.f D E a F G I a1 1).bind fun g => (if 0 ≤ g then (if g < (a.length : Int) then (some (!((rd_T35 a g).f0))) else (none)) else (none)))) else (some false)) else (none)) else (none)) = some r := h
 clear h
 by_cases c3 : 0 ≤ a1
 ·rw [if_pos c3] at H
  have co : decide (0 ≤ a1) = true := decide_eq_true c3
  clear c3
  by_cases c4 : a1 < (a.length : Int)
  ·rw [if_pos c4] at H
   have cp : decide (a1 < (a.length : Int)) = true := decide_eq_true c4
   clear c4
   obtain ⟨aW, ak⟩ : ∃ b_ : Bool, b_ = ((rd_T35 a a1).f0) := ⟨_, rfl⟩
   replace H : (if aW = true then (if ((rd_T35 a a1).f1.f0 = true) then (some false) else ((grid_On.f D E a F G I a1 1).bind fun g => (if 0 ≤ g then (if g < (a.length : Int) then (some (!((rd_T35 a g).f0))) else (none)) else (none)))) else (some false)) = some r := by rw [← ak] at H; exact H
   have s := Z ak
   clear ak
   by_cases c6 : aW = true
   ·subst c6
    have H1 : (if ((rd_T35 a a1).f1.f0 = true) then (some false) else ((grid_On.f D E a F G I a1 1).bind fun g => (if 0 ≤ g then (if g < (a.length : Int) then (some (!((rd_T35 a g).f0))) else (none)) else (none)))) = some r := by rw [if_pos rfl] at H; exact H
    clear H
    have H := H1
    clear H1
    obtain ⟨aX, al⟩ : ∃ b_ : Bool, b_ = ((rd_T35 a a1).f1.f0) := ⟨_, rfl⟩
    replace H : (if (aX = true) then (some false) else ((grid_On.f D E a F G I a1 1).bind fun g => (if 0 ≤ g then (if g < (a.length : Int) then (some (!((rd_T35 a g).f0))) else (none)) else (none)))) = some r := by rw [← al] at H; exact H
    have y := Z al
    clear al
    by_cases c8 : (aX = true)
    ·subst c8
     have H1 : (some false) = some r := by rw [if_pos rfl] at H; exact H
     clear H
     have H := H1
     clear H1
     obtain rfl := Option.some.inj H
     go_enter Tryd.func99, Tryd.ntmps99
     try go_wp2_with (first | ((with_reducible refine gate_dst (N := 2) rfl ?_); refine bx_ 2 24 #[.int .i64 D, .int .i64 E, .slice ai a.length ab, .int .i64 F, .bool G, .bool I] ?_; intro x hg w9 hbox hb; have c := Z (hbox); have ay := Z (ln_ hg : w.heap.size ≤ x); have aw := ay; replace HB := bs_ hb; clear hb hbox hg; obtain ⟨aZ, a0, a2, a3, a4, a5, bC, bD, bE, bF, bG, bH⟩ := cells6 c.out; have Y : 0 ≤ (a1 : Int) := od_; have aa : a1 < (a.length : Int) := od_; obtain ⟨u, aj, m, o, p, z, q, A⟩ := at_T35 ae.out a1 Y aa; (try rw [← s.out] at m); (try rw [← y.out] at m); (try rw [← s.out] at o); (try rw [← y.out] at o); (try rw [← s.out] at p); (try rw [← y.out] at p); (try rw [← s.out] at q); (try rw [← y.out] at q); cases aj; replace m := (HB.out.cell (bk_ w _ m)).trans m; replace o := (HB.out.cell (bk_ w _ o)).trans o; replace p := (HB.out.cell (bk_ w _ p)).trans p; replace z := (HB.out.cell (bk_ w _ z)).trans z; replace q := (HB.out.cell (bk_ w _ q)).trans q; replace A := (HB.out.cell (bk_ w _ A)).trans A; replace Y := eq_true Y; replace aa := eq_true aa) | ((with_reducible refine gate_dst (N := 5) rfl ?_); refine bx_ 5 35 #[.bool false, .bool false, .bool false, .int .i64 0, .bool false, .int .u8 0] ?_; intro b hg aM hbox hb; have d := Z (hbox); have az := Z (ln_ hg : w.heap.size ≤ b); have ax := az; replace HB := bs_ hb; have B := nl' c hg; have P := ng' c hg; replace c := kb' c hb; clear hb hbox hg; have ci := P.out; have cl := B.out; obtain ⟨a6, a7, a8, a9, ba, bb, bI, bJ, bK, bL, bM, bN⟩ := cells6 d.out))
     have j : Aside0 (((((((aM.setCell ⟨b, 0, none⟩ (.bool true)).setCell ⟨b, 1, none⟩ (.bool true)).setCell ⟨b, 2, none⟩ (.bool ((rd_T35 a a1).f1.f1))).setCell ⟨b, 3, none⟩ (.int .i64 ((rd_T35 a a1).f1.f2))).setCell ⟨b, 4, none⟩ (.bool ((rd_T35 a a1).f1.f3))).setCell ⟨b, 5, none⟩ (.int .u8 ((rd_T35 a a1).f2))).heap[x]? = some (.cells #[.int .i64 D, .int .i64 E, .slice (some u) a.length ab, .int .i64 F, .bool G, .bool I] 24 (0, 0))) := ⟨blk_off c.out B.out off2_⟩
     have k : Aside0 (((((((aM.setCell ⟨b, 0, none⟩ (.bool true)).setCell ⟨b, 1, none⟩ (.bool true)).setCell ⟨b, 2, none⟩ (.bool ((rd_T35 a a1).f1.f1))).setCell ⟨b, 3, none⟩ (.int .i64 ((rd_T35 a a1).f1.f2))).setCell ⟨b, 4, none⟩ (.bool ((rd_T35 a a1).f1.f3))).setCell ⟨b, 5, none⟩ (.int .u8 ((rd_T35 a a1).f2))).heap[b]? = some (.cells #[.bool true, .bool true, .bool ((rd_T35 a a1).f1.f1), .int .i64 ((rd_T35 a a1).f1.f2), .bool ((rd_T35 a a1).f1.f3), .int .u8 ((rd_T35 a a1).f2)] 35 (0, 0))) := ⟨by first | exact put6 d.out | (simp only [← s.out, ← y.out]; exact put6 d.out)⟩
     have l : Aside0 (Below w.heap.size w ((((((aM.setCell ⟨b, 0, none⟩ (.bool true)).setCell ⟨b, 1, none⟩ (.bool true)).setCell ⟨b, 2, none⟩ (.bool ((rd_T35 a a1).f1.f1))).setCell ⟨b, 3, none⟩ (.int .i64 ((rd_T35 a a1).f1.f2))).setCell ⟨b, 4, none⟩ (.bool ((rd_T35 a a1).f1.f3))).setCell ⟨b, 5, none⟩ (.int .u8 ((rd_T35 a a1).f2)))) := ⟨bl_⟩
     clear c d HB
     generalize ((((((aM.setCell ⟨b, 0, none⟩ (.bool true)).setCell ⟨b, 1, none⟩ (.bool true)).setCell ⟨b, 2, none⟩ (.bool ((rd_T35 a a1).f1.f1))).setCell ⟨b, 3, none⟩ (.int .i64 ((rd_T35 a a1).f1.f2))).setCell ⟨b, 4, none⟩ (.bool ((rd_T35 a a1).f1.f3))).setCell ⟨b, 5, none⟩ (.int .u8 ((rd_T35 a a1).f2))) = cd at j k l ⊢
     have c := j
     have d := k
     have HB := l
     clear j k l
     replace c := Z (blk_drew c.out)
     replace d := Z (blk_drew d.out)
     replace HB := Z (below_drew1 HB.out)
     refine start_ (n := 20) (S := fun w' => w'.cell? ⟨b, 0, none⟩ = some (.bool true) ∧ w'.cell? ⟨b, 1, none⟩ = some (.bool true) ∧ w'.cell? ⟨b, 2, none⟩ = some (.bool ((rd_T35 a a1).f1.f1)) ∧ w'.cell? ⟨b, 3, none⟩ = some (.int .i64 ((rd_T35 a a1).f1.f2)) ∧ w'.cell? ⟨b, 4, none⟩ = some (.bool ((rd_T35 a a1).f1.f3)) ∧ w'.cell? ⟨b, 5, none⟩ = some (.int .u8 ((rd_T35 a a1).f2))) (ds := []) (bv 20 0) (by kernel_rfl) rfl rfl ⟨(blk_cell d.out 0).trans rfl, (blk_cell d.out 1).trans rfl, (blk_cell d.out 2).trans rfl, (blk_cell d.out 3).trans rfl, (blk_cell d.out 4).trans rfl, (blk_cell d.out 5).trans rfl⟩ (fun hHeld => ?_); refine with_tabW field_enters.tab2 field_enters.bits2 (fun HT_ HW_ => ?_)
     generalize cd.drew = cu at c d HB hHeld ⊢
     refine pT_ HT_ 0 20 1 (some 11) ?_
     refine tT_ HT_ HW_ hHeld 1 20 3 (some 12) ?_
     refine pT_ HT_ 2 20 7 (some 13) ?_
     refine pT_ HT_ 3 20 15 (some 14) ?_
     refine pT_ HT_ 4 20 31 (some 15) ?_
     refine tT_ HT_ HW_ hHeld 5 20 63 (some 16) ?_
     refine pT_ HT_ 6 20 127 (some 17) ?_
     refine pT_ HT_ 7 20 255 (some 18) ?_
     refine pT_ HT_ 8 20 511 (some 19) ?_
     refine pU_ HT_ 9 20 1023 (some 20) ?_
     refine pU_ HT_ 10 20 2047 (some 21) ?_
     refine pU_ HT_ 11 20 4095 (some 22) ?_
     refine pU_ HT_ 12 20 8191 (some 23) ?_
     refine pU_ HT_ 13 20 16383 (some 24) ?_
     refine pU_ HT_ 14 20 32767 (some 25) ?_
     refine pU_ HT_ 15 20 65535 (some 26) ?_
     refine pU_ HT_ 16 20 131071 (some 27) ?_
     refine pU_ HT_ 17 20 262143 (some 28) ?_
     refine pT_ HT_ 18 20 524287 (some 29) ?_
     refine pT_ HT_ 19 20 1048575 (some 4) ?_
     refine done_ (done_of HT_.out (by kernel_rfl)) ?_
     try go_wp2
     go_ret
     exact ⟨er_, bl_⟩
    ·replace c8 := Bool.eq_false_iff.mpr c8
     subst c8
     have H1 : ((grid_On.f D E a F G I a1 1).bind fun g => (if 0 ≤ g then (if g < (a.length : Int) then (some (!((rd_T35 a g).f0))) else (none)) else (none))) = some r := by rw [if_neg (show ¬ (false = true) by decide)] at H; exact H
     clear H
     have H := H1
     clear H1
     replace H := Option.bind_eq_some_iff.mp H
     obtain ⟨g, aP, H⟩ := H
     replace H : (if 0 ≤ g then (if g < (a.length : Int) then (some (!((rd_T35 a g).f0))) else (none)) else (none)) = some r := H
     have cc := Z aP
     clear aP
     by_cases aA : 0 ≤ g
     ·rw [if_pos aA] at H
      have cg : decide (0 ≤ g) = true := decide_eq_true aA
      clear aA
      by_cases aB : g < (a.length : Int)
      ·rw [if_pos aB] at H
       have ch : decide (g < (a.length : Int)) = true := decide_eq_true aB
       clear aB
       obtain rfl := Option.some.inj H
       go_enter Tryd.func99, Tryd.ntmps99
       try go_wp2_with (first | ((with_reducible refine gate_dst (N := 2) rfl ?_); refine bx_ 2 24 #[.int .i64 D, .int .i64 E, .slice ai a.length ab, .int .i64 F, .bool G, .bool I] ?_; intro x hg cv hbox hb; have c := Z (hbox); have ay := Z (ln_ hg : w.heap.size ≤ x); have aw := ay; replace HB := bs_ hb; clear hb hbox hg; obtain ⟨bc, bd, be, bf, bg, bh, bO, bP, bQ, bR, bS, bT⟩ := cells6 c.out; have Y : 0 ≤ (a1 : Int) := od_; have aa : a1 < (a.length : Int) := od_; obtain ⟨u, aj, m, o, p, z, q, A⟩ := at_T35 ae.out a1 Y aa; (try rw [← s.out] at m); (try rw [← y.out] at m); (try rw [← s.out] at o); (try rw [← y.out] at o); (try rw [← s.out] at p); (try rw [← y.out] at p); (try rw [← s.out] at q); (try rw [← y.out] at q); cases aj; replace m := (HB.out.cell (bk_ w _ m)).trans m; replace o := (HB.out.cell (bk_ w _ o)).trans o; replace p := (HB.out.cell (bk_ w _ p)).trans p; replace z := (HB.out.cell (bk_ w _ z)).trans z; replace q := (HB.out.cell (bk_ w _ q)).trans q; replace A := (HB.out.cell (bk_ w _ A)).trans A; replace Y := eq_true Y; replace aa := eq_true aa) | ((with_reducible refine gate_dst (N := 5) rfl ?_); refine bx_ 5 35 #[.bool false, .bool false, .bool false, .int .i64 0, .bool false, .int .u8 0] ?_; intro b hg aN hbox hb; have d := Z (hbox); have az := Z (ln_ hg : w.heap.size ≤ b); have ax := az; replace HB := bs_ hb; have B := nl' c hg; have P := ng' c hg; replace c := kb' c hb; clear hb hbox hg; have cj := P.out; have cm := B.out; obtain ⟨bi, bj, bk, bl, bm, bn, bU, bV, bW, bX, bY, bZ⟩ := cells6 d.out))
       have j : Aside0 (((((((aN.setCell ⟨b, 0, none⟩ (.bool true)).setCell ⟨b, 1, none⟩ (.bool false)).setCell ⟨b, 2, none⟩ (.bool ((rd_T35 a a1).f1.f1))).setCell ⟨b, 3, none⟩ (.int .i64 ((rd_T35 a a1).f1.f2))).setCell ⟨b, 4, none⟩ (.bool ((rd_T35 a a1).f1.f3))).setCell ⟨b, 5, none⟩ (.int .u8 ((rd_T35 a a1).f2))).heap[x]? = some (.cells #[.int .i64 D, .int .i64 E, .slice (some u) a.length ab, .int .i64 F, .bool G, .bool I] 24 (0, 0))) := ⟨blk_off c.out B.out off2_⟩
       have k : Aside0 (((((((aN.setCell ⟨b, 0, none⟩ (.bool true)).setCell ⟨b, 1, none⟩ (.bool false)).setCell ⟨b, 2, none⟩ (.bool ((rd_T35 a a1).f1.f1))).setCell ⟨b, 3, none⟩ (.int .i64 ((rd_T35 a a1).f1.f2))).setCell ⟨b, 4, none⟩ (.bool ((rd_T35 a a1).f1.f3))).setCell ⟨b, 5, none⟩ (.int .u8 ((rd_T35 a a1).f2))).heap[b]? = some (.cells #[.bool true, .bool false, .bool ((rd_T35 a a1).f1.f1), .int .i64 ((rd_T35 a a1).f1.f2), .bool ((rd_T35 a a1).f1.f3), .int .u8 ((rd_T35 a a1).f2)] 35 (0, 0))) := ⟨by first | exact put6 d.out | (simp only [← s.out, ← y.out]; exact put6 d.out)⟩
       have l : Aside0 (Below w.heap.size w ((((((aN.setCell ⟨b, 0, none⟩ (.bool true)).setCell ⟨b, 1, none⟩ (.bool false)).setCell ⟨b, 2, none⟩ (.bool ((rd_T35 a a1).f1.f1))).setCell ⟨b, 3, none⟩ (.int .i64 ((rd_T35 a a1).f1.f2))).setCell ⟨b, 4, none⟩ (.bool ((rd_T35 a a1).f1.f3))).setCell ⟨b, 5, none⟩ (.int .u8 ((rd_T35 a a1).f2)))) := ⟨bl_⟩
       clear c d HB
       generalize ((((((aN.setCell ⟨b, 0, none⟩ (.bool true)).setCell ⟨b, 1, none⟩ (.bool false)).setCell ⟨b, 2, none⟩ (.bool ((rd_T35 a a1).f1.f1))).setCell ⟨b, 3, none⟩ (.int .i64 ((rd_T35 a a1).f1.f2))).setCell ⟨b, 4, none⟩ (.bool ((rd_T35 a a1).f1.f3))).setCell ⟨b, 5, none⟩ (.int .u8 ((rd_T35 a a1).f2))) = ce at j k l ⊢
       have c := j
       have d := k
       have HB := l
       clear j k l
       replace c := Z (blk_drew c.out)
       replace d := Z (blk_drew d.out)
       replace HB := Z (below_drew1 HB.out)
       have am : 0 ≤ (g : Int) := od_
       have an : g < (a.length : Int) := od_
       obtain ⟨aR, aY, J, L, M, ac, O, ad⟩ := at_T35 ae.out g am an
       have X := ad
       (try rw [← s.out] at X)
       (try rw [← y.out] at X)
       have W := O
       (try rw [← s.out] at W)
       (try rw [← y.out] at W)
       have V := ac
       (try rw [← s.out] at V)
       (try rw [← y.out] at V)
       have U := M
       (try rw [← s.out] at U)
       (try rw [← y.out] at U)
       have T := L
       (try rw [← s.out] at T)
       (try rw [← y.out] at T)
       have R := J
       (try rw [← s.out] at R)
       (try rw [← y.out] at R)
       (try rw [← s.out] at J)
       (try rw [← y.out] at J)
       (try rw [← s.out] at L)
       (try rw [← y.out] at L)
       (try rw [← s.out] at M)
       (try rw [← y.out] at M)
       (try rw [← s.out] at O)
       (try rw [← y.out] at O)
       obtain rfl : u = aR := (by injection aY)
       replace J := (HB.out.cell (bk_ w _ J)).trans J
       replace L := (HB.out.cell (bk_ w _ L)).trans L
       replace M := (HB.out.cell (bk_ w _ M)).trans M
       replace ac := (HB.out.cell (bk_ w _ ac)).trans ac
       replace O := (HB.out.cell (bk_ w _ O)).trans O
       replace ad := (HB.out.cell (bk_ w _ ad)).trans ad
       replace am := eq_true am
       replace an := eq_true an
       refine start_ (n := 20) (S := fun w' => w'.cell? ⟨b, 0, none⟩ = some (.bool true) ∧ w'.cell? ⟨b, 1, none⟩ = some (.bool false) ∧ w'.cell? ⟨b, 2, none⟩ = some (.bool ((rd_T35 a a1).f1.f1)) ∧ w'.cell? ⟨b, 3, none⟩ = some (.int .i64 ((rd_T35 a a1).f1.f2)) ∧ w'.cell? ⟨b, 4, none⟩ = some (.bool ((rd_T35 a a1).f1.f3)) ∧ w'.cell? ⟨b, 5, none⟩ = some (.int .u8 ((rd_T35 a a1).f2)) ∧ w'.cell? ⟨x, 0, none⟩ = some (.int .i64 D) ∧ w'.cell? ⟨x, 1, none⟩ = some (.int .i64 E) ∧ w'.cell? ⟨x, 2, none⟩ = some (.slice (some u) a.length ab) ∧ w'.cell? ⟨x, 3, none⟩ = some (.int .i64 F) ∧ w'.cell? ⟨x, 4, none⟩ = some (.bool G) ∧ w'.cell? ⟨x, 5, none⟩ = some (.bool I) ∧ w'.cell? (u.add ((g).toNat * 6)) = some (.bool ((rd_T35 a g).f0)) ∧ w'.cell? ⟨(u.add ((g).toNat * 6)).block, (u.add ((g).toNat * 6)).off + 1, none⟩ = some (.bool ((rd_T35 a g).f1.f0)) ∧ w'.cell? ⟨(u.add ((g).toNat * 6)).block, (u.add ((g).toNat * 6)).off + 2, none⟩ = some (.bool ((rd_T35 a g).f1.f1)) ∧ w'.cell? ⟨(u.add ((g).toNat * 6)).block, (u.add ((g).toNat * 6)).off + 3, none⟩ = some (.int .i64 ((rd_T35 a g).f1.f2)) ∧ w'.cell? ⟨(u.add ((g).toNat * 6)).block, (u.add ((g).toNat * 6)).off + 4, none⟩ = some (.bool ((rd_T35 a g).f1.f3)) ∧ w'.cell? ⟨(u.add ((g).toNat * 6)).block, (u.add ((g).toNat * 6)).off + 5, none⟩ = some (.int .u8 ((rd_T35 a g).f2))) (ds := []) (bv 20 0) (by kernel_rfl) rfl rfl ⟨(blk_cell d.out 0).trans rfl, (blk_cell d.out 1).trans rfl, (blk_cell d.out 2).trans rfl, (blk_cell d.out 3).trans rfl, (blk_cell d.out 4).trans rfl, (blk_cell d.out 5).trans rfl, (blk_cell c.out 0).trans rfl, (blk_cell c.out 1).trans rfl, (blk_cell c.out 2).trans rfl, (blk_cell c.out 3).trans rfl, (blk_cell c.out 4).trans rfl, (blk_cell c.out 5).trans rfl, ((HB.out.cell (bk_ w _ R)).trans R), ((HB.out.cell (bk_ w _ T)).trans T), ((HB.out.cell (bk_ w _ U)).trans U), ((HB.out.cell (bk_ w _ V)).trans V), ((HB.out.cell (bk_ w _ W)).trans W), ((HB.out.cell (bk_ w _ X)).trans X)⟩ (fun hHeld => ?_); refine with_tabW field_enters.tab2 field_enters.bits2 (fun HT_ HW_ => ?_)
       generalize ce.drew = cw at c d HB J L M ac O ad hHeld ⊢
       refine pT_ HT_ 0 20 1 (some 11) ?_
       refine tT_ HT_ HW_ hHeld 1 20 3 (some 12) ?_
       refine pT_ HT_ 2 20 7 (some 13) ?_
       refine pT_ HT_ 3 20 15 (some 14) ?_
       refine pT_ HT_ 4 20 31 (some 15) ?_
       refine tT_ HT_ HW_ hHeld 5 20 63 (some 16) ?_
       refine pT_ HT_ 6 20 127 (some 17) ?_
       refine pT_ HT_ 7 20 255 (some 18) ?_
       refine pT_ HT_ 8 20 511 (some 19) ?_
       refine pT_ HT_ 9 20 1023 (some 20) ?_
       refine pT_ HT_ 12 20 5119 (some 23) ?_
       refine tT_ HT_ HW_ hHeld 10 20 6143 (some 21) ?_
       refine tT_ HT_ HW_ hHeld 11 20 8191 (some 22) ?_
       refine oT_ HT_ 13 20 16383 (some 24) (fun K hK => ?_)
       refine goes_ Tryd.func80 (by kernel_rfl) rfl #[.agg #[.int .i64 D, .int .i64 E, .slice (some u) a.length ab, .int .i64 F, .bool G, .bool I], .int .i64 a1, .int .i64 1] (by rfl) rfl rfl ag_ ?_
       with_reducible refine (grid_On.calls D E _ _ a F G I a1 1 g _ ?side1 ?side2 cc.out).mono ?_
       (case side1 => repeat (first | exact (Kd.C_below ae.out HB.out) | (with_reducible apply pC)))
       (case side2 => exact aQ.out)
       rintro e cx ⟨rfl, hb⟩
       refine ⟨_, rfl, ?_⟩
       replace c := kb' c hb
       replace d := kb' d hb
       replace HB := bs_ hb
       clear hb
       refine hK.out _ _ ⟨(blk_cell d.out 0).trans rfl, (blk_cell d.out 1).trans rfl, (blk_cell d.out 2).trans rfl, (blk_cell d.out 3).trans rfl, (blk_cell d.out 4).trans rfl, (blk_cell d.out 5).trans rfl, (blk_cell c.out 0).trans rfl, (blk_cell c.out 1).trans rfl, (blk_cell c.out 2).trans rfl, (blk_cell c.out 3).trans rfl, (blk_cell c.out 4).trans rfl, (blk_cell c.out 5).trans rfl, ((HB.out.cell (bk_ w _ R)).trans R), ((HB.out.cell (bk_ w _ T)).trans T), ((HB.out.cell (bk_ w _ U)).trans U), ((HB.out.cell (bk_ w _ V)).trans V), ((HB.out.cell (bk_ w _ W)).trans W), ((HB.out.cell (bk_ w _ X)).trans X)⟩ (fun hHeld => ?_)
       clear hK K
       refine nA_ (some 24) ?_
       refine pT_ HT_ 14 20 32767 (some 25) ?_
       refine pT_ HT_ 15 20 65535 (some 26) ?_
       refine tT_ HT_ HW_ hHeld 16 20 131071 (some 27) ?_
       refine pT_ HT_ 17 20 262143 (some 28) ?_
       refine pT_ HT_ 18 20 524287 (some 29) ?_
       refine pT_ HT_ 19 20 1048575 (some 4) ?_
       refine done_ (done_of HT_.out (by kernel_rfl)) ?_
       try go_wp2
       go_ret
       exact ⟨er_, bl_⟩
      ·rw [if_neg aB] at H
       exact absurd H (by simp)
     ·rw [if_neg aA] at H
      exact absurd H (by simp)
   ·replace c6 := Bool.eq_false_iff.mpr c6
    subst c6
    have H1 : (some false) = some r := by rw [if_neg (show ¬ (false = true) by decide)] at H; exact H
    clear H
    have H := H1
    clear H1
    obtain rfl := Option.some.inj H
    go_enter Tryd.func99, Tryd.ntmps99
    try go_wp2_with (first | ((with_reducible refine gate_dst (N := 2) rfl ?_); refine bx_ 2 24 #[.int .i64 D, .int .i64 E, .slice ai a.length ab, .int .i64 F, .bool G, .bool I] ?_; intro x hg cy hbox hb; have c := Z (hbox); have ay := Z (ln_ hg : w.heap.size ≤ x); have aw := ay; replace HB := bs_ hb; clear hb hbox hg; obtain ⟨bo, bp, bq, br, bs, bt, b0, b1, b2, b3, b4, b5⟩ := cells6 c.out; have Y : 0 ≤ (a1 : Int) := od_; have aa : a1 < (a.length : Int) := od_; obtain ⟨u, aj, m, o, p, z, q, A⟩ := at_T35 ae.out a1 Y aa; (try rw [← s.out] at m); (try rw [← s.out] at o); (try rw [← s.out] at p); (try rw [← s.out] at q); cases aj; replace m := (HB.out.cell (bk_ w _ m)).trans m; replace o := (HB.out.cell (bk_ w _ o)).trans o; replace p := (HB.out.cell (bk_ w _ p)).trans p; replace z := (HB.out.cell (bk_ w _ z)).trans z; replace q := (HB.out.cell (bk_ w _ q)).trans q; replace A := (HB.out.cell (bk_ w _ A)).trans A; replace Y := eq_true Y; replace aa := eq_true aa) | ((with_reducible refine gate_dst (N := 5) rfl ?_); refine bx_ 5 35 #[.bool false, .bool false, .bool false, .int .i64 0, .bool false, .int .u8 0] ?_; intro b hg aO hbox hb; have d := Z (hbox); have az := Z (ln_ hg : w.heap.size ≤ b); have ax := az; replace HB := bs_ hb; have B := nl' c hg; have P := ng' c hg; replace c := kb' c hb; clear hb hbox hg; have ck := P.out; have cn := B.out; obtain ⟨bu, bw, bx, bz, bA, bB, b6, b7, b8, b9, ca, cb⟩ := cells6 d.out))
    have j : Aside0 (((((((aO.setCell ⟨b, 0, none⟩ (.bool false)).setCell ⟨b, 1, none⟩ (.bool ((rd_T35 a a1).f1.f0))).setCell ⟨b, 2, none⟩ (.bool ((rd_T35 a a1).f1.f1))).setCell ⟨b, 3, none⟩ (.int .i64 ((rd_T35 a a1).f1.f2))).setCell ⟨b, 4, none⟩ (.bool ((rd_T35 a a1).f1.f3))).setCell ⟨b, 5, none⟩ (.int .u8 ((rd_T35 a a1).f2))).heap[x]? = some (.cells #[.int .i64 D, .int .i64 E, .slice (some u) a.length ab, .int .i64 F, .bool G, .bool I] 24 (0, 0))) := ⟨blk_off c.out B.out off2_⟩
    have k : Aside0 (((((((aO.setCell ⟨b, 0, none⟩ (.bool false)).setCell ⟨b, 1, none⟩ (.bool ((rd_T35 a a1).f1.f0))).setCell ⟨b, 2, none⟩ (.bool ((rd_T35 a a1).f1.f1))).setCell ⟨b, 3, none⟩ (.int .i64 ((rd_T35 a a1).f1.f2))).setCell ⟨b, 4, none⟩ (.bool ((rd_T35 a a1).f1.f3))).setCell ⟨b, 5, none⟩ (.int .u8 ((rd_T35 a a1).f2))).heap[b]? = some (.cells #[.bool false, .bool ((rd_T35 a a1).f1.f0), .bool ((rd_T35 a a1).f1.f1), .int .i64 ((rd_T35 a a1).f1.f2), .bool ((rd_T35 a a1).f1.f3), .int .u8 ((rd_T35 a a1).f2)] 35 (0, 0))) := ⟨by first | exact put6 d.out | (simp only [← s.out]; exact put6 d.out)⟩
    have l : Aside0 (Below w.heap.size w ((((((aO.setCell ⟨b, 0, none⟩ (.bool false)).setCell ⟨b, 1, none⟩ (.bool ((rd_T35 a a1).f1.f0))).setCell ⟨b, 2, none⟩ (.bool ((rd_T35 a a1).f1.f1))).setCell ⟨b, 3, none⟩ (.int .i64 ((rd_T35 a a1).f1.f2))).setCell ⟨b, 4, none⟩ (.bool ((rd_T35 a a1).f1.f3))).setCell ⟨b, 5, none⟩ (.int .u8 ((rd_T35 a a1).f2)))) := ⟨bl_⟩
    clear c d HB
    generalize ((((((aO.setCell ⟨b, 0, none⟩ (.bool false)).setCell ⟨b, 1, none⟩ (.bool ((rd_T35 a a1).f1.f0))).setCell ⟨b, 2, none⟩ (.bool ((rd_T35 a a1).f1.f1))).setCell ⟨b, 3, none⟩ (.int .i64 ((rd_T35 a a1).f1.f2))).setCell ⟨b, 4, none⟩ (.bool ((rd_T35 a a1).f1.f3))).setCell ⟨b, 5, none⟩ (.int .u8 ((rd_T35 a a1).f2))) = cf at j k l ⊢
    have c := j
    have d := k
    have HB := l
    clear j k l
    replace c := Z (blk_drew c.out)
    replace d := Z (blk_drew d.out)
    replace HB := Z (below_drew1 HB.out)
    refine start_ (n := 20) (S := fun w' => w'.cell? ⟨b, 0, none⟩ = some (.bool false) ∧ w'.cell? ⟨b, 1, none⟩ = some (.bool ((rd_T35 a a1).f1.f0)) ∧ w'.cell? ⟨b, 2, none⟩ = some (.bool ((rd_T35 a a1).f1.f1)) ∧ w'.cell? ⟨b, 3, none⟩ = some (.int .i64 ((rd_T35 a a1).f1.f2)) ∧ w'.cell? ⟨b, 4, none⟩ = some (.bool ((rd_T35 a a1).f1.f3)) ∧ w'.cell? ⟨b, 5, none⟩ = some (.int .u8 ((rd_T35 a a1).f2))) (ds := []) (bv 20 0) (by kernel_rfl) rfl rfl ⟨(blk_cell d.out 0).trans rfl, (blk_cell d.out 1).trans rfl, (blk_cell d.out 2).trans rfl, (blk_cell d.out 3).trans rfl, (blk_cell d.out 4).trans rfl, (blk_cell d.out 5).trans rfl⟩ (fun hHeld => ?_); refine with_tabW field_enters.tab2 field_enters.bits2 (fun HT_ HW_ => ?_)
    generalize cf.drew = cz at c d HB hHeld ⊢
    refine pT_ HT_ 0 20 1 (some 11) ?_
    refine tT_ HT_ HW_ hHeld 1 20 3 (some 12) ?_
    refine pT_ HT_ 2 20 7 (some 13) ?_
    refine pU_ HT_ 3 20 15 (some 14) ?_
    refine pU_ HT_ 4 20 31 (some 15) ?_
    refine pU_ HT_ 5 20 63 (some 16) ?_
    refine pU_ HT_ 6 20 127 (some 17) ?_
    refine pT_ HT_ 7 20 255 (some 18) ?_
    refine pT_ HT_ 8 20 511 (some 19) ?_
    refine pU_ HT_ 9 20 1023 (some 20) ?_
    refine pU_ HT_ 10 20 2047 (some 21) ?_
    refine pU_ HT_ 11 20 4095 (some 22) ?_
    refine pU_ HT_ 12 20 8191 (some 23) ?_
    refine pU_ HT_ 13 20 16383 (some 24) ?_
    refine pU_ HT_ 14 20 32767 (some 25) ?_
    refine pU_ HT_ 15 20 65535 (some 26) ?_
    refine pU_ HT_ 16 20 131071 (some 27) ?_
    refine pU_ HT_ 17 20 262143 (some 28) ?_
    refine pT_ HT_ 18 20 524287 (some 29) ?_
    refine pT_ HT_ 19 20 1048575 (some 4) ?_
    refine done_ (done_of HT_.out (by kernel_rfl)) ?_
    try go_wp2
    go_ret
    exact ⟨er_, bl_⟩
  ·rw [if_neg c4] at H
   exact absurd H (by simp)
 ·rw [if_neg c3] at H
  exact absurd H (by simp)
section
open Go.Shelf
attribute [local go_sem] Oper.semAt_some
def protI (l : List S35) (i : Int) : Bool := (rd_T35 l i).f1.f0
def entI (l : List S35) (i : Int) : Bool := isF l i && !protI l i && !isF l (onI l.length i 1)
def firstI (l : List S35) (g : Nat → Int) : Int := if findW (entI l) g l.length 0 < 0 then -1 else onI l.length (findW (entI l) g l.length 0) 1
def nextI (l : List S35) (a : Int) : Int := firstI l (wayI l.length a 1)
def prevI (l : List S35) (a : Int) : Int := firstI l (wayI l.length a (-2))
theorem grid_On.eq (r c : Int) (l : List S35) (cu : Int) (lo ins : Bool) (a d : Int) (hn : l.length ≤ 16383) (b : 0 ≤ a) (e : a < l.length) : grid_On.f r c l cu lo ins a d = some (onI l.length a d) := by
 unfold grid_On.f
 rw [if_neg (by omega), on_eq l.length (by omega) hn a d b e]
theorem field_enters.eq (r c : Int) (l : List S35) (cu : Int) (lo ins : Bool) (a : Int) (hn : l.length ≤ 16383) (b : 0 ≤ a) (d : a < l.length) : field_enters.f r c l cu lo ins a = some (entI l a) := by
 unfold field_enters.f
 have hp : 0 < l.length := by omega
 rw [if_pos b, if_pos d, grid_On.eq r c l cu lo ins a 1 hn b d]
 simp only [Option.bind_some]
 rw [if_pos (onI_nonneg hp a 1), if_pos (onI_lt hp a 1)]
 unfold entI isF protI
 cases (rd_T35 l a).f0 <;> cases (rd_T35 l a).f1.f0 <;> simp
theorem keeps_of_below {W W' : World} (h : Below W.heap.size W W') (B : Nat) : KeepsFrom B W W' := ⟨h.size, fun k o _ hk _ => blk_below hk h⟩
theorem First_loop (r c : Int) (A : Option Addr) (cp : Nat) (l : List S35) (cu : Int) (lo ins : Bool) (a d : Int) (Bs Ba Bb : Nat) (w : World) (hr : Kd.C k35 w A l.length l) (hc : l.length ≤ cp) (hn : l.length ≤ 16383) (u : 0 ≤ a) (v : a < l.length)
  (hcs : w.heap[Bs]? = some (.cells #[.int .i64 r, .int .i64 c, .slice A l.length cp, .int .i64 cu, .bool lo, .bool ins] 24 (0, 0))) (hca : w.heap[Ba]? = some (.cells #[.int .i64 a] 3 (0, 0))) (hcb : w.heap[Bb]? = some (.cells #[.int .i64 d] 3 (0, 0))) :
  CallsIn Fence.wide 5 Tryd.prog 89 #[.agg #[.int .i64 r, .int .i64 c, .slice A l.length cp, .int .i64 cu, .bool lo, .bool ins], .func (.func 93) #[] #[.pointer (some ⟨Bs, 0, none⟩), .pointer (some ⟨Ba, 0, none⟩), .pointer (some ⟨Bb, 0, none⟩)]] w fun e w' => e = .returned (.int .i64 (firstI l (wayI l.length a d))) ∧ Below w.heap.size w w' := by
 have hpos : 0 < l.length := by omega
 have z := Tryd.underlying24
 have E := Tryd.underlying35
 refine callsIn_of_wp_marks Tryd.func89 rfl trivial ?_ rfl
 simp only [Tryd.ntmps89, List.size_toArray, List.length_cons, List.length_nil, Nat.reduceAdd, Nat.reduceSub, Array.replicate_succ, Array.replicate_zero, List.push_toArray, List.append_toArray, List.nil_append, List.cons_append]
 gi_wp2
 have g : Below w.heap.size w ((w.alloc (.cells #[.int .i64 r, .int .i64 c, .slice A l.length cp, .int .i64 cu, .bool lo, .bool ins] 24)).alloc (.cells #[.int .i64 0] 3)) := ((Below.refl _ w).alloc (Nat.le_refl _) _).alloc (by simp) _
 have k1 := blk_new w (.cells #[.int .i64 r, .int .i64 c, .slice A l.length cp, .int .i64 cu, .bool lo, .bool ins] 24)
 have k2 := blk_new (w.alloc (.cells #[.int .i64 r, .int .i64 c, .slice A l.length cp, .int .i64 cu, .bool lo, .bool ins] 24)) (.cells #[.int .i64 0] 3)
 simp only [World.size_alloc] at k2
 have lS := blk_lt hcs
 have lA := blk_lt hca
 have lB := blk_lt hcb
 refine wpIn_rangeFunc_ownG rfl (by omega) (gf := 93) (lb := #[.pointer (some ⟨Bs, 0, none⟩), .pointer (some ⟨Ba, 0, none⟩), .pointer (some ⟨Bb, 0, none⟩)]) rfl trivial (enters_of Tryd.func93 (by kernel_rfl) rfl)
  (round_stops 4 (by omega) Bs Ba Bb r c A l.length cp cu lo ins a d hpos hn u v w hcs hca hcb) Keep3.trans (Keep3.put (by simp; omega) (by simp; omega) (by simp; omega)) g (fun _ => rfl)
  (fun pre W => ((∀ x ∈ pre, entI l x.1 = false) ∧ W.heap[w.heap.size]? = some (.cells #[.int .i64 r, .int .i64 c, .slice A l.length cp, .int .i64 cu, .bool lo, .bool ins] 24 (0, 0)) ∧ Boxed W (w.heap.size + 1) 3 (.int .i64 0)) ∧ Below w.heap.size w W)
  (fun c' pre W => (c' = .ret ∧ ∃ ini last, pre = ini ++ [last] ∧ (∀ x ∈ ini, entI l x.1 = false) ∧ entI l last.1 = true ∧ Boxed W (w.heap.size + 1) 3 (.int .i64 (onI l.length last.1 1))) ∧ Below w.heap.size w W)
  (OwnFrom.and (Own.from (fun s A B row hs hg hr => ⟨hs.1, (grownBy_keeps_cells hg hr hs.2.1 rfl).trans hs.2.1, (grownBy_keeps_cells hg hr hs.2.2 rfl).trans hs.2.2⟩) _) (ownFrom_below (Nat.le_refl _) (by simp; omega)))
  (fun c => OwnFrom.and (Own.from (fun s A B row hs hg hr => by obtain ⟨hc, ini, last, h, m, n, o⟩ := hs; exact ⟨hc, ini, last, h, m, n, (grownBy_keeps_cells hg hr o rfl).trans o⟩) _) (ownFrom_below (Nat.le_refl _) (by simp; omega)))
  ⟨⟨by simp, blk_alloc k1 _, k2⟩, g⟩
  (fun x => { tmps := #[.agg #[.int .i64 r, .int .i64 c, .slice A l.length cp, .int .i64 cu, .bool lo, .bool ins], .func (.func 93) #[] #[.pointer (some ⟨Bs, 0, none⟩), .pointer (some ⟨Ba, 0, none⟩), .pointer (some ⟨Bb, 0, none⟩)], .pointer (some ⟨w.heap.size, 0, none⟩), undef, .pointer (some ⟨w.heap.size + 1, 0, none⟩), .int .i64 x.1, .func (.func 93) #[] #[.pointer (some ⟨Bs, 0, none⟩), .pointer (some ⟨Ba, 0, none⟩), .pointer (some ⟨Bb, 0, none⟩)], .int .i64 x.1, undef, undef, undef, undef, undef, undef], defers := [] }) ?assign ?body ?done ?stop
 case assign =>
  intro l x W K hK
  gi_wp2
  exact hK
 case body =>
  rintro lp pre x W ⟨⟨hp, hS, hR⟩, hB⟩ _
  have F := (blk_cell hS 0).trans rfl
  have G := (blk_cell hS 1).trans rfl
  have H := (blk_cell hS 2).trans rfl
  have I := (blk_cell hS 3).trans rfl
  have J := (blk_cell hS 4).trans rfl
  have L := (blk_cell hS 5).trans rfl
  have q := x.2.1
  have t := x.2.2
  have hE : ∀ b, entI l x.1 = b → Calls Tryd.prog 99 #[.agg #[.int .i64 r, .int .i64 c, .slice A l.length cp, .int .i64 cu, .bool lo, .bool ins], .int .i64 x.1] W fun e w' => e = .returned (.bool b) ∧ Below W.heap.size W w' :=
   fun b hb => field_enters.calls r c A cp l cu lo ins x.1 b W (Kd.C_below hr hB) hc (by rw [field_enters.eq r c l cu lo ins x.1 hn q t, hb])
  cases hex : entI l x.1 with
  | false =>
   have hF := Z (hE false hex)
   clear hE
   gi_wp2_with (refine ⟨trivial, ?_⟩; gi_at_call 99; refine (CallsIn.inRound lp (callsIn_wide.2 hF.out)).mono ?_; rintro e w' ⟨rfl, hb⟩)
   exact ⟨keeps_of_below hb _, Keep3.below hb (by have := hB.size; omega) (by have := hB.size; omega) (by have := hB.size; omega), ⟨fun y hy => (List.mem_append.1 hy).elim (hp y) (fun e => by simp at e; subst e; exact hex), blk_below hS hb, blk_below hR hb⟩, hB.trans (hb.mono hB.size)⟩
  | true =>
   have hF := Z (hE true hex)
   clear hE
   gi_wp2_with (first
    | (refine ⟨trivial, ?_⟩; gi_at_call 99; refine (CallsIn.inRound lp (callsIn_wide.2 hF.out)).mono ?_; rintro e w' ⟨rfl, hb⟩; have hB' := hB.trans (hb.mono hB.size); have hS' := blk_below hS hb; have hR' : Boxed w' (w.heap.size + 1) 3 (.int .i64 0) := blk_below hR hb; have z0 := (blk_cell hS' 0).trans rfl; have z1 := (blk_cell hS' 1).trans rfl; have z2 := (blk_cell hS' 2).trans rfl; have z3 := (blk_cell hS' 3).trans rfl; have z4 := (blk_cell hS' 4).trans rfl; have z5 := (blk_cell hS' 5).trans rfl; have zR := hR'.cell; have zF := hR'.frozen)
    | (refine ⟨trivial, ?_⟩; gi_at_call 80; refine (CallsIn.inRound lp (callsIn_wide.2 (On_exact r c A l.length cp cu lo ins x.1 1 _ hpos hn q t))).mono ?_; rintro e w2 ⟨rfl, rfl⟩; have yR := (hR'.alloc (.cells #[.int .i64 r, .int .i64 c, .slice A l.length cp, .int .i64 cu, .bool lo, .bool ins] 24)).cell; have yF := (hR'.alloc (.cells #[.int .i64 r, .int .i64 c, .slice A l.length cp, .int .i64 cu, .bool lo, .bool ins] 24)).frozen))
   exact ⟨((keeps_of_below hb _).trans ((KeepsOthers.alloc _ _).from _)).trans ((KeepsOthers.setCell _ _ _).from _), ⟨rfl, pre, x, rfl, hp, hex, (hR'.alloc _).set _⟩, (hB'.alloc (by have := hB'.size; omega) _).setCell (p := ⟨w.heap.size + 1, 0, none⟩) (Nat.le_succ _) _⟩
 case done =>
  rintro D ys W hD rfl ⟨⟨hne, hS, hR⟩, hB⟩ hK
  have rC := hR.cell
  have rF := hR.frozen
  gi_wp2
  have hK' := (KeepsOthers.setCell W ⟨w.heap.size + 1, 0, none⟩ (.int .i64 (-1))).same D _ hK rfl
  refine ⟨by simp, .inl ⟨_, _, rfl, run_takeDeferred hK', ?_⟩⟩
  have f := cell_kept (hR.set (.int .i64 (-1))).cell (grownBy_putObj' _ D (.deferred none)) (fun r e => by cases e; exact ⟨_, hK', rfl⟩)
  have hE : firstI l (wayI l.length a d) = -1 := by
   rw [firstI, findW_none (entI l) (wayI l.length a d) l.length 0 (fun i _ hi => hne _ (mem_uptoI (wayS hpos a d) l.length i (by omega)))]; rfl
  refine ⟨.int .i64 (-1), ?_, by rw [hE], (hB.setCell (p := ⟨w.heap.size + 1, 0, none⟩) (Nat.le_succ _) _).trans (belowK_b (w := w) (Nat.le_refl _) _ D _ _ (by simp at hD; omega) hK' rfl rfl)⟩
  simp [results, Tryd.results89, go_sem, f]
 case stop =>
  rintro D c pre W hD ⟨k, hk, rfl⟩ ⟨⟨rfl, ini, last, h, m, n, hR⟩, hB⟩ hK
  gi_wp2
  refine ⟨by simp, .inl ⟨_, _, rfl, run_takeDeferred hK, ?_⟩⟩
  have f := cell_kept hR.cell (grownBy_putObj' _ D (.deferred none)) (fun r e => by cases e; exact ⟨_, hK, rfl⟩)
  obtain ⟨j, rfl, rfl, rfl⟩ := uptoI_last _ _ _ _ h
  have hE : firstI l (wayI l.length a d) = onI l.length (wayI l.length a d j) 1 := by
   rw [firstI, findW_eq (entI l) (wayI l.length a d) l.length 0 j (by omega) (by omega) n (fun i _ hi => m _ (mem_uptoI (wayS hpos a d) j i hi)), if_neg (by have := wayI_nonneg hpos a d j; omega)]
  refine ⟨.int .i64 (onI l.length (wayI l.length a d j) 1), ?_, by rw [hE], hB.trans (belowK_b (w := w) (Nat.le_refl _) _ D _ _ (by simp at hD; omega) hK rfl rfl)⟩
  simp [results, Tryd.results89, go_sem, f]
  rfl
theorem First_calls (r c : Int) (A : Option Addr) (cp : Nat) (l : List S35) (cu : Int) (lo ins : Bool) (a d : Int) (Bs Ba Bb : Nat) (w : World) (hr : Kd.C k35 w A l.length l) (hc : l.length ≤ cp) (hn : l.length ≤ 16383) (b : 0 ≤ a) (f : a < l.length)
  (hcs : w.heap[Bs]? = some (.cells #[.int .i64 r, .int .i64 c, .slice A l.length cp, .int .i64 cu, .bool lo, .bool ins] 24 (0, 0))) (hca : w.heap[Ba]? = some (.cells #[.int .i64 a] 3 (0, 0))) (hcb : w.heap[Bb]? = some (.cells #[.int .i64 d] 3 (0, 0))) :
  Calls Tryd.prog 89 #[.agg #[.int .i64 r, .int .i64 c, .slice A l.length cp, .int .i64 cu, .bool lo, .bool ins], .func (.func 93) #[] #[.pointer (some ⟨Bs, 0, none⟩), .pointer (some ⟨Ba, 0, none⟩), .pointer (some ⟨Bb, 0, none⟩)]] w fun e w' => e = .returned (.int .i64 (firstI l (wayI l.length a d))) ∧ Below w.heap.size w w' :=
 callsIn_wide.1 (First_loop r c A cp l cu lo ins a d Bs Ba Bb w hr hc hn b f hcs hca hcb)
def field_Next.f (b : Int) (c : Int) (a : List (S35)) (d : Int) (e : Bool) (g : Bool) (a1 : Int) : Option Int := if a.length ≤ 16383 then (if 0 ≤ a1 then (if a1 < (a.length : Int) then (some (nextI a a1)) else (none)) else (none)) else (none)
theorem four_facts (w : World) (a o2 o3 b : Obj) : Below w.heap.size w ((((w.alloc a).alloc o2).alloc o3).alloc b) ∧ ((((w.alloc a).alloc o2).alloc o3).alloc b).heap[w.heap.size + 1]? = some o2 ∧ ((((w.alloc a).alloc o2).alloc o3).alloc b).heap[w.heap.size + 1 + 1]? = some o3 ∧ ((((w.alloc a).alloc o2).alloc o3).alloc b).heap[w.heap.size + 1 + 1 + 1]? = some b := by
 have k2 := blk_new (w.alloc a) o2
 have k3 := blk_new ((w.alloc a).alloc o2) o3
 have k4 := blk_new (((w.alloc a).alloc o2).alloc o3) b
 simp only [World.size_alloc] at k2 k3 k4
 exact ⟨below_alloc (below_alloc (below_alloc (below_alloc (Below.refl _ _) _) _) _) _, blk_alloc (blk_alloc k2 _) _, blk_alloc k3 _, k4⟩
theorem field_Next.calls (b : Int) (c : Int) (k : Option Addr) (j : Nat) (a : List (S35)) (d : Int) (g : Bool) (i : Bool) (a1 : Int) (r : Int) (w : World) (l : Kd.C k35 w k a.length a) (m : a.length ≤ j) (h : field_Next.f b c a d g i a1 = some r) :
  Calls Tryd.prog 67 #[.agg #[.int .i64 b, .int .i64 c, .slice k a.length j, .int .i64 d, .bool g, .bool i], .int .i64 a1] w fun e w' => e = .returned (.int .i64 r) ∧ Below w.heap.size w w' := by
 obtain ⟨hn, n, o, rfl⟩ := guard3 h
 clear h
 have p := Tryd.underlying24
 have HF := Z (four_facts w (.cells #[.int .i64 b, .int .i64 c, .slice k a.length j, .int .i64 d, .bool g, .bool i] 24) (.cells #[.int .i64 b, .int .i64 c, .slice k a.length j, .int .i64 d, .bool g, .bool i] 24) (.cells #[.int .i64 a1] 3) (.cells #[.int .i64 (1)] 3))
 have HR := Z l
 clear l
 go_enter Tryd.func67, Tryd.ntmps67
 go_wp2
 go_region_with (first
  | (go_at_call 75; refine (Round_exact b c _ _ j d g i a1 (1) _).mono ?_; rintro e w' ⟨rfl, rfl⟩)
  | (go_at_call 89; refine (First_calls b c _ j a d g i a1 (1) _ _ _ _ ?_ m hn n o ?_ ?_ ?_).mono ?_; exact Kd.C_below HR.out HF.out.1.drew; exact HF.out.2.1; exact HF.out.2.2.1; exact HF.out.2.2.2; rintro e w' ⟨rfl, hb⟩))
 all_goals
  go_wp2
  go_ret
  exact ⟨rfl, below_step HF.out.1.drew hb⟩
end
def edit_onward.j0 : Nat → Int → Bool → Int → Int → List (S35) → Int → Bool → Bool → Option (Int)
 | 0, _, _, _, _, _, _, _, _ => none
 | k + 1, l, m, a, b, c, d, e, g => if m = true then ((field_Next.f a b c d e g l).bind fun h => (if h ≥ 0 then (some h) else ((grid_On.f a b c d e g l 1).bind fun i => (some i)))) else ((grid_On.f a b c d e g l 1).bind fun j => (some j))
def edit_onward.f (k : Nat) (d : Int) (e : Int) (b : List (S35)) (c : Int) (g : Bool) (h : Bool) : Option (Int) := (grid_On.f d e b c g h c 1).bind fun a => (if 0 ≤ a then (if a < (b.length : Int) then (if ((rd_T35 b a).f0 = true) then (if (rd_T35 b a).f1.f0 = true then (edit_onward.j0 k a ((rd_T35 b a).f1.f1) d e b c g h) else (edit_onward.j0 k a false d e b c g h)) else (some a)) else (none)) else (none))
theorem edit_onward.mono_l : ∀ k, (∀ b c d e f g i j, LeO (edit_onward.j0 k b c d e f g i j) (edit_onward.j0 (k + 1) b c d e f g i j))
 | 0 => fun _ _ _ _ _ _ _ _ r h => by simp [edit_onward.j0] at h
 | k + 1 => by
  have a := edit_onward.mono_l k
  ·intro b c d e f g i j
   unfold edit_onward.j0
   repeat' first
   | (with_reducible exact a _ _ _ _ _ _ _ _)
   | (with_reducible exact LeO.refl _)
   | (with_reducible exact LeO.none _)
   | (with_reducible refine LeO.ite ?_ ?_)
   | (with_reducible refine LeO.bind ?_ (fun _ => ?_))
   | exact a _ _ _ _ _ _ _ _
   | exact LeO.none _
   | refine LeO.ite ?_ ?_
   | refine LeO.bind ?_ (fun _ => ?_)
theorem edit_onward.mono : ∀ a0 a1 b c a4 d k, LeO (edit_onward.f k a0 a1 b c a4 d) (edit_onward.f (k + 1) a0 a1 b c a4 d) := by
 intro a0 a1 b c a4 d k
 have a := edit_onward.mono_l k
 unfold edit_onward.f
 repeat' first
   | (with_reducible exact a _ _ _ _ _ _ _ _)
   | (with_reducible exact LeO.refl _)
   | (with_reducible exact LeO.none _)
   | (with_reducible refine LeO.ite ?_ ?_)
   | (with_reducible refine LeO.bind ?_ (fun _ => ?_))
   | exact a _ _ _ _ _ _ _ _
   | exact LeO.none _
   | refine LeO.ite ?_ ?_
   | refine LeO.bind ?_ (fun _ => ?_)
theorem edit_onward.calls (k : Nat) (g : Int) (i : Int) (P : Option Addr) (B : Nat) (b : List (S35)) (d : Int) (j : Bool) (l : Bool) (r : Int) (w : World) (ag : Kd.C k35 w P b.length b) (af : b.length ≤ B) (h : edit_onward.f k g i b d j l = some r) :
  Calls Tryd.prog 56 #[.agg #[.int .i64 g, .int .i64 i, .slice P b.length B, .int .i64 d, .bool j, .bool l]] w fun e w' => e = .returned (.int .i64 r) ∧ Below w.heap.size w w' := by
 have di := Tryd.underlying24
 have dj := Tryd.underlying35
 have D := Z ag
 have K := Z af
 clear ag af
 have HB := Z (Below.refl w.heap.size w)
 have H : ((grid_On.f g i b d j l d 1).bind fun a => (if 0 ≤ a then (if a < (b.length : Int) then (if ((rd_T35 b a).f0 = true) then (if (rd_T35 b a).f1.f0 = true then (edit_onward.j0 k a ((rd_T35 b a).f1.f1) g i b d j l) else (edit_onward.j0 k a false g i b d j l)) else (some a)) else (none)) else (none))) = some r := h
 clear h
 replace H := Option.bind_eq_some_iff.mp H
 obtain ⟨a, br, H⟩ := H
 replace H : (if 0 ≤ a then (if a < (b.length : Int) then (if ((rd_T35 b a).f0 = true) then (if (rd_T35 b a).f1.f0 = true then (edit_onward.j0 k a ((rd_T35 b a).f1.f1) g i b d j l) else (edit_onward.j0 k a false g i b d j l)) else (some a)) else (none)) else (none)) = some r := H
 have A2 := Z br
 clear br
 by_cases c3 : 0 ≤ a
 ·rw [if_pos c3] at H
  have bu : decide (0 ≤ a) = true := decide_eq_true c3
  clear c3
  by_cases c4 : a < (b.length : Int)
  ·rw [if_pos c4] at H
   have bv : decide (a < (b.length : Int)) = true := decide_eq_true c4
   clear c4
   obtain ⟨bt, ad⟩ : ∃ b_ : Bool, b_ = ((rd_T35 b a).f0) := ⟨_, rfl⟩
   replace H : (if (bt = true) then (if (rd_T35 b a).f1.f0 = true then (edit_onward.j0 k a ((rd_T35 b a).f1.f1) g i b d j l) else (edit_onward.j0 k a false g i b d j l)) else (some a)) = some r := by rw [← ad] at H; exact H
   have E := Z ad
   clear ad
   by_cases c6 : (bt = true)
   ·subst c6
    have H1 : (if (rd_T35 b a).f1.f0 = true then (edit_onward.j0 k a ((rd_T35 b a).f1.f1) g i b d j l) else (edit_onward.j0 k a false g i b d j l)) = some r := by rw [if_pos rfl] at H; exact H
    clear H
    have H := H1
    clear H1
    have a8 := Z H
    clear H
    go_enter Tryd.func56, Tryd.ntmps56
    go_upto_region 5 with (first | ((with_reducible refine gate_dst (N := 1) rfl ?_); refine bx_ 1 24 #[.int .i64 g, .int .i64 i, .slice P b.length B, .int .i64 d, .bool j, .bool l] ?_; intro M hg w8 hbox hb; have c := Z (hbox); have bo := Z (ln_ hg : w.heap.size ≤ M); have bm := bo; replace HB := bs_ hb; clear hb hbox hg; obtain ⟨ba, bb, bc, bd, be, bf, bg, bh, bi, bj, bk, bl⟩ := cells6 c.out) | ((with_reducible refine gate_callee (f := 80) rfl ?_); refine goesL_ (some 9) rfl rfl Tryd.func80 (by kernel_rfl) rfl #[.agg #[.int .i64 g, .int .i64 i, .slice P b.length B, .int .i64 d, .bool j, .bool l], .int .i64 d, .int .i64 1] rfl ag_ ?_; (with_reducible refine (grid_On.calls g i _ _ b d j l d 1 a _ ?side1 ?side2 A2.out).mono ?_); (case side1 => repeat (first | exact (Kd.C_below D.out HB.out) | (with_reducible apply pC))); (case side2 => exact K.out); rintro e du ⟨rfl, hb⟩; refine ⟨_, rfl, ?_⟩; replace c := kb' c hb; replace HB := bs_ hb; clear hb; obtain ⟨ah, ai, aj, ak, al, am, aH, aI, aJ, aK, aL, aM⟩ := cells6 c.out; have I : 0 ≤ (a : Int) := od_; have J : a < (b.length : Int) := od_; obtain ⟨L, ac, s, u, v, z, x, A⟩ := at_T35 D.out a I J; (try rw [← E.out] at s); (try rw [← E.out] at u); (try rw [← E.out] at v); (try rw [← E.out] at x); cases ac; replace s := (HB.out.cell (bk_ w _ s)).trans s; replace u := (HB.out.cell (bk_ w _ u)).trans u; replace v := (HB.out.cell (bk_ w _ v)).trans v; replace z := (HB.out.cell (bk_ w _ z)).trans z; replace x := (HB.out.cell (bk_ w _ x)).trans x; replace A := (HB.out.cell (bk_ w _ A)).trans A; replace I := eq_true I; replace J := eq_true J) | ((with_reducible refine gate_dst (N := 4) rfl ?_); refine bx_ 4 35 #[.bool false, .bool false, .bool false, .int .i64 0, .bool false, .int .u8 0] ?_; intro O hg dv hbox hb; have m := Z (hbox); have bp := Z (ln_ hg : w.heap.size ≤ O); have bn := bp; replace HB := bs_ hb; have n := nl' c hg; have q := ng' c hg; replace c := kb' c hb; clear hb hbox hg; have cY := q.out; have db := n.out; obtain ⟨an, ao, ap, aq, ar, au, aN, aO, aP, aQ, aR, aS⟩ := cells6 m.out))
    (try simp only [Act.put, sA, sB, sC])
    go_cut [26] (fun cX wc => ∃ (kq : Nat) (R : Bool), cX = .bool R ∧ Aside0 (edit_onward.j0 kq a R g i b d j l = some r) ∧ Aside0 (kq ≤ k) ∧ Aside0 (wc.heap[M]? = some (.cells #[.int .i64 g, .int .i64 i, (.slice (some L) b.length B), .int .i64 d, .bool j, .bool l] 24 (0, 0))) ∧ Aside0 (wc.heap[O]? = some (.cells #[.bool true, .bool ((rd_T35 b a).f1.f0), .bool ((rd_T35 b a).f1.f1), .int .i64 ((rd_T35 b a).f1.f2), .bool ((rd_T35 b a).f1.f3), .int .u8 ((rd_T35 b a).f2)] 35 (0, 0))) ∧ Aside0 (Below w.heap.size w wc))
    case first =>
     have H := a8.out
     clear a8
     obtain ⟨a9, U⟩ : ∃ b_ : Bool, b_ = ((rd_T35 b a).f1.f0) := ⟨_, rfl⟩
     replace H : (if a9 = true then (edit_onward.j0 k a ((rd_T35 b a).f1.f1) g i b d j l) else (edit_onward.j0 k a false g i b d j l)) = some r := by rw [← U] at H; exact H
     have T := Z U
     clear U
     (try rw [← T.out])
     by_cases W : a9 = true
     ·subst W
      have H1 : (edit_onward.j0 k a ((rd_T35 b a).f1.f1) g i b d j l) = some r := by rw [if_pos rfl] at H; exact H
      clear H
      have H := H1
      clear H1
      have H' := Z H
      clear H
      have cZ := q.out
      have dc := n.out
      obtain ⟨av, aw, ax, ay, az, aA, aT, aU, aV, aW, aX, aY⟩ := cells6 m.out
      go_wp2
      go_meet
      case rel => exact ⟨_, ((rd_T35 b a).f1.f1), (dn_), H', ⟨by first | omega | exact Nat.le_refl _⟩, ⟨blk_off c.out n.out off2_⟩, ⟨by first | exact put6 m.out | (simp only [← T.out, ← E.out]; exact put6 m.out)⟩, ⟨bl_⟩⟩
     ·replace W := Bool.eq_false_iff.mpr W
      subst W
      have H1 : (edit_onward.j0 k a false g i b d j l) = some r := by rw [if_neg (show ¬ (false = true) by decide)] at H; exact H
      clear H
      have H := H1
      clear H1
      have H' := Z H
      clear H
      have c0 := q.out
      have dd := n.out
      obtain ⟨aB, aC, aD, aE, aF, aG, aZ, a0, a1, a2, a3, a4⟩ := cells6 m.out
      go_wp2
      go_meet
      case rel => exact ⟨_, (false), (dn_), H', ⟨by first | omega | exact Nat.le_refl _⟩, ⟨blk_off c.out n.out off2_⟩, ⟨by first | exact put6 m.out | (simp only [← T.out, ← E.out]; exact put6 m.out)⟩, ⟨bl_⟩⟩
    case rest =>
     clear a8
     clear bu bv ah ai aj ak al am an ao ap aq ar au ba bb bc bd be bf aH aI aJ aK aL aM aN aO aP aQ aR aS bg bh bi bj bk bl s u v z x A I J
     obtain ⟨kq, R, rfl, HA, dl, c, m, HB⟩ := hcut
     cases kq with
     | zero => exact absurd HA.out (by simp [edit_onward.j0])
     | succ dq =>
      have H := HA.out
      clear HA
      simp only [edit_onward.j0] at H
      by_cases ae : R = true
      ·subst ae
       have H1 : ((field_Next.f g i b d j l a).bind fun F => (if F ≥ 0 then (some F) else ((grid_On.f g i b d j l a 1).bind fun Q => (some Q)))) = some r := by rw [if_pos rfl] at H; exact H
       clear H
       have H := H1
       clear H1
       replace H := Option.bind_eq_some_iff.mp H
       obtain ⟨F, a5, H⟩ := H
       replace H : (if F ≥ 0 then (some F) else ((grid_On.f g i b d j l a 1).bind fun Q => (some Q))) = some r := H
       have bs := Z a5
       clear a5
       by_cases S : F ≥ 0
       ·rw [if_pos S] at H
        have bq : decide (0 ≤ F) = true := decide_eq_true S
        clear S
        obtain rfl := Option.some.inj H
        have c2 := n.out
        have de := q.out
        obtain ⟨bw, bx, bz, bA, bB, bC, cd, ce, cf, cg, ch, ci⟩ := cells6 c.out
        go_wp2_with (first | ((with_reducible refine gate_callee (f := 67) rfl ?_); refine goesL_ (some 29) rfl rfl Tryd.func67 (by kernel_rfl) rfl #[.agg #[.int .i64 g, .int .i64 i, .slice (some L) b.length B, .int .i64 d, .bool j, .bool l], .int .i64 a] rfl ag_ ?_; (with_reducible refine (field_Next.calls g i _ _ b d j l a F _ ?side1 ?side2 bs.out).mono ?_); (case side1 => repeat (first | exact (Kd.C_below D.out HB.out) | (with_reducible apply pC))); (case side2 => exact K.out); rintro e dw ⟨rfl, hb⟩; refine ⟨_, rfl, ?_⟩; replace c := kb' c hb; replace m := kb' m hb; replace HB := bs_ hb; clear hb))
        go_ret
        exact ⟨er_, bl_⟩
       ·rw [if_neg S] at H
        have bq : decide (0 ≤ F) = false := decide_eq_false S
        clear S
        replace H := Option.bind_eq_some_iff.mp H
        obtain ⟨Q, a6, H⟩ := H
        replace H : (some Q) = some r := H
        have cV := Z a6
        clear a6
        obtain rfl := Option.some.inj H
        have c7 := n.out
        have df := q.out
        obtain ⟨bD, bE, bF, bG, bH, bI, cj, ck, cl, cm, cn, co⟩ := cells6 c.out
        go_wp2_with (first | ((with_reducible refine gate_callee (f := 67) rfl ?_); refine goesL_ (some 29) rfl rfl Tryd.func67 (by kernel_rfl) rfl #[.agg #[.int .i64 g, .int .i64 i, .slice (some L) b.length B, .int .i64 d, .bool j, .bool l], .int .i64 a] rfl ag_ ?_; (with_reducible refine (field_Next.calls g i _ _ b d j l a F _ ?side1 ?side2 bs.out).mono ?_); (case side1 => repeat (first | exact (Kd.C_below D.out HB.out) | (with_reducible apply pC))); (case side2 => exact K.out); rintro e dx ⟨rfl, hb⟩; refine ⟨_, rfl, ?_⟩; replace c := kb' c hb; replace m := kb' m hb; replace HB := bs_ hb; clear hb; obtain ⟨bJ, bK, bL, bM, bN, bO, cp, cq, cr, ct, cu, cv⟩ := cells6 c.out) | ((with_reducible refine gate_callee (f := 80) rfl ?_); refine goesL_ (some 35) rfl rfl Tryd.func80 (by kernel_rfl) rfl #[.agg #[.int .i64 g, .int .i64 i, .slice (some L) b.length B, .int .i64 d, .bool j, .bool l], .int .i64 a, .int .i64 1] rfl ag_ ?_; (with_reducible refine (grid_On.calls g i _ _ b d j l a 1 Q _ ?side1 ?side2 cV.out).mono ?_); (case side1 => repeat (first | exact (Kd.C_below D.out HB.out) | (with_reducible apply pC))); (case side2 => exact K.out); rintro e dy ⟨rfl, hb⟩; refine ⟨_, rfl, ?_⟩; replace c := kb' c hb; replace m := kb' m hb; replace HB := bs_ hb; clear hb))
        go_ret
        exact ⟨er_, bl_⟩
      ·replace ae := Bool.eq_false_iff.mpr ae
       subst ae
       have H1 : ((grid_On.f g i b d j l a 1).bind fun V => (some V)) = some r := by rw [if_neg (show ¬ (false = true) by decide)] at H; exact H
       clear H
       have H := H1
       clear H1
       replace H := Option.bind_eq_some_iff.mp H
       obtain ⟨V, a7, H⟩ := H
       replace H : (some V) = some r := H
       have cW := Z a7
       clear a7
       obtain rfl := Option.some.inj H
       have c9 := n.out
       have dg := q.out
       obtain ⟨bP, bQ, bR, bS, bT, bU, cw, cx, cy, cz, cA, cB⟩ := cells6 c.out
       go_wp2_with (first | ((with_reducible refine gate_callee (f := 80) rfl ?_); refine goesL_ (some 35) rfl rfl Tryd.func80 (by kernel_rfl) rfl #[.agg #[.int .i64 g, .int .i64 i, .slice (some L) b.length B, .int .i64 d, .bool j, .bool l], .int .i64 a, .int .i64 1] rfl ag_ ?_; (with_reducible refine (grid_On.calls g i _ _ b d j l a 1 V _ ?side1 ?side2 cW.out).mono ?_); (case side1 => repeat (first | exact (Kd.C_below D.out HB.out) | (with_reducible apply pC))); (case side2 => exact K.out); rintro e dz ⟨rfl, hb⟩; refine ⟨_, rfl, ?_⟩; replace c := kb' c hb; replace m := kb' m hb; replace HB := bs_ hb; clear hb))
       go_ret
       exact ⟨er_, bl_⟩
   ·replace c6 := Bool.eq_false_iff.mpr c6
    subst c6
    have H1 : (some a) = some r := by rw [if_neg (show ¬ (false = true) by decide)] at H; exact H
    clear H
    have H := H1
    clear H1
    obtain rfl := Option.some.inj H
    go_enter Tryd.func56, Tryd.ntmps56
    go_wp2_with (first | ((with_reducible refine gate_dst (N := 1) rfl ?_); refine bx_ 1 24 #[.int .i64 g, .int .i64 i, .slice P b.length B, .int .i64 d, .bool j, .bool l] ?_; intro M hg dA hbox hb; have c := Z (hbox); have bo := Z (ln_ hg : w.heap.size ≤ M); have bm := bo; replace HB := bs_ hb; clear hb hbox hg; obtain ⟨bV, bW, bX, bY, bZ, b0, cC, cD, cE, cF, cG, cH⟩ := cells6 c.out) | ((with_reducible refine gate_callee (f := 80) rfl ?_); refine goesL_ (some 9) rfl rfl Tryd.func80 (by kernel_rfl) rfl #[.agg #[.int .i64 g, .int .i64 i, .slice P b.length B, .int .i64 d, .bool j, .bool l], .int .i64 d, .int .i64 1] rfl ag_ ?_; (with_reducible refine (grid_On.calls g i _ _ b d j l d 1 a _ ?side1 ?side2 A2.out).mono ?_); (case side1 => repeat (first | exact (Kd.C_below D.out HB.out) | (with_reducible apply pC))); (case side2 => exact K.out); rintro e dB ⟨rfl, hb⟩; refine ⟨_, rfl, ?_⟩; replace c := kb' c hb; replace HB := bs_ hb; clear hb; obtain ⟨b1, b2, b3, b4, b5, b6, cI, cJ, cK, cL, cM, cN⟩ := cells6 c.out; have I : 0 ≤ (a : Int) := od_; have J : a < (b.length : Int) := od_; obtain ⟨L, ac, s, u, v, z, x, A⟩ := at_T35 D.out a I J; (try rw [← E.out] at s); (try rw [← E.out] at u); (try rw [← E.out] at v); (try rw [← E.out] at x); cases ac; replace s := (HB.out.cell (bk_ w _ s)).trans s; replace u := (HB.out.cell (bk_ w _ u)).trans u; replace v := (HB.out.cell (bk_ w _ v)).trans v; replace z := (HB.out.cell (bk_ w _ z)).trans z; replace x := (HB.out.cell (bk_ w _ x)).trans x; replace A := (HB.out.cell (bk_ w _ A)).trans A; replace I := eq_true I; replace J := eq_true J) | ((with_reducible refine gate_dst (N := 4) rfl ?_); refine bx_ 4 35 #[.bool false, .bool false, .bool false, .int .i64 0, .bool false, .int .u8 0] ?_; intro O hg dC hbox hb; have m := Z (hbox); have bp := Z (ln_ hg : w.heap.size ≤ O); have bn := bp; replace HB := bs_ hb; have n := nl' c hg; have q := ng' c hg; replace c := kb' c hb; clear hb hbox hg; have da := q.out; have dh := n.out; obtain ⟨b7, b8, b9, ca, cb, cc, cO, cP, cQ, cR, cS, cT⟩ := cells6 m.out))
    go_ret
    exact ⟨er_, bl_⟩
  ·rw [if_neg c4] at H
   exact absurd H (by simp)
 ·rw [if_neg c3] at H
  exact absurd H (by simp)
end Go.Proofs.YtggecanpjkpkiaaDoor.P
