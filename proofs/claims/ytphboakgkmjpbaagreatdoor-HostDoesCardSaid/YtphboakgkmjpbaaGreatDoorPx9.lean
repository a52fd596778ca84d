/- pp.py and press2.py (wip/tools) wrote this text. -/
import Derived.Test.YtphboakgkmjpbaaGreatDoorJHostDoes1
import Derived.Test.YtphboakgkmjpbaaGreatDoorPx4
import Derived.Test.YtphboakgkmjpbaaGreatDoorPx8
namespace Go.Proofs.YtphboakgkmjpbaaGreatDoor.P
open Go.RowKit Go.Proofs.YtphboakgkmjpbaaGreatDoorW.PrintWords Go.Proofs.YtphboakgkmjpbaaGreatDoorW.PrintLast Go.Proofs.YtphboakgkmjpbaaGreatDoorW.PrintMore
attribute [local go_sem] max2_int min2_int max_two min_two max_three min_three max_four min_four
attribute [local go_sem] Instr.field asAgg
set_option linter.unusedVariables false
set_option linter.unusedSimpArgs false
set_option maxHeartbeats 8000000
set_option maxRecDepth 100000

/-! ### field_enters: function 87 -/
def field_enters.f (c d : Int) (a : List (S47)) (e : Int) (g h : Bool) (a1 : Int) : Option (Bool) := if 0 ≤ a1 then (if a1 < (a.length : Int) then (if (rd_T47 a a1).f0 = true then (if ((rd_T47 a a1).f1.f0 = true) then (some false) else ((grid_On.f c d a e g h a1 1).bind fun b => (if 0 ≤ b then (if b < (a.length : Int) then (some (!((rd_T47 a b).f0))) else (none)) else (none)))) else (some false)) else (none)) else (none)
def field_enters.T2 : Bool × List (List Nat × List Nat) := (true, [([], []), ([0], [0]), ([1], [1]), ([2], [2]), ([3, 2], [2, 3]), ([4, 2], [2, 4]), ([5, 2], [2, 5]), ([2, 6], [2, 6]), ([7, 2], [7]), ([8], [8]), ([9, 8], [8, 9]), ([8], [8]), ([8], [8]), ([11, 12, 8, 8], [8, 11, 12]), ([10, 13, 8], [8, 10, 13]), ([14, 8], [8, 14]), ([15, 8], [8, 15]), ([16, 8], [8, 16]), ([8, 17], [8, 17]), ([18, 13, 0, 1, 2, 3, 4, 5, 6, 7, 8, 9, 10, 11, 12, 13, 14, 15, 16, 17, 18], [18])])
def field_enters.B2 : List Nat := [0, 1, 3, 7, 15, 31, 63, 127, 255, 511, 1023, 511, 511, 6655, 16383, 32767, 65535, 131071, 262143, 524287]
theorem field_enters.tab2 : rtab .any (opsOf Tryz.f87 2) = field_enters.T2 := by kernel_rfl
theorem field_enters.bits2 : waitsOk field_enters.T2.2 field_enters.B2 = true := by kernel_rfl
theorem field_enters.calls (D E : Int) (ai : Option Addr) (ab : Nat) (a : List (S47)) (F : Int) (G I : Bool) (a1 : Int) (r : Bool) (w : World) (aD : Kd.C k47 w ai a.length a) (aC : a.length ≤ ab) (h : field_enters.f D E a F G I a1 = some r) :
  Calls Tryz.prog 87 #[.agg #[.int .i64 D, .int .i64 E, .slice ai a.length ab, .int .i64 F, .bool G, .bool I], .int .i64 a1] w fun e w' => e = .returned (.bool r) ∧ Below w.heap.size w w' := by
 have cq := Tryz.underlying24
 have cr := Tryz.underlying47
 have ae := Z aD
 have aQ := Z aC
 clear aD aC
 have HB := Z (Below.refl w.heap.size w)
 unfold field_enters.f at h
 have H := h
 clear h
 obtain ⟨c3, H⟩ := gt_ H
 have co := decide_eq_true c3
 clear c3
 obtain ⟨c4, H⟩ := gt_ H
 have cp := decide_eq_true c4
 clear c4
 obtain ⟨aW, ak⟩ : ∃ b_ : Bool, b_ = ((rd_T47 a a1).f0) := ⟨_, rfl⟩
 replace H : (if aW = true then (if ((rd_T47 a a1).f1.f0 = true) then (some false) else ((grid_On.f D E a F G I a1 1).bind fun g => (if 0 ≤ g then (if g < (a.length : Int) then (some (!((rd_T47 a g).f0))) else (none)) else (none)))) else (some false)) = some r := by rw [← ak] at H; exact H
 have s := Z ak
 clear ak
 cases aW
 ·rw [iF_] at H
  obtain rfl := Option.some.inj H
  go_enter Tryz.func87, Tryz.ntmps87
  try go_wp2_with (first | ((with_reducible refine gD_ 2 rfl ?_); refine bx_ 2 24 #[.int .i64 D, .int .i64 E, .slice ai a.length ab, .int .i64 F, .bool G, .bool I] ?_; intro x hg cy hbox hb; have c := Z hbox; have ay := ln' w hg; replace HB := bs_ hb; clear hb hbox hg; have bo := cells6 c.out; have Y : 0 ≤ (a1 : Int) := od_; have aa : a1 < (a.length : Int) := od_; obtain ⟨u, aj, m, o, p, z, q, A⟩ := at_T47 ae.out a1 Y aa; (try rw [← s.out] at m); (try rw [← s.out] at o); (try rw [← s.out] at p); (try rw [← s.out] at q); cases aj; replace m := hc_ HB m; replace o := hc_ HB o; replace p := hc_ HB p; replace z := hc_ HB z; replace q := hc_ HB q; replace A := hc_ HB A; replace Y := eq_true Y; replace aa := eq_true aa) | ((with_reducible refine gD_ 5 rfl ?_); refine bx_ 5 47 #[.bool false, .bool false, .bool false, .int .i64 0, .bool false, .int .u8 0] ?_; intro b hg aO hbox hb; have d := Z hbox; have az := ln' w hg; replace HB := bs_ hb; have B := nl' c hg; replace c := kb' c hb; clear hb hbox hg; have ck := ns_ B; have bu := cells6 d.out))
  obtain ⟨cf, ecf⟩ : ∃ w_, w_ = ((((((aO.setCell ⟨b, 0, none⟩ (.bool false)).setCell ⟨b, 1, none⟩ (.bool ((rd_T47 a a1).f1.f0))).setCell ⟨b, 2, none⟩ (.bool ((rd_T47 a a1).f1.f1))).setCell ⟨b, 3, none⟩ (.int .i64 ((rd_T47 a a1).f1.f2))).setCell ⟨b, 4, none⟩ (.bool ((rd_T47 a a1).f1.f3))).setCell ⟨b, 5, none⟩ (.int .u8 ((rd_T47 a a1).f2))) := ⟨_, rfl⟩
  have j : Aside0 (cf.heap[x]? = some (.cells #[.int .i64 D, .int .i64 E, .slice (some u) a.length ab, .int .i64 F, .bool G, .bool I] 24 (0, 0))) := ⟨by rw [ecf]; exact blk_off c.out B.out off2_⟩
  have k : Aside0 (cf.heap[b]? = some (.cells #[.bool false, .bool ((rd_T47 a a1).f1.f0), .bool ((rd_T47 a a1).f1.f1), .int .i64 ((rd_T47 a a1).f1.f2), .bool ((rd_T47 a a1).f1.f3), .int .u8 ((rd_T47 a a1).f2)] 47 (0, 0))) := ⟨by rw [ecf]; first | exact put6 d.out | (simp only [← s.out]; exact put6 d.out)⟩
  have l : Aside0 (Below w.heap.size w cf) := ⟨by rw [ecf]; exact bl_⟩
  (try clear c)
  (try clear d)
  (try clear HB)
  rw [← ecf]
  clear ecf
  have c := j
  have d := k
  have HB := l
  clear j k l
  replace c := Z (blk_drew c.out)
  replace d := Z (blk_drew d.out)
  replace HB := Z (below_drew1 HB.out)
  refine start_ (n := 20) (S := fun w' => w'.cell? ⟨b, 0, none⟩ = some (.bool false) ∧ w'.cell? ⟨b, 1, none⟩ = some (.bool ((rd_T47 a a1).f1.f0)) ∧ w'.cell? ⟨b, 2, none⟩ = some (.bool ((rd_T47 a a1).f1.f1)) ∧ w'.cell? ⟨b, 3, none⟩ = some (.int .i64 ((rd_T47 a a1).f1.f2)) ∧ w'.cell? ⟨b, 4, none⟩ = some (.bool ((rd_T47 a a1).f1.f3)) ∧ w'.cell? ⟨b, 5, none⟩ = some (.int .u8 ((rd_T47 a a1).f2))) (ds := []) (bv 20 0) (by kernel_rfl) rfl rfl hd_ (fun hHeld => ?_); refine with_tabW field_enters.tab2 field_enters.bits2 (fun HT_ HW_ => ?_)
  generalize cf.drew = cz at c d HB hHeld ⊢
  refine pT_ HT_ 0 20 1 (some 11) ?_
  refine tT_ HT_ HW_ hHeld 1 20 3 (some 12) ?_
  refine pT_ HT_ 2 20 7 (some 13) ?_
  refine pU_ HT_ 3 20 15 (some 14) ?_
  refine pU_ HT_ 4 20 31 (some 15) ?_
  refine pU_ HT_ 5 20 63 (some 16) ?_
  refine pU_ HT_ 6 20 127 (some 17) ?_
  refine pT_ HT_ 7 20 255 (some 18) ?_
  refine pT_ HT_ 8 20 511 (some 19) ?_
  refine pU_ HT_ 9 20 1023 (some 20) ?_
  refine pU_ HT_ 10 20 2047 (some 21) ?_
  refine pU_ HT_ 11 20 4095 (some 22) ?_
  refine pU_ HT_ 12 20 8191 (some 23) ?_
  refine pU_ HT_ 13 20 16383 (some 24) ?_
  refine pU_ HT_ 14 20 32767 (some 25) ?_
  refine pU_ HT_ 15 20 65535 (some 26) ?_
  refine pU_ HT_ 16 20 131071 (some 27) ?_
  refine pU_ HT_ 17 20 262143 (some 28) ?_
  refine pT_ HT_ 18 20 524287 (some 29) ?_
  refine pT_ HT_ 19 20 1048575 (some 4) ?_
  refine done_ (done_of HT_.out (by kernel_rfl)) ?_
  try go_wp2
  go_ret
  exact ⟨er_, bl_⟩
 rw [if_pos rfl] at H
 obtain ⟨aX, al⟩ : ∃ b_ : Bool, b_ = ((rd_T47 a a1).f1.f0) := ⟨_, rfl⟩
 replace H : (if (aX = true) then (some false) else ((grid_On.f D E a F G I a1 1).bind fun g => (if 0 ≤ g then (if g < (a.length : Int) then (some (!((rd_T47 a g).f0))) else (none)) else (none)))) = some r := by rw [← al] at H; exact H
 have y := Z al
 clear al
 by_cases c8 : (aX = true)
 ·subst c8
  rw [if_pos rfl] at H
  obtain rfl := Option.some.inj H
  go_enter Tryz.func87, Tryz.ntmps87
  try go_wp2_with (first | ((with_reducible refine gD_ 2 rfl ?_); refine bx_ 2 24 #[.int .i64 D, .int .i64 E, .slice ai a.length ab, .int .i64 F, .bool G, .bool I] ?_; intro x hg w9 hbox hb; have c := Z hbox; have ay := ln' w hg; replace HB := bs_ hb; clear hb hbox hg; have aZ := cells6 c.out; have Y : 0 ≤ (a1 : Int) := od_; have aa : a1 < (a.length : Int) := od_; obtain ⟨u, aj, m, o, p, z, q, A⟩ := at_T47 ae.out a1 Y aa; (try rw [← s.out] at m); (try rw [← y.out] at m); (try rw [← s.out] at o); (try rw [← y.out] at o); (try rw [← s.out] at p); (try rw [← y.out] at p); (try rw [← s.out] at q); (try rw [← y.out] at q); cases aj; replace m := hc_ HB m; replace o := hc_ HB o; replace p := hc_ HB p; replace z := hc_ HB z; replace q := hc_ HB q; replace A := hc_ HB A; replace Y := eq_true Y; replace aa := eq_true aa) | ((with_reducible refine gD_ 5 rfl ?_); refine bx_ 5 47 #[.bool false, .bool false, .bool false, .int .i64 0, .bool false, .int .u8 0] ?_; intro b hg aM hbox hb; have d := Z hbox; have az := ln' w hg; replace HB := bs_ hb; have B := nl' c hg; replace c := kb' c hb; clear hb hbox hg; have ci := ns_ B; have a6 := cells6 d.out))
  obtain ⟨cd, ecd⟩ : ∃ w_, w_ = ((((((aM.setCell ⟨b, 0, none⟩ (.bool true)).setCell ⟨b, 1, none⟩ (.bool true)).setCell ⟨b, 2, none⟩ (.bool ((rd_T47 a a1).f1.f1))).setCell ⟨b, 3, none⟩ (.int .i64 ((rd_T47 a a1).f1.f2))).setCell ⟨b, 4, none⟩ (.bool ((rd_T47 a a1).f1.f3))).setCell ⟨b, 5, none⟩ (.int .u8 ((rd_T47 a a1).f2))) := ⟨_, rfl⟩
  have j : Aside0 (cd.heap[x]? = some (.cells #[.int .i64 D, .int .i64 E, .slice (some u) a.length ab, .int .i64 F, .bool G, .bool I] 24 (0, 0))) := ⟨by rw [ecd]; exact blk_off c.out B.out off2_⟩
  have k : Aside0 (cd.heap[b]? = some (.cells #[.bool true, .bool true, .bool ((rd_T47 a a1).f1.f1), .int .i64 ((rd_T47 a a1).f1.f2), .bool ((rd_T47 a a1).f1.f3), .int .u8 ((rd_T47 a a1).f2)] 47 (0, 0))) := ⟨by rw [ecd]; first | exact put6 d.out | (simp only [← s.out, ← y.out]; exact put6 d.out)⟩
  have l : Aside0 (Below w.heap.size w cd) := ⟨by rw [ecd]; exact bl_⟩
  (try clear c)
  (try clear d)
  (try clear HB)
  rw [← ecd]
  clear ecd
  have c := j
  have d := k
  have HB := l
  clear j k l
  replace c := Z (blk_drew c.out)
  replace d := Z (blk_drew d.out)
  replace HB := Z (below_drew1 HB.out)
  refine start_ (n := 20) (S := fun w' => w'.cell? ⟨b, 0, none⟩ = some (.bool true) ∧ w'.cell? ⟨b, 1, none⟩ = some (.bool true) ∧ w'.cell? ⟨b, 2, none⟩ = some (.bool ((rd_T47 a a1).f1.f1)) ∧ w'.cell? ⟨b, 3, none⟩ = some (.int .i64 ((rd_T47 a a1).f1.f2)) ∧ w'.cell? ⟨b, 4, none⟩ = some (.bool ((rd_T47 a a1).f1.f3)) ∧ w'.cell? ⟨b, 5, none⟩ = some (.int .u8 ((rd_T47 a a1).f2))) (ds := []) (bv 20 0) (by kernel_rfl) rfl rfl hd_ (fun hHeld => ?_); refine with_tabW field_enters.tab2 field_enters.bits2 (fun HT_ HW_ => ?_)
  generalize cd.drew = cu at c d HB hHeld ⊢
  refine pT_ HT_ 0 20 1 (some 11) ?_
  refine tT_ HT_ HW_ hHeld 1 20 3 (some 12) ?_
  refine pT_ HT_ 2 20 7 (some 13) ?_
  refine pT_ HT_ 3 20 15 (some 14) ?_
  refine pT_ HT_ 4 20 31 (some 15) ?_
  refine tT_ HT_ HW_ hHeld 5 20 63 (some 16) ?_
  refine pT_ HT_ 6 20 127 (some 17) ?_
  refine pT_ HT_ 7 20 255 (some 18) ?_
  refine pT_ HT_ 8 20 511 (some 19) ?_
  refine pU_ HT_ 9 20 1023 (some 20) ?_
  refine pU_ HT_ 10 20 2047 (some 21) ?_
  refine pU_ HT_ 11 20 4095 (some 22) ?_
  refine pU_ HT_ 12 20 8191 (some 23) ?_
  refine pU_ HT_ 13 20 16383 (some 24) ?_
  refine pU_ HT_ 14 20 32767 (some 25) ?_
  refine pU_ HT_ 15 20 65535 (some 26) ?_
  refine pU_ HT_ 16 20 131071 (some 27) ?_
  refine pU_ HT_ 17 20 262143 (some 28) ?_
  refine pT_ HT_ 18 20 524287 (some 29) ?_
  refine pT_ HT_ 19 20 1048575 (some 4) ?_
  refine done_ (done_of HT_.out (by kernel_rfl)) ?_
  try go_wp2
  go_ret
  exact ⟨er_, bl_⟩
 replace c8 := Bool.eq_false_iff.mpr c8
 subst c8
 rw [iF_] at H
 replace H := bn_ H
 obtain ⟨g, cc, H⟩ := H
 obtain ⟨aA, H⟩ := gt_ H
 have cg := decide_eq_true aA
 clear aA
 obtain ⟨aB, H⟩ := gt_ H
 have ch := decide_eq_true aB
 clear aB
 obtain rfl := Option.some.inj H
 go_enter Tryz.func87, Tryz.ntmps87
 try go_wp2_with (first | ((with_reducible refine gD_ 2 rfl ?_); refine bx_ 2 24 #[.int .i64 D, .int .i64 E, .slice ai a.length ab, .int .i64 F, .bool G, .bool I] ?_; intro x hg cv hbox hb; have c := Z hbox; have ay := ln' w hg; replace HB := bs_ hb; clear hb hbox hg; have bc := cells6 c.out; have Y : 0 ≤ (a1 : Int) := od_; have aa : a1 < (a.length : Int) := od_; obtain ⟨u, aj, m, o, p, z, q, A⟩ := at_T47 ae.out a1 Y aa; (try rw [← s.out] at m); (try rw [← y.out] at m); (try rw [← s.out] at o); (try rw [← y.out] at o); (try rw [← s.out] at p); (try rw [← y.out] at p); (try rw [← s.out] at q); (try rw [← y.out] at q); cases aj; replace m := hc_ HB m; replace o := hc_ HB o; replace p := hc_ HB p; replace z := hc_ HB z; replace q := hc_ HB q; replace A := hc_ HB A; replace Y := eq_true Y; replace aa := eq_true aa) | ((with_reducible refine gD_ 5 rfl ?_); refine bx_ 5 47 #[.bool false, .bool false, .bool false, .int .i64 0, .bool false, .int .u8 0] ?_; intro b hg aN hbox hb; have d := Z hbox; have az := ln' w hg; replace HB := bs_ hb; have B := nl' c hg; replace c := kb' c hb; clear hb hbox hg; have cj := ns_ B; have bi := cells6 d.out))
 obtain ⟨ce, ece⟩ : ∃ w_, w_ = ((((((aN.setCell ⟨b, 0, none⟩ (.bool true)).setCell ⟨b, 1, none⟩ (.bool false)).setCell ⟨b, 2, none⟩ (.bool ((rd_T47 a a1).f1.f1))).setCell ⟨b, 3, none⟩ (.int .i64 ((rd_T47 a a1).f1.f2))).setCell ⟨b, 4, none⟩ (.bool ((rd_T47 a a1).f1.f3))).setCell ⟨b, 5, none⟩ (.int .u8 ((rd_T47 a a1).f2))) := ⟨_, rfl⟩
 have j : Aside0 (ce.heap[x]? = some (.cells #[.int .i64 D, .int .i64 E, .slice (some u) a.length ab, .int .i64 F, .bool G, .bool I] 24 (0, 0))) := ⟨by rw [ece]; exact blk_off c.out B.out off2_⟩
 have k : Aside0 (ce.heap[b]? = some (.cells #[.bool true, .bool false, .bool ((rd_T47 a a1).f1.f1), .int .i64 ((rd_T47 a a1).f1.f2), .bool ((rd_T47 a a1).f1.f3), .int .u8 ((rd_T47 a a1).f2)] 47 (0, 0))) := ⟨by rw [ece]; first | exact put6 d.out | (simp only [← s.out, ← y.out]; exact put6 d.out)⟩
 have l : Aside0 (Below w.heap.size w ce) := ⟨by rw [ece]; exact bl_⟩
 (try clear c)
 (try clear d)
 (try clear HB)
 rw [← ece]
 clear ece
 have c := j
 have d := k
 have HB := l
 clear j k l
 replace c := Z (blk_drew c.out)
 replace d := Z (blk_drew d.out)
 replace HB := Z (below_drew1 HB.out)
 have am : 0 ≤ (g : Int) := od_
 have an : g < (a.length : Int) := od_
 obtain ⟨aR, aY, J, L, M, ac, O, ad⟩ := at_T47 ae.out g am an
 have X := ad
 (try rw [← s.out] at X)
 (try rw [← y.out] at X)
 have W := O
 (try rw [← s.out] at W)
 (try rw [← y.out] at W)
 have V := ac
 (try rw [← s.out] at V)
 (try rw [← y.out] at V)
 have U := M
 (try rw [← s.out] at U)
 (try rw [← y.out] at U)
 have T := L
 (try rw [← s.out] at T)
 (try rw [← y.out] at T)
 have R := J
 (try rw [← s.out] at R)
 (try rw [← y.out] at R)
 (try rw [← s.out] at J)
 (try rw [← y.out] at J)
 (try rw [← s.out] at L)
 (try rw [← y.out] at L)
 (try rw [← s.out] at M)
 (try rw [← y.out] at M)
 (try rw [← s.out] at O)
 (try rw [← y.out] at O)
 obtain rfl : u = aR := (by injection aY)
 replace J := hc_ HB J
 replace L := hc_ HB L
 replace M := hc_ HB M
 replace ac := hc_ HB ac
 replace O := hc_ HB O
 replace ad := hc_ HB ad
 replace am := eq_true am
 replace an := eq_true an
 refine start_ (n := 20) (S := fun w' => w'.cell? ⟨b, 0, none⟩ = some (.bool true) ∧ w'.cell? ⟨b, 1, none⟩ = some (.bool false) ∧ w'.cell? ⟨b, 2, none⟩ = some (.bool ((rd_T47 a a1).f1.f1)) ∧ w'.cell? ⟨b, 3, none⟩ = some (.int .i64 ((rd_T47 a a1).f1.f2)) ∧ w'.cell? ⟨b, 4, none⟩ = some (.bool ((rd_T47 a a1).f1.f3)) ∧ w'.cell? ⟨b, 5, none⟩ = some (.int .u8 ((rd_T47 a a1).f2)) ∧ w'.cell? ⟨x, 0, none⟩ = some (.int .i64 D) ∧ w'.cell? ⟨x, 1, none⟩ = some (.int .i64 E) ∧ w'.cell? ⟨x, 2, none⟩ = some (.slice (some u) a.length ab) ∧ w'.cell? ⟨x, 3, none⟩ = some (.int .i64 F) ∧ w'.cell? ⟨x, 4, none⟩ = some (.bool G) ∧ w'.cell? ⟨x, 5, none⟩ = some (.bool I) ∧ w'.cell? (u.add ((g).toNat * 6)) = some (.bool ((rd_T47 a g).f0)) ∧ w'.cell? ⟨(u.add ((g).toNat * 6)).block, (u.add ((g).toNat * 6)).off + 1, none⟩ = some (.bool ((rd_T47 a g).f1.f0)) ∧ w'.cell? ⟨(u.add ((g).toNat * 6)).block, (u.add ((g).toNat * 6)).off + 2, none⟩ = some (.bool ((rd_T47 a g).f1.f1)) ∧ w'.cell? ⟨(u.add ((g).toNat * 6)).block, (u.add ((g).toNat * 6)).off + 3, none⟩ = some (.int .i64 ((rd_T47 a g).f1.f2)) ∧ w'.cell? ⟨(u.add ((g).toNat * 6)).block, (u.add ((g).toNat * 6)).off + 4, none⟩ = some (.bool ((rd_T47 a g).f1.f3)) ∧ w'.cell? ⟨(u.add ((g).toNat * 6)).block, (u.add ((g).toNat * 6)).off + 5, none⟩ = some (.int .u8 ((rd_T47 a g).f2))) (ds := []) (bv 20 0) (by kernel_rfl) rfl rfl ⟨(blk_cell d.out 0).trans rfl, (blk_cell d.out 1).trans rfl, (blk_cell d.out 2).trans rfl, (blk_cell d.out 3).trans rfl, (blk_cell d.out 4).trans rfl, (blk_cell d.out 5).trans rfl, (blk_cell c.out 0).trans rfl, (blk_cell c.out 1).trans rfl, (blk_cell c.out 2).trans rfl, (blk_cell c.out 3).trans rfl, (blk_cell c.out 4).trans rfl, (blk_cell c.out 5).trans rfl, ((HB.out.cell (bk_ w _ R)).trans R), ((HB.out.cell (bk_ w _ T)).trans T), ((HB.out.cell (bk_ w _ U)).trans U), ((HB.out.cell (bk_ w _ V)).trans V), ((HB.out.cell (bk_ w _ W)).trans W), ((HB.out.cell (bk_ w _ X)).trans X)⟩ (fun hHeld => ?_); refine with_tabW field_enters.tab2 field_enters.bits2 (fun HT_ HW_ => ?_)
 generalize ce.drew = cw at c d HB J L M ac O ad hHeld ⊢
 refine pT_ HT_ 0 20 1 (some 11) ?_
 refine tT_ HT_ HW_ hHeld 1 20 3 (some 12) ?_
 refine pT_ HT_ 2 20 7 (some 13) ?_
 refine pT_ HT_ 3 20 15 (some 14) ?_
 refine pT_ HT_ 4 20 31 (some 15) ?_
 refine tT_ HT_ HW_ hHeld 5 20 63 (some 16) ?_
 refine pT_ HT_ 6 20 127 (some 17) ?_
 refine pT_ HT_ 7 20 255 (some 18) ?_
 refine pT_ HT_ 8 20 511 (some 19) ?_
 refine pT_ HT_ 9 20 1023 (some 20) ?_
 refine pT_ HT_ 12 20 5119 (some 23) ?_
 refine tT_ HT_ HW_ hHeld 10 20 6143 (some 21) ?_
 refine tT_ HT_ HW_ hHeld 11 20 8191 (some 22) ?_
 refine oT_ HT_ 13 20 16383 (some 24) (fun K hK => ?_)
 refine goes_ Tryz.func85 (by kernel_rfl) rfl #[.agg #[.int .i64 D, .int .i64 E, .slice (some u) a.length ab, .int .i64 F, .bool G, .bool I], .int .i64 a1, .int .i64 1] (by rfl) rfl rfl ag_ ?_
 with_reducible refine (grid_On.calls D E _ _ a F G I a1 1 g _ ?side1 ?side2 cc.out).mono ?_
 (case side1 => repeat (first | exact (Kd.C_below ae.out HB.out) | (with_reducible apply pC)))
 (case side2 => exact aQ.out)
 rintro e cx ⟨rfl, hb⟩
 refine ⟨_, rfl, ?_⟩
 replace c := kb' c hb
 replace d := kb' d hb
 replace HB := bs_ hb
 (try clear hb)
 (try clear ct)
 (try clear hk)
 (try clear hi)
 refine hK.out _ _ ⟨(blk_cell d.out 0).trans rfl, (blk_cell d.out 1).trans rfl, (blk_cell d.out 2).trans rfl, (blk_cell d.out 3).trans rfl, (blk_cell d.out 4).trans rfl, (blk_cell d.out 5).trans rfl, (blk_cell c.out 0).trans rfl, (blk_cell c.out 1).trans rfl, (blk_cell c.out 2).trans rfl, (blk_cell c.out 3).trans rfl, (blk_cell c.out 4).trans rfl, (blk_cell c.out 5).trans rfl, ((HB.out.cell (bk_ w _ R)).trans R), ((HB.out.cell (bk_ w _ T)).trans T), ((HB.out.cell (bk_ w _ U)).trans U), ((HB.out.cell (bk_ w _ V)).trans V), ((HB.out.cell (bk_ w _ W)).trans W), ((HB.out.cell (bk_ w _ X)).trans X)⟩ (fun hHeld => ?_)
 clear hK K
 refine nA_ (some 24) ?_
 refine pT_ HT_ 14 20 32767 (some 25) ?_
 refine pT_ HT_ 15 20 65535 (some 26) ?_
 refine tT_ HT_ HW_ hHeld 16 20 131071 (some 27) ?_
 refine pT_ HT_ 17 20 262143 (some 28) ?_
 refine pT_ HT_ 18 20 524287 (some 29) ?_
 refine pT_ HT_ 19 20 1048575 (some 4) ?_
 refine done_ (done_of HT_.out (by kernel_rfl)) ?_
 try go_wp2
 go_ret
 exact ⟨er_, bl_⟩

/-! ### field_Next: function 42 -/
section
open Go.Shelf
attribute [local go_sem] Oper.semAt_some

def protI (l : List S47) (i : Int) : Bool := (rd_T47 l i).f1.f0
/-- an open field begins at a cell, and has cells -/
def entI (l : List S47) (i : Int) : Bool := isF l i && !protI l i && !isF l (onI l.length i 1)
def firstI (l : List S47) (g : Nat → Int) : Int := if findW (entI l) g l.length 0 < 0 then -1 else onI l.length (findW (entI l) g l.length 0) 1
def nextI (l : List S47) (a : Int) : Int := firstI l (wayI l.length a 1)
theorem grid_On.eq (r c : Int) (l : List S47) (cu : Int) (lo ins : Bool) (a d : Int) (hn : l.length ≤ 16383) (b : 0 ≤ a) (e : a < l.length) : grid_On.f r c l cu lo ins a d = some (onI l.length a d) := by
 unfold grid_On.f
 rw [if_neg (by omega), on_eq l.length (by omega) hn a d b e]
theorem field_enters.eq (r c : Int) (l : List S47) (cu : Int) (lo ins : Bool) (a : Int) (hn : l.length ≤ 16383) (b : 0 ≤ a) (d : a < l.length) : field_enters.f r c l cu lo ins a = some (entI l a) := by
 unfold field_enters.f
 have hp : 0 < l.length := by omega
 rw [if_pos b, if_pos d, grid_On.eq r c l cu lo ins a 1 hn b d]
 simp only [Option.bind_some]
 rw [if_pos (onI_nonneg hp a 1), if_pos (onI_lt hp a 1)]
 unfold entI isF protI
 cases (rd_T47 l a).f0 <;> cases (rd_T47 l a).f1.f0 <;> simp

theorem keeps_of_below {W W' : World} (h : Below W.heap.size W W') (B : Nat) : KeepsFrom B W W' := ⟨h.size, fun k o _ hk _ => blk_below hk h⟩

theorem First_loop (r c : Int) (A : Option Addr) (cp : Nat) (l : List S47) (cu : Int) (lo ins : Bool) (a d : Int) (Bs Ba Bb : Nat) (w : World) (hr : Kd.C k47 w A l.length l) (hc : l.length ≤ cp) (hn : l.length ≤ 16383) (u : 0 ≤ a) (v : a < l.length)
  (hcs : w.heap[Bs]? = some (.cells #[.int .i64 r, .int .i64 c, .slice A l.length cp, .int .i64 cu, .bool lo, .bool ins] 24 (0, 0))) (hca : w.heap[Ba]? = some (.cells #[.int .i64 a] 3 (0, 0))) (hcb : w.heap[Bb]? = some (.cells #[.int .i64 d] 3 (0, 0))) :
  CallsIn Fence.wide 5 Tryz.prog 71 #[.agg #[.int .i64 r, .int .i64 c, .slice A l.length cp, .int .i64 cu, .bool lo, .bool ins], .func (.func 88) #[] #[.pointer (some ⟨Bs, 0, none⟩), .pointer (some ⟨Ba, 0, none⟩), .pointer (some ⟨Bb, 0, none⟩)]] w fun e w' => e = .returned (.int .i64 (firstI l (wayI l.length a d))) ∧ Below w.heap.size w w' := by
 have hpos : 0 < l.length := by omega
 have z := Tryz.underlying24
 have E := Tryz.underlying47
 refine callsIn_of_wp_marks Tryz.func71 rfl trivial ?_ rfl
 simp only [Tryz.ntmps71, List.size_toArray, List.length_cons, List.length_nil, Nat.reduceAdd, Nat.reduceSub, Array.replicate_succ, Array.replicate_zero, List.push_toArray, List.append_toArray, List.nil_append, List.cons_append]
 gi_wp2
 have g : Below w.heap.size w ((w.alloc (.cells #[.int .i64 r, .int .i64 c, .slice A l.length cp, .int .i64 cu, .bool lo, .bool ins] 24)).alloc (.cells #[.int .i64 0] 3)) := ((Below.refl _ w).alloc (Nat.le_refl _) _).alloc (by simp) _
 have k1 := blk_new w (.cells #[.int .i64 r, .int .i64 c, .slice A l.length cp, .int .i64 cu, .bool lo, .bool ins] 24)
 have k2 := blk_new (w.alloc (.cells #[.int .i64 r, .int .i64 c, .slice A l.length cp, .int .i64 cu, .bool lo, .bool ins] 24)) (.cells #[.int .i64 0] 3)
 simp only [World.size_alloc] at k2
 have lS := blk_lt hcs
 have lA := blk_lt hca
 have lB := blk_lt hcb
 refine wpIn_rangeFunc_ownG rfl (by omega) (gf := 88) (lb := #[.pointer (some ⟨Bs, 0, none⟩), .pointer (some ⟨Ba, 0, none⟩), .pointer (some ⟨Bb, 0, none⟩)]) rfl trivial (enters_of Tryz.func88 (by kernel_rfl) rfl)
  (round_stops 4 (by omega) Bs Ba Bb r c A l.length cp cu lo ins a d hpos hn u v w hcs hca hcb) Keep3.trans (Keep3.put (by simp; omega) (by simp; omega) (by simp; omega)) g (fun _ => rfl)
  (fun pre W => ((∀ x ∈ pre, entI l x.1 = false) ∧ W.heap[w.heap.size]? = some (.cells #[.int .i64 r, .int .i64 c, .slice A l.length cp, .int .i64 cu, .bool lo, .bool ins] 24 (0, 0)) ∧ Boxed W (w.heap.size + 1) 3 (.int .i64 0)) ∧ Below w.heap.size w W)
  (fun c' pre W => (c' = .ret ∧ ∃ ini last, pre = ini ++ [last] ∧ (∀ x ∈ ini, entI l x.1 = false) ∧ entI l last.1 = true ∧ Boxed W (w.heap.size + 1) 3 (.int .i64 (onI l.length last.1 1))) ∧ Below w.heap.size w W)
  (OwnFrom.and (Own.from (fun s A B row hs hg hr => ⟨hs.1, (grownBy_keeps_cells hg hr hs.2.1 rfl).trans hs.2.1, (grownBy_keeps_cells hg hr hs.2.2 rfl).trans hs.2.2⟩) _) (ownFrom_below (Nat.le_refl _) (by simp; omega)))
  (fun c => OwnFrom.and (Own.from (fun s A B row hs hg hr => by obtain ⟨hc, ini, last, h, m, n, o⟩ := hs; exact ⟨hc, ini, last, h, m, n, (grownBy_keeps_cells hg hr o rfl).trans o⟩) _) (ownFrom_below (Nat.le_refl _) (by simp; omega)))
  ⟨⟨by simp, blk_alloc k1 _, k2⟩, g⟩
  (fun x => { tmps := #[.agg #[.int .i64 r, .int .i64 c, .slice A l.length cp, .int .i64 cu, .bool lo, .bool ins], .func (.func 88) #[] #[.pointer (some ⟨Bs, 0, none⟩), .pointer (some ⟨Ba, 0, none⟩), .pointer (some ⟨Bb, 0, none⟩)], .pointer (some ⟨w.heap.size, 0, none⟩), undef, .pointer (some ⟨w.heap.size + 1, 0, none⟩), .int .i64 x.1, .func (.func 88) #[] #[.pointer (some ⟨Bs, 0, none⟩), .pointer (some ⟨Ba, 0, none⟩), .pointer (some ⟨Bb, 0, none⟩)], .int .i64 x.1, undef, undef, undef, undef, undef, undef], defers := [] }) ?assign ?body ?done ?stop
 case assign =>
  intro l x W K hK
  gi_wp2
  exact hK
 case body =>
  rintro lp pre x W ⟨⟨hp, hS, hR⟩, hB⟩ _
  have F := (blk_cell hS 0).trans rfl
  have G := (blk_cell hS 1).trans rfl
  have H := (blk_cell hS 2).trans rfl
  have I := (blk_cell hS 3).trans rfl
  have J := (blk_cell hS 4).trans rfl
  have L := (blk_cell hS 5).trans rfl
  have q := x.2.1
  have t := x.2.2
  have hE : ∀ b, entI l x.1 = b → Calls Tryz.prog 87 #[.agg #[.int .i64 r, .int .i64 c, .slice A l.length cp, .int .i64 cu, .bool lo, .bool ins], .int .i64 x.1] W fun e w' => e = .returned (.bool b) ∧ Below W.heap.size W w' :=
   fun b hb => field_enters.calls r c A cp l cu lo ins x.1 b W (Kd.C_below hr hB) hc (by rw [field_enters.eq r c l cu lo ins x.1 hn q t, hb])
  cases hex : entI l x.1 with
  | false =>
   have hF := Z (hE false hex)
   clear hE
   gi_wp2_with (refine ⟨trivial, ?_⟩; gi_at_call 87; refine (CallsIn.inRound lp (callsIn_wide.2 hF.out)).mono ?_; rintro e w' ⟨rfl, hb⟩)
   exact ⟨keeps_of_below hb _, Keep3.below hb (by have := hB.size; omega) (by have := hB.size; omega) (by have := hB.size; omega), ⟨fun y hy => (List.mem_append.1 hy).elim (hp y) (fun e => by simp at e; subst e; exact hex), blk_below hS hb, blk_below hR hb⟩, hB.trans (hb.mono hB.size)⟩
  | true =>
   have hF := Z (hE true hex)
   clear hE
   gi_wp2_with (first
    | (refine ⟨trivial, ?_⟩; gi_at_call 87; refine (CallsIn.inRound lp (callsIn_wide.2 hF.out)).mono ?_; rintro e w' ⟨rfl, hb⟩; have hB' := hB.trans (hb.mono hB.size); have hS' := blk_below hS hb; have hR' : Boxed w' (w.heap.size + 1) 3 (.int .i64 0) := blk_below hR hb; have z0 := (blk_cell hS' 0).trans rfl; have z1 := (blk_cell hS' 1).trans rfl; have z2 := (blk_cell hS' 2).trans rfl; have z3 := (blk_cell hS' 3).trans rfl; have z4 := (blk_cell hS' 4).trans rfl; have z5 := (blk_cell hS' 5).trans rfl; have zR := hR'.cell; have zF := hR'.frozen)
    | (refine ⟨trivial, ?_⟩; gi_at_call 85; refine (CallsIn.inRound lp (callsIn_wide.2 (On_exact r c A l.length cp cu lo ins x.1 1 _ hpos hn q t))).mono ?_; rintro e w2 ⟨rfl, rfl⟩; have yR := (hR'.alloc (.cells #[.int .i64 r, .int .i64 c, .slice A l.length cp, .int .i64 cu, .bool lo, .bool ins] 24)).cell; have yF := (hR'.alloc (.cells #[.int .i64 r, .int .i64 c, .slice A l.length cp, .int .i64 cu, .bool lo, .bool ins] 24)).frozen))
   exact ⟨((keeps_of_below hb _).trans ((KeepsOthers.alloc _ _).from _)).trans ((KeepsOthers.setCell _ _ _).from _), ⟨rfl, pre, x, rfl, hp, hex, (hR'.alloc _).set _⟩, (hB'.alloc (by have := hB'.size; omega) _).setCell (p := ⟨w.heap.size + 1, 0, none⟩) (Nat.le_succ _) _⟩
 case done =>
  rintro D ys W hD rfl ⟨⟨hne, hS, hR⟩, hB⟩ hK
  have rC := hR.cell
  have rF := hR.frozen
  gi_wp2
  have hK' := (KeepsOthers.setCell W ⟨w.heap.size + 1, 0, none⟩ (.int .i64 (-1))).same D _ hK rfl
  refine ⟨by simp, .inl ⟨_, _, rfl, run_takeDeferred hK', ?_⟩⟩
  have f := cell_kept (hR.set (.int .i64 (-1))).cell (grownBy_putObj' _ D (.deferred none)) (fun r e => by cases e; exact ⟨_, hK', rfl⟩)
  have hE : firstI l (wayI l.length a d) = -1 := by
   rw [firstI, findW_none (entI l) (wayI l.length a d) l.length 0 (fun i _ hi => hne _ (mem_uptoI (wayS hpos a d) l.length i (by omega)))]; rfl
  refine ⟨.int .i64 (-1), ?_, by rw [hE], (hB.setCell (p := ⟨w.heap.size + 1, 0, none⟩) (Nat.le_succ _) _).trans (belowK_b (w := w) (Nat.le_refl _) _ D _ _ (by simp at hD; omega) hK' rfl rfl)⟩
  simp [results, Tryz.results71, go_sem, f]
 case stop =>
  rintro D c pre W hD ⟨k, hk, rfl⟩ ⟨⟨rfl, ini, last, h, m, n, hR⟩, hB⟩ hK
  gi_wp2
  refine ⟨by simp, .inl ⟨_, _, rfl, run_takeDeferred hK, ?_⟩⟩
  have f := cell_kept hR.cell (grownBy_putObj' _ D (.deferred none)) (fun r e => by cases e; exact ⟨_, hK, rfl⟩)
  obtain ⟨j, rfl, rfl, rfl⟩ := uptoI_last _ _ _ _ h
  have hE : firstI l (wayI l.length a d) = onI l.length (wayI l.length a d j) 1 := by
   rw [firstI, findW_eq (entI l) (wayI l.length a d) l.length 0 j (by omega) (by omega) n (fun i _ hi => m _ (mem_uptoI (wayS hpos a d) j i hi)), if_neg (by have := wayI_nonneg hpos a d j; omega)]
  refine ⟨.int .i64 (onI l.length (wayI l.length a d j) 1), ?_, by rw [hE], hB.trans (belowK_b (w := w) (Nat.le_refl _) _ D _ _ (by simp at hD; omega) hK rfl rfl)⟩
  simp [results, Tryz.results71, go_sem, f]
  rfl


theorem First_calls (r c : Int) (A : Option Addr) (cp : Nat) (l : List S47) (cu : Int) (lo ins : Bool) (a d : Int) (Bs Ba Bb : Nat) (w : World) (hr : Kd.C k47 w A l.length l) (hc : l.length ≤ cp) (hn : l.length ≤ 16383) (b : 0 ≤ a) (f : a < l.length)
  (hcs : w.heap[Bs]? = some (.cells #[.int .i64 r, .int .i64 c, .slice A l.length cp, .int .i64 cu, .bool lo, .bool ins] 24 (0, 0))) (hca : w.heap[Ba]? = some (.cells #[.int .i64 a] 3 (0, 0))) (hcb : w.heap[Bb]? = some (.cells #[.int .i64 d] 3 (0, 0))) :
  Calls Tryz.prog 71 #[.agg #[.int .i64 r, .int .i64 c, .slice A l.length cp, .int .i64 cu, .bool lo, .bool ins], .func (.func 88) #[] #[.pointer (some ⟨Bs, 0, none⟩), .pointer (some ⟨Ba, 0, none⟩), .pointer (some ⟨Bb, 0, none⟩)]] w fun e w' => e = .returned (.int .i64 (firstI l (wayI l.length a d))) ∧ Below w.heap.size w w' :=
 callsIn_wide.1 (First_loop r c A cp l cu lo ins a d Bs Ba Bb w hr hc hn b f hcs hca hcb)

def field_Next.f (b c : Int) (a : List (S47)) (d : Int) (e g : Bool) (a1 : Int) : Option Int := if a.length ≤ 16383 then (if 0 ≤ a1 then (if a1 < (a.length : Int) then (some (nextI a a1)) else (none)) else (none)) else (none)
theorem four_facts (w : World) (a o2 o3 b : Obj) : Below w.heap.size w ((((w.alloc a).alloc o2).alloc o3).alloc b) ∧ ((((w.alloc a).alloc o2).alloc o3).alloc b).heap[w.heap.size + 1]? = some o2 ∧ ((((w.alloc a).alloc o2).alloc o3).alloc b).heap[w.heap.size + 1 + 1]? = some o3 ∧ ((((w.alloc a).alloc o2).alloc o3).alloc b).heap[w.heap.size + 1 + 1 + 1]? = some b := by
 have k2 := blk_new (w.alloc a) o2
 have k3 := blk_new ((w.alloc a).alloc o2) o3
 have k4 := blk_new (((w.alloc a).alloc o2).alloc o3) b
 simp only [World.size_alloc] at k2 k3 k4
 exact ⟨below_alloc (below_alloc (below_alloc (below_alloc (Below.refl _ _) _) _) _) _, blk_alloc (blk_alloc k2 _) _, blk_alloc k3 _, k4⟩

theorem field_Next.calls (b c : Int) (k : Option Addr) (j : Nat) (a : List (S47)) (d : Int) (g i : Bool) (a1 r : Int) (w : World) (l : Kd.C k47 w k a.length a) (m : a.length ≤ j) (h : field_Next.f b c a d g i a1 = some r) :
  Calls Tryz.prog 42 #[.agg #[.int .i64 b, .int .i64 c, .slice k a.length j, .int .i64 d, .bool g, .bool i], .int .i64 a1] w fun e w' => e = .returned (.int .i64 r) ∧ Below w.heap.size w w' := by
 obtain ⟨hn, n, o, rfl⟩ := guard3 h
 clear h
 have p := Tryz.underlying24
 have HF := Z (four_facts w (.cells #[.int .i64 b, .int .i64 c, .slice k a.length j, .int .i64 d, .bool g, .bool i] 24) (.cells #[.int .i64 b, .int .i64 c, .slice k a.length j, .int .i64 d, .bool g, .bool i] 24) (.cells #[.int .i64 a1] 3) (.cells #[.int .i64 (1)] 3))
 have HR := Z l
 clear l
 go_enter Tryz.func42, Tryz.ntmps42
 go_wp2
 go_region_with (first
  | (go_at_call 72; refine (Round_exact b c _ _ j d g i a1 (1) _).mono ?_; rintro e w' ⟨rfl, rfl⟩)
  | (go_at_call 71; refine (First_calls b c _ j a d g i a1 (1) _ _ _ _ ?_ m hn n o ?_ ?_ ?_).mono ?_; exact Kd.C_below HR.out HF.out.1.drew; exact HF.out.2.1; exact HF.out.2.2.1; exact HF.out.2.2.2; rintro e w' ⟨rfl, hb⟩))
 all_goals
  go_wp2
  go_ret
  exact ⟨rfl, below_step HF.out.1.drew hb⟩
end

end Go.Proofs.YtphboakgkmjpbaaGreatDoor.P
