/- pp.py and press2.py (wip/tools) wrote this text. -/
import Derived.Test.YtggecanpjkpkiaaDoorPx0
import Derived.Test.YtggecanpjkpkiaaDoorPxS
import Derived.Test.YtggecanpjkpkiaaDoorPx3
namespace Go.Proofs.YtggecanpjkpkiaaDoor.P
open Go.RowKit Go.Proofs.YtggecanpjkpkiaaDoorW.PrintWords Go.Proofs.YtggecanpjkpkiaaDoorW.PrintLast Go.Proofs.YtggecanpjkpkiaaDoorW.PrintMore
attribute [local go_sem] max2_int min2_int max_two min_two max_three min_three max_four min_four
attribute [local go_sem] Instr.field asAgg
set_option linter.unusedVariables false
set_option linter.unusedSimpArgs false

/-! ### edit_pushed: function 55 -/
def edit_pushed.l0 : Nat → List Int → Int → Int → Int → List (S35) → Int → Bool → Bool → Option (Bool × (List (S35)))
 | 0, _, _, _, _, _, _, _, _ => none
 | k + 1, c, b, d, e, a, f, g, h => if b > 0 then (if 0 ≤ b then (if b < (c.length : Int) then (if 0 ≤ (wrap64 (b - 1)) then (if (wrap64 (b - 1)) < (c.length : Int) then (if 0 ≤ (rd c (wrap64 (b - 1))) then (if (rd c (wrap64 (b - 1))) < (a.length : Int) then (if 0 ≤ (rd c b) then (if (rd c b) < (a.length : Int) then (edit_pushed.l0 k c (wrap64 (b - 1)) d e (a.set ((rd c b) : Int).toNat (⟨(rd_T35 a (rd c (wrap64 (b - 1)))).f0, (⟨(rd_T35 a (rd c (wrap64 (b - 1)))).f1.f0, (rd_T35 a (rd c (wrap64 (b - 1)))).f1.f1, (rd_T35 a (rd c (wrap64 (b - 1)))).f1.f2, (rd_T35 a (rd c (wrap64 (b - 1)))).f1.f3⟩ : S33), (rd_T35 a (rd c (wrap64 (b - 1)))).f2⟩ : S35)) f g h) else (none)) else (none)) else (none)) else (none)) else (none)) else (none)) else (none)) else (none)) else (some (true, a))
def edit_pushed.f (k : Nat) (b : Int) (c : Int) (a : List (S35)) (d : Int) (e : Bool) (g : Bool) (l1 : List Int) : Option (Bool × (List (S35))) := (pushed_index.f l1 b c a d e g).bind fun h => (if h < 0 then (some (false, a)) else (edit_pushed.l0 k l1 h b c a d e g))
theorem edit_pushed.mono_l : ∀ k, (∀ b c d e f g i j, LeO (edit_pushed.l0 k b c d e f g i j) (edit_pushed.l0 (k + 1) b c d e f g i j))
 | 0 => fun _ _ _ _ _ _ _ _ r h => by simp [edit_pushed.l0] at h
 | k + 1 => by
  have a := edit_pushed.mono_l k
  ·intro b c d e f g i j
   unfold edit_pushed.l0
   repeat' first
   | (with_reducible exact a _ _ _ _ _ _ _ _)
   | (with_reducible exact LeO.refl _)
   | (with_reducible exact LeO.none _)
   | (with_reducible refine LeO.ite ?_ ?_)
   | (with_reducible refine LeO.bind ?_ (fun _ => ?_))
   | exact a _ _ _ _ _ _ _ _
   | exact LeO.none _
   | refine LeO.ite ?_ ?_
   | refine LeO.bind ?_ (fun _ => ?_)
theorem edit_pushed.mono : ∀ a0 a1 b c a4 d e k, LeO (edit_pushed.f k a0 a1 b c a4 d e) (edit_pushed.f (k + 1) a0 a1 b c a4 d e) := by
 intro a0 a1 b c a4 d e k
 have a := edit_pushed.mono_l k
 unfold edit_pushed.f
 repeat' first
   | (with_reducible exact a _ _ _ _ _ _ _ _)
   | (with_reducible exact LeO.refl _)
   | (with_reducible exact LeO.none _)
   | (with_reducible refine LeO.ite ?_ ?_)
   | (with_reducible refine LeO.bind ?_ (fun _ => ?_))
   | exact a _ _ _ _ _ _ _ _
   | exact LeO.none _
   | refine LeO.ite ?_ ?_
   | refine LeO.bind ?_ (fun _ => ?_)
def edit_pushed.T7 : Bool × List (List Nat × List Nat) := (true, [([], []), ([0], [0]), ([], []), ([], []), ([2, 3], [2, 3]), ([4], [4]), ([], []), ([6], [6]), ([], []), ([], []), ([9], [9]), ([8, 10], [8, 10]), ([11], [11]), ([7, 12], [7, 12]), ([13], [13]), ([1, 5, 0, 1, 2, 3, 4, 5, 6, 7, 8, 9, 10, 11, 12, 13, 14], [1, 5]), ([15, 14, 0, 1, 2, 3, 4, 5, 6, 7, 8, 9, 10, 11, 12, 13, 14], [14, 15])])
def edit_pushed.B7 : List Nat := [0, 1, 0, 0, 12, 28, 0, 64, 0, 0, 512, 1792, 3840, 8128, 16320, 32767, 65535]
theorem edit_pushed.tab7 : rtab .any (opsOf Tryd.f55 7) = edit_pushed.T7 := by kernel_rfl
theorem edit_pushed.bits7 : waitsOk edit_pushed.T7.2 edit_pushed.B7 = true := by kernel_rfl
set_option maxHeartbeats 8000000 in
set_option maxRecDepth 100000 in
theorem edit_pushed.calls (k : Nat) (s : Int) (u : Int) (q : Nat → Prop) (G : Value) (r : List (S35)) (x : Int) (y : Bool) (z : Bool) (A1 : Option Addr) (c1 : Nat) (l1 : List Int) (r1 : Bool) (r2 : List (S35)) (w0 w : World) (hB : Below w0.heap.size w0 w) (a8 : Kd.R k35 35 w w0.heap.size q G r) (bp : ∀ W_, Kept w W_ (fun k_ => q k_) → Kd.C (Kd.int .i64) W_ A1 l1.length l1) (bo : l1.length ≤ c1) (h : edit_pushed.f k s u r x y z l1 = some (r1, r2)) :
  Calls Tryd.prog 55 #[.agg #[.int .i64 s, .int .i64 u, G, .int .i64 x, .bool y, .bool z], .slice A1 l1.length c1] w fun e w' => e = .returned (.bool r1) ∧ Kd.R k35 35 w' w0.heap.size (fun k_ => (q k_ ∨ w.heap.size ≤ k_)) G r2 ∧ Below w0.heap.size w0 w' ∧ Kept w w' (fun k_ => q k_) := by
 have bR := Tryd.underlying24
 have bS := Tryd.underlying35
 have p := Z (show Kd.R k35 35 w w0.heap.size (fun k_ => (q k_ ∨ w.heap.size ≤ k_)) G r from Kd.R_mono a8 (fun k_ hk => (.inl hk)))
 have Y := Z bp
 have bl := Z bo
 clear bp bo
 have HK := Z (Kept.refl w (fun k_ => q k_))
 have bU := Z hB.size
 have HB := Z hB
 clear hB
 have H : ((pushed_index.f l1 s u r x y z).bind fun A => (if A < 0 then (some (false, r)) else (edit_pushed.l0 k l1 A s u r x y z))) = some (r1, r2) := h
 clear h
 replace H := Option.bind_eq_some_iff.mp H
 obtain ⟨A, bj, H⟩ := H
 replace H : (if A < 0 then (some (false, r)) else (edit_pushed.l0 k l1 A s u r x y z)) = some (r1, r2) := H
 have A3 := Z bj
 clear bj
 by_cases c4 : A < 0
 ·rw [if_pos c4] at H
  have aJ : decide (A < 0) = true := decide_eq_true c4
  clear c4
  simp only [Option.some.injEq, Prod.mk.injEq] at H
  obtain ⟨rfl, rfl⟩ := H
  obtain ⟨bk, bn, bB⟩ := Kd.R_slice p.out
  subst bB
  go_enter Tryd.func55, Tryd.ntmps55
  go_wp2_with (first | ((with_reducible refine gate_dst (N := 2) rfl ?_); refine bx_ 2 24 #[.int .i64 s, .int .i64 u, .slice bk r.length bn, .int .i64 x, .bool y, .bool z] ?_; intro m hg w6 hbox hb; replace p := Z (rb p.out hb); have d := Z (hbox); have B := Z ((by rw [hg]; exact (by first | exact HK.out.1 | exact (show Kept w _ (fun k_ => q k_) from by repeat (first | (with_reducible first | exact HK.out | apply Kept.alloc | apply Kept.drewN | apply Kept.drew) | exact HK.out)).1) : w.heap.size ≤ m)); replace HK := Z (Kept.below (S := (fun k_ => q k_)) (by repeat (first | (with_reducible first | exact HK.out | apply Kept.alloc | apply Kept.drewN | apply Kept.drew) | exact HK.out)) hb); have aq := Z ((le_new hg (below_size bl_) : w0.heap.size ≤ m)); replace HB := Z (below_step bl_ hb); clear hb hbox hg) | ((with_reducible refine gate_callee (f := 78) rfl ?_); refine goesL_ (some 9) rfl rfl Tryd.func78 (by kernel_rfl) rfl #[.slice A1 l1.length c1, .func (.func 79) #[] #[.pointer (some ⟨m, 0, none⟩)]] rfl ag_ ?_; (with_reducible refine (pushed_index.calls _ _ l1 s u bk bn r x y z m A _ ?side1 ?side2 ?side3 ?side4 ?side5 A3.out).mono ?_); (case side1 => exact Kd.C_kept_now Y.out (by repeat (first | (with_reducible first | exact HK.out | apply Kept.alloc | apply Kept.drewN | apply Kept.drew | refine Kept.setCell ?_ (.inr B.out) _) | exact HK.out))); (case side2 => exact bl.out); (case side3 => repeat (first | exact (Kd.R_reads' p.out).2.2 | (with_reducible apply pC))); (case side4 => exact (Kd.R_reads' p.out).2.1); (case side5 => exact (vK d.out)); rintro e w' ⟨rfl, ⟨nd, rfl⟩⟩; refine ⟨_, rfl, ?_⟩))
  go_ret
  exact ⟨er_, by (with_reducible repeat apply pR); exact p.out, bl_, by repeat (first | (with_reducible first | exact HK.out | apply Kept.alloc | apply Kept.drewN | apply Kept.drew | refine Kept.setCell ?_ (.inr B.out) _) | exact HK.out)⟩
 ·rw [if_neg c4] at H
  have aJ : decide (A < 0) = false := decide_eq_false c4
  clear c4
  have H' := Z H
  clear H
  obtain ⟨ap, ah, bC⟩ := Kd.R_slice p.out
  subst bC
  go_enter Tryd.func55, Tryd.ntmps55
  go_wp2_with (first | ((with_reducible refine gate_dst (N := 2) rfl ?_); refine bx_ 2 24 #[.int .i64 s, .int .i64 u, .slice ap r.length ah, .int .i64 x, .bool y, .bool z] ?_; intro m hg w8 hbox hb; replace p := Z (rb p.out hb); have d := Z (hbox); have B := Z ((by rw [hg]; exact (by first | exact HK.out.1 | exact (show Kept w _ (fun k_ => q k_) from by repeat (first | (with_reducible first | exact HK.out | apply Kept.alloc | apply Kept.drewN | apply Kept.drew) | exact HK.out)).1) : w.heap.size ≤ m)); replace HK := Z (Kept.below (S := (fun k_ => q k_)) (by repeat (first | (with_reducible first | exact HK.out | apply Kept.alloc | apply Kept.drewN | apply Kept.drew) | exact HK.out)) hb); have aq := Z ((le_new hg (below_size bl_) : w0.heap.size ≤ m)); replace HB := Z (below_step bl_ hb); clear hb hbox hg) | ((with_reducible refine gate_callee (f := 78) rfl ?_); refine goesL_ (some 9) rfl rfl Tryd.func78 (by kernel_rfl) rfl #[.slice A1 l1.length c1, .func (.func 79) #[] #[.pointer (some ⟨m, 0, none⟩)]] rfl ag_ ?_; (with_reducible refine (pushed_index.calls _ _ l1 s u ap ah r x y z m A _ ?side1 ?side2 ?side3 ?side4 ?side5 A3.out).mono ?_); (case side1 => exact Kd.C_kept_now Y.out (by repeat (first | (with_reducible first | exact HK.out | apply Kept.alloc | apply Kept.drewN | apply Kept.drew | refine Kept.setCell ?_ (.inr B.out) _) | exact HK.out))); (case side2 => exact bl.out); (case side3 => repeat (first | exact (Kd.R_reads' p.out).2.2 | (with_reducible apply pC))); (case side4 => exact (Kd.R_reads' p.out).2.1); (case side5 => exact (vK d.out)); rintro e w' ⟨rfl, ⟨nd, rfl⟩⟩; refine ⟨_, rfl, ?_⟩))
  go_loopg [6] k (fun kq v6 w' => ∃ (c : Int) (a : List (S35)), v6 = .int .i64 c ∧ Aside0 (edit_pushed.l0 kq l1 c s u a x y z = some (r1, r2)) ∧ Aside0 (kq ≤ k) ∧ Aside0 (Kd.R k35 35 w' w0.heap.size (fun k_ => (q k_ ∨ w.heap.size ≤ k_)) (.slice ap r.length ah) a) ∧ Aside0 (w'.heap[m]? = some (.cells #[.int .i64 s, .int .i64 u, (.slice ap r.length ah), .int .i64 x, .bool y, .bool z] 24 (0, 0))) ∧ Aside0 (Kept w w' (fun k_ => q k_)) ∧ Aside0 (Below w0.heap.size w0 w'))
  case atStart => exact ⟨(A), (r), (dn_), H', ⟨Nat.le_refl _⟩, ⟨by (with_reducible repeat apply pR); exact p.out⟩, ⟨vK d.out⟩, ⟨by repeat (first | (with_reducible first | exact HK.out | apply Kept.alloc | apply Kept.drewN | apply Kept.drew | refine Kept.setCell ?_ (.inr B.out) _) | exact HK.out)⟩, ⟨bl_⟩⟩
  case round =>
   clear H'
   try clear c1
   try clear p2
   try clear c4
   try clear aJ
   try clear c5
   try clear c7
   obtain ⟨c, a, rfl, HA, bm, HO_154002, d, HK, HB⟩ := hrel
   have o := (Kd.R_reads' HO_154002.out).1
   rw [o] at HO_154002
   (try simp only [o])
   (try simp only [o] at d)
   cases gk with
   | zero => exact absurd HA.out (by simp [edit_pushed.l0])
   | succ k1 =>
    have H := HA.out
    clear HA
    simp only [edit_pushed.l0] at H
    by_cases c9 : c > 0
    ·rw [if_pos c9] at H
     have br : decide (0 < c) = true := decide_eq_true c9
     clear c9
     by_cases c10 : 0 ≤ c
     ·rw [if_pos c10] at H
      have bF : decide (0 ≤ c) = true := decide_eq_true c10
      clear c10
      by_cases ar : c < (l1.length : Int)
      ·rw [if_pos ar] at H
       have bG : decide (c < (l1.length : Int)) = true := decide_eq_true ar
       clear ar
       obtain ⟨b, X⟩ : ∃ j_ : Int, (wrap64 (c - 1)) = j_ := ⟨_, rfl⟩
       replace H : (if 0 ≤ (b) then (if (b) < (l1.length : Int) then (if 0 ≤ (rd l1 (b)) then (if (rd l1 (b)) < (a.length : Int) then (if 0 ≤ (rd l1 c) then (if (rd l1 c) < (a.length : Int) then (edit_pushed.l0 k1 l1 b s u (a.set ((rd l1 c) : Int).toNat (⟨(rd_T35 a (rd l1 (b))).f0, (⟨(rd_T35 a (rd l1 (b))).f1.f0, (rd_T35 a (rd l1 (b))).f1.f1, (rd_T35 a (rd l1 (b))).f1.f2, (rd_T35 a (rd l1 (b))).f1.f3⟩ : S33), (rd_T35 a (rd l1 (b))).f2⟩ : S35)) x y z) else (none)) else (none)) else (none)) else (none)) else (none)) else (none)) = some (r1, r2) := by first | (rw [X] at H; exact H) | (simp only [X] at H ⊢; exact H)
       have bD : (IntKind.i64.wrap (c - 1)) = b := (i64_w _).trans X
       by_cases au : 0 ≤ (b)
       ·rw [if_pos au] at H
        have bH : decide (0 ≤ (b)) = true := decide_eq_true au
        clear au
        by_cases av : (b) < (l1.length : Int)
        ·rw [if_pos av] at H
         have bI : decide ((b) < (l1.length : Int)) = true := decide_eq_true av
         clear av
         by_cases aw : 0 ≤ (rd l1 (b))
         ·rw [if_pos aw] at H
          have bJ : decide (0 ≤ (rd l1 (b))) = true := decide_eq_true aw
          clear aw
          by_cases ax : (rd l1 (b)) < (a.length : Int)
          ·rw [if_pos ax] at H
           have bK : decide ((rd l1 (b)) < (a.length : Int)) = true := decide_eq_true ax
           clear ax
           by_cases ay : 0 ≤ (rd l1 c)
           ·rw [if_pos ay] at H
            have bL : decide (0 ≤ (rd l1 c)) = true := decide_eq_true ay
            clear ay
            by_cases az : (rd l1 c) < (a.length : Int)
            ·rw [if_pos az] at H
             have bM : decide ((rd l1 c) < (a.length : Int)) = true := decide_eq_true az
             clear az
             obtain ⟨a2, F⟩ : ∃ y_ : List (S35), y_ = (a.set ((rd l1 c) : Int).toNat (⟨(rd_T35 a (rd l1 (b))).f0, (⟨(rd_T35 a (rd l1 (b))).f1.f0, (rd_T35 a (rd l1 (b))).f1.f1, (rd_T35 a (rd l1 (b))).f1.f2, (rd_T35 a (rd l1 (b))).f1.f3⟩ : S33), (rd_T35 a (rd l1 (b))).f2⟩ : S35)) := ⟨_, rfl⟩
             replace H : (edit_pushed.l0 k1 l1 b s u a2 x y z) = some (r1, r2) := by first | (rw [F]; with_reducible exact H) | (have aG := (Option.bind_some _ _).symm.trans H; rw [F]; with_reducible exact aG) | (have aG := (Option.bind_some _ _).symm.trans H; with_reducible exact aG) | with_reducible exact H | (rw [F]; exact H) | exact H
             have a4 := Z F
             clear F
             have H' := Z H
             clear H
             try go_wp2
             have T := Z (Kd.R_drew HO_154002.out)
             have U := Z (blk_drew d.out)
             have V := Z (Kept.drew HK.out)
             have W := Z (below_drew1 HB.out)
             clear HO_154002
             clear d
             clear HK
             clear HB
             have HO_154002 := T
             have d := U
             have HK := V
             have HB := W
             clear T U V W
             have ad : 0 ≤ (c : Int) := od_
             have af : c < (l1.length : Int) := od_
             obtain ⟨ac, bs, aa⟩ := Kd.at_int (Kd.C_kept_now Y.out HK.out) c ad af
             have bx := aa
             cases bs
             replace ad := eq_true ad
             replace af := eq_true af
             have ae : 0 ≤ ((b) : Int) := od_
             have ag : (b) < (l1.length : Int) := od_
             obtain ⟨a5, bt, ab⟩ := Kd.at_int (Kd.C_kept_now Y.out HK.out) (b) ae ag
             have bz := ab
             obtain rfl : ac = a5 := (by injection bt)
             replace ae := eq_true ae
             replace ag := eq_true ag
             have al : 0 ≤ ((rd l1 (b)) : Int) := od_
             have am : (rd l1 (b)) < (a.length : Int) := od_
             obtain ⟨bE, bu, J, L, M, O, P, Q⟩ := at_T35 (Kd.R_reads' HO_154002.out).2.2 (rd l1 (b)) al am
             cases bu
             replace al := eq_true al
             replace am := eq_true am
             have a0 : 0 ≤ ((rd l1 c) : Int) := od_
             have a1 : ((rd l1 c) : Int) < ((a.length : Int) : Int) := od_
             obtain ⟨l, bQ, aK, aL, bw, bP, aH⟩ := Kd.R_form HO_154002.out (by omega)
             (first | cases aK | (injection aK with ea_ en_ ec_; (first | subst ea_ | (injection ea_ with ea_; subst ea_)); subst ec_; clear en_))
             have I := Z aL
             have bq := Z aH
             clear aL bw aH
             have g := Z (show (q l ∨ w.heap.size ≤ l) from (HO_154002.out.1 _ rfl))
             (first | simp only [add_plain] at J | skip)
             (first | simp only [add_plain] at L | skip)
             (first | simp only [add_plain] at M | skip)
             (first | simp only [add_plain] at O | skip)
             (first | simp only [add_plain] at P | skip)
             (first | simp only [add_plain] at Q | skip)
             obtain ⟨bN, a6, aM, D, E⟩ := Kd.R_elem HO_154002.out z35 ((rd l1 c) : Int) a0 a1
             obtain rfl := k35_openM aM
             have aU : World.cell? _ ⟨l, ((rd l1 c) : Int).toNat * 6, none⟩ = some (.bool ((rd_T35 a (rd l1 c)).f0)) := D 0 _ rfl
             have aV : World.cell? _ ⟨l, ((rd l1 c) : Int).toNat * 6 + 1, none⟩ = some (.bool ((rd_T35 a (rd l1 c)).f1.f0)) := D 1 _ rfl
             have aW : World.cell? _ ⟨l, ((rd l1 c) : Int).toNat * 6 + 2, none⟩ = some (.bool ((rd_T35 a (rd l1 c)).f1.f1)) := D 2 _ rfl
             have aX : World.cell? _ ⟨l, ((rd l1 c) : Int).toNat * 6 + 3, none⟩ = some (.int .i64 ((rd_T35 a (rd l1 c)).f1.f2)) := D 3 _ rfl
             have aY : World.cell? _ ⟨l, ((rd l1 c) : Int).toNat * 6 + 4, none⟩ = some (.bool ((rd_T35 a (rd l1 c)).f1.f3)) := D 4 _ rfl
             have aZ : World.cell? _ ⟨l, ((rd l1 c) : Int).toNat * 6 + 5, none⟩ = some (.int .u8 ((rd_T35 a (rd l1 c)).f2)) := D 5 _ rfl
             have aO : World.frozen? _ ⟨l, ((rd l1 c) : Int).toNat * 6, none⟩ = false := E 0
             have aP : World.frozen? _ ⟨l, ((rd l1 c) : Int).toNat * 6 + 1, none⟩ = false := E 1
             have aQ : World.frozen? _ ⟨l, ((rd l1 c) : Int).toNat * 6 + 2, none⟩ = false := E 2
             have aR : World.frozen? _ ⟨l, ((rd l1 c) : Int).toNat * 6 + 3, none⟩ = false := E 3
             have aS : World.frozen? _ ⟨l, ((rd l1 c) : Int).toNat * 6 + 4, none⟩ = false := E 4
             have aT : World.frozen? _ ⟨l, ((rd l1 c) : Int).toNat * 6 + 5, none⟩ = false := E 5
             clear a6 D E aM
             replace a0 := eq_true a0
             replace a1 := eq_true a1
             obtain ⟨bO, aB, aN, aA, a7⟩ := Kd.R_elem HO_154002.out z35 ((rd l1 c) : Int) (od_) (by have h_ : ((rd l1 c) : Int) < ((a.length : Int) : Int) := od_; first | exact h_ | (have e_ := (Kd.R_reads' HO_154002.out).1; omega) | simpa using h_)
             obtain rfl := k35_openM aN
             have ak := (Kd.R_seg HO_154002.out ((rd l1 c) : Int) (od_) (by have h_ : ((rd l1 c) : Int) < ((a.length : Int) : Int) := od_; first | exact h_ | (have e_ := (Kd.R_reads' HO_154002.out).1; omega) | simpa using h_) (seg := [.bool ((rd_T35 a (rd l1 (b))).f0), .bool ((rd_T35 a (rd l1 (b))).f1.f0), .bool ((rd_T35 a (rd l1 (b))).f1.f1), .int .i64 ((rd_T35 a (rd l1 (b))).f1.f2), .bool ((rd_T35 a (rd l1 (b))).f1.f3), .int .u8 ((rd_T35 a (rd l1 (b))).f2)]) (j := 0) aB aA (show 6 ≤ 6 from by decide) (x' := (⟨(rd_T35 a (rd l1 (b))).f0, (⟨(rd_T35 a (rd l1 (b))).f1.f0, (rd_T35 a (rd l1 (b))).f1.f1, (rd_T35 a (rd l1 (b))).f1.f2, (rd_T35 a (rd l1 (b))).f1.f3⟩ : S33), (rd_T35 a (rd l1 (b))).f2⟩ : S35)) (k35_mkM _ _ _ (⟨(rd_T35 a (rd l1 (b))).f0, (⟨(rd_T35 a (rd l1 (b))).f1.f0, (rd_T35 a (rd l1 (b))).f1.f1, (rd_T35 a (rd l1 (b))).f1.f2, (rd_T35 a (rd l1 (b))).f1.f3⟩ : S33), (rd_T35 a (rd l1 (b))).f2⟩ : S35) ) (fun _ hk => hk)).1
             rw [← a4.out] at ak
             have aI := Z ak
             clear aB aA a7 aN ak
             refine start_ (n := 17) (S := fun w' => w'.cell? ⟨m, 0, none⟩ = some (.int .i64 s) ∧ w'.cell? ⟨m, 1, none⟩ = some (.int .i64 u) ∧ w'.cell? ⟨m, 2, none⟩ = some (.slice (some ⟨l, 0, none⟩) a.length ah) ∧ w'.cell? ⟨m, 3, none⟩ = some (.int .i64 x) ∧ w'.cell? ⟨m, 4, none⟩ = some (.bool y) ∧ w'.cell? ⟨m, 5, none⟩ = some (.bool z) ∧ w'.cell? (ac.add (c).toNat) = some (.int .i64 (rd l1 c)) ∧ w'.cell? (ac.add ((b)).toNat) = some (.int .i64 (rd l1 (b))) ∧ w'.cell? ⟨l, (((rd l1 (b))).toNat * 6), none⟩ = some (.bool ((rd_T35 a (rd l1 (b))).f0)) ∧ w'.cell? ⟨l, (((rd l1 (b))).toNat * 6) + 1, none⟩ = some (.bool ((rd_T35 a (rd l1 (b))).f1.f0)) ∧ w'.cell? ⟨l, (((rd l1 (b))).toNat * 6) + 2, none⟩ = some (.bool ((rd_T35 a (rd l1 (b))).f1.f1)) ∧ w'.cell? ⟨l, (((rd l1 (b))).toNat * 6) + 3, none⟩ = some (.int .i64 ((rd_T35 a (rd l1 (b))).f1.f2)) ∧ w'.cell? ⟨l, (((rd l1 (b))).toNat * 6) + 4, none⟩ = some (.bool ((rd_T35 a (rd l1 (b))).f1.f3)) ∧ w'.cell? ⟨l, (((rd l1 (b))).toNat * 6) + 5, none⟩ = some (.int .u8 ((rd_T35 a (rd l1 (b))).f2))) (ds := [16]) (bv 17 0) (by kernel_rfl) rfl rfl ⟨(blk_cell d.out 0).trans rfl, (blk_cell d.out 1).trans rfl, (blk_cell d.out 2).trans rfl, (blk_cell d.out 3).trans rfl, (blk_cell d.out 4).trans rfl, (blk_cell d.out 5).trans rfl, (Kd.foot_int (Y.out _ (by repeat (first | exact HK.out | apply Kept.alloc | apply Kept.drewN | apply Kept.drew | refine Kept.setCell ?_ g.out _ | refine Kept.setCell ?_ g.out _ | refine Kept.setCell ?_ g.out _ | refine Kept.setCell ?_ g.out _ | refine Kept.setCell ?_ g.out _ | refine Kept.setCell ?_ g.out _))) c (of_eq_true ad) (of_eq_true af)), (Kd.foot_int (Y.out _ (by repeat (first | exact HK.out | apply Kept.alloc | apply Kept.drewN | apply Kept.drew | refine Kept.setCell ?_ g.out _ | refine Kept.setCell ?_ g.out _ | refine Kept.setCell ?_ g.out _ | refine Kept.setCell ?_ g.out _ | refine Kept.setCell ?_ g.out _ | refine Kept.setCell ?_ g.out _))) (b) (of_eq_true ae) (of_eq_true ag)), J, L, M, O, P, Q⟩ (fun hHeld => ?_); refine with_tabW edit_pushed.tab7 edit_pushed.bits7 (fun HT_ HW_ => ?_)
             generalize wr.drew = bV at HO_154002 d HK HB bq aI aO aP aQ aR aS aT aa ab J L M O P Q aU aV aW aX aY aZ hHeld ⊢
             refine pure_ (i := 0) (N := some 17) (v := ?_) (a' := ?_) (bv 17 1) rfl rfl (any_of HT_.out (by kernel_rfl)) (fun _ _ _ h => h) (Or.inl ⟨by rfl, ?_⟩) ?_ ?_
             rotate_left
             ·intro w'
              go_simp
              with_reducible rfl
             rotate_left
             ·simp only [Act.put, sA, sB, sC, i64_w, i32_w]
              rfl
             refine pure_ (i := 2) (N := some 19) (v := ?_) (a' := ?_) (bv 17 5) rfl rfl (any_of HT_.out (by kernel_rfl)) (fun _ _ _ h => h) (Or.inl ⟨by rfl, ?_⟩) ?_ ?_
             rotate_left
             ·intro w'
              go_simp
              with_reducible rfl
             rotate_left
             ·simp only [Act.put, sA, sB, sC, i64_w, i32_w]
              rfl
             refine pure_ (i := 3) (N := some 20) (v := ?_) (a' := ?_) (bv 17 13) rfl rfl (any_of HT_.out (by kernel_rfl)) (fun _ _ _ h => h) (Or.inl ⟨by rfl, ?_⟩) ?_ ?_
             rotate_left
             ·intro w'
              go_simp
              with_reducible rfl
             rotate_left
             ·simp only [Act.put, sA, sB, sC, i64_w, i32_w]
              rfl
             refine pure_ (i := 4) (N := some 21) (v := ?_) (a' := ?_) (bv 17 29) rfl rfl (any_of HT_.out (by kernel_rfl)) (fun _ _ _ h => h) (Or.inl ⟨by rfl, ?_⟩) ?_ ?_
             rotate_left
             ·intro w'
              go_simp
              with_reducible rfl
             rotate_left
             ·simp only [Act.put, sA, sB, sC, i64_w, i32_w]
              rfl
             refine pure_ (i := 6) (N := some 23) (v := ?_) (a' := ?_) (bv 17 93) rfl rfl (any_of HT_.out (by kernel_rfl)) (fun _ _ _ h => h) (Or.inl ⟨by rfl, ?_⟩) ?_ ?_
             rotate_left
             ·intro w'
              go_simp
              with_reducible rfl
             rotate_left
             ·simp only [Act.put, sA, sB, sC, i64_w, i32_w]
              rfl
             refine pure_ (i := 8) (N := some 25) (v := ?_) (a' := ?_) (bv 17 349) rfl rfl (any_of HT_.out (by kernel_rfl)) (fun _ _ _ h => h) (Or.inl ⟨by rfl, ?_⟩) ?_ ?_
             rotate_left
             ·intro w'
              go_simp
              with_reducible rfl
             rotate_left
             ·simp only [Act.put, sA, sB, sC, i64_w, i32_w]
              rfl
             refine pure_ (i := 9) (N := some 26) (v := ?_) (a' := ?_) (bv 17 861) rfl rfl (any_of HT_.out (by kernel_rfl)) (fun _ _ _ h => h) (Or.inl ⟨by rfl, ?_⟩) ?_ ?_
             rotate_left
             ·intro w'
              go_simp
              with_reducible rfl
             rotate_left
             ·simp only [Act.put, sA, sB, sC, i64_w, i32_w]
              rfl
             refine pure_ (i := 10) (N := some 27) (v := ?_) (a' := ?_) (bv 17 1885) rfl rfl (any_of HT_.out (by kernel_rfl)) (fun _ _ _ h => h) (Or.inl ⟨by rfl, ?_⟩) ?_ ?_
             rotate_left
             ·intro w'
              go_simp
              with_reducible rfl
             rotate_left
             ·simp only [Act.put, sA, sB, sC, i64_w, i32_w]
              rfl
             refine pure_ (i := 11) (N := some 28) (v := ?_) (a' := ?_) (bv 17 3933) rfl rfl (any_of HT_.out (by kernel_rfl)) (fun _ _ _ h => h) (Or.inl ⟨by rfl, ?_⟩) ?_ ?_
             rotate_left
             ·intro w'
              go_simp
              with_reducible rfl
             rotate_left
             ·simp only [Act.put, sA, sB, sC, i64_w, i32_w]
              rfl
             refine take_ (i := 1) (N := some 18) (v := ?_) (a' := ?_) (bv 17 3935) rfl rfl (take_ofW HT_.out HW_.out (by kernel_rfl)) (fun _ _ _ h => h) (Or.inl ⟨by rfl, ?_⟩) hHeld ?_ ?_
             rotate_left
             ·rintro w' ⟨s0, s1, s2, s3, s4, s5, s6, s7, s8, s9, aC, aD, aE, aF⟩
              go_simp
              with_reducible rfl
             rotate_left
             ·simp only [Act.put, sA, sB, sC, i64_w, i32_w]
              rfl
             refine take_ (i := 5) (N := some 22) (v := ?_) (a' := ?_) (bv 17 3967) rfl rfl (take_ofW HT_.out HW_.out (by kernel_rfl)) (fun _ _ _ h => h) (Or.inl ⟨by rfl, ?_⟩) hHeld ?_ ?_
             rotate_left
             ·rintro w' ⟨s0, s1, s2, s3, s4, s5, s6, s7, s8, s9, aC, aD, aE, aF⟩
              go_simp
              with_reducible rfl
             rotate_left
             ·simp only [Act.put, sA, sB, sC, i64_w, i32_w]
              rfl
             refine take_ (i := 7) (N := some 24) (v := ?_) (a' := ?_) (bv 17 4095) rfl rfl (take_ofW HT_.out HW_.out (by kernel_rfl)) (fun _ _ _ h => h) (Or.inl ⟨by rfl, ?_⟩) hHeld ?_ ?_
             rotate_left
             ·rintro w' ⟨s0, s1, s2, s3, s4, s5, s6, s7, s8, s9, aC, aD, aE, aF⟩
              go_simp
              with_reducible rfl
             rotate_left
             ·simp only [Act.put, sA, sB, sC, i64_w, i32_w]
              rfl
             refine take_ (i := 12) (N := some 29) (v := ?_) (a' := ?_) (bv 17 8191) rfl rfl (take_ofW HT_.out HW_.out (by kernel_rfl)) (fun _ _ _ h => h) (Or.inl ⟨by rfl, ?_⟩) hHeld ?_ ?_
             rotate_left
             ·rintro w' ⟨s0, s1, s2, s3, s4, s5, s6, s7, s8, s9, aC, aD, aE, aF⟩
              go_simp
              with_reducible rfl
             rotate_left
             ·simp only [Act.put, sA, sB, sC, i64_w, i32_w]
              rfl
             refine pure_ (i := 13) (N := some 30) (v := ?_) (a' := ?_) (bv 17 16383) rfl rfl (any_of HT_.out (by kernel_rfl)) (fun _ _ _ h => h) (Or.inl ⟨by rfl, ?_⟩) ?_ ?_
             rotate_left
             ·intro w'
              go_simp
              with_reducible rfl
             rotate_left
             ·simp only [Act.put, sA, sB, sC, i64_w, i32_w]
              rfl
             refine take_ (i := 14) (N := some 31) (v := ?_) (a' := ?_) (bv 17 32767) rfl rfl (take_ofW HT_.out HW_.out (by kernel_rfl)) (fun _ _ _ h => h) (Or.inl ⟨by rfl, ?_⟩) hHeld ?_ ?_
             rotate_left
             ·rintro w' ⟨s0, s1, s2, s3, s4, s5, s6, s7, s8, s9, aC, aD, aE, aF⟩
              go_simp
              with_reducible rfl
             rotate_left
             ·simp only [Act.put, sA, sB, sC, i64_w, i32_w]
              rfl
             refine pure_ (i := 15) (N := some 32) (v := ?_) (a' := ?_) (bv 17 65535) rfl rfl (any_of HT_.out (by kernel_rfl)) (fun _ _ _ h => h) (Or.inl ⟨by rfl, ?_⟩) ?_ ?_
             rotate_left
             ·intro w'
              go_simp
              with_reducible rfl
             rotate_left
             ·simp only [Act.put, sA, sB, sC, i64_w, i32_w]
              rfl
             refine last_ (i := 16) (N := none) (bv 17 131071) rfl rfl (one_of HT_.out (by kernel_rfl)) (by decide) (fun K hK => ?_)
             refine skip_ (w1 := ?_) (by rfl) rfl ?_ ?_
             rotate_left
             ·go_simp
              rfl
             refine hK.out _ _ ?_
             clear hK K
             refine done_ (done_of HT_.out (by kernel_rfl)) ?_
             try go_wp2
             (try simp only [← o])
             go_roundg k1
             case measure => have := bm.out; omega
             case rel => exact ⟨(b), (a2), (by first | rfl | (simp; done) | (simp only [← X] <;> (first | rfl | simp)) | (simp [*]; done)), H', ⟨by have := bm.out; omega⟩, ⟨by (try simp only [o]); (with_reducible repeat apply pR); exact aI.out⟩, ⟨by (try simp only [o]); (with_reducible repeat apply pK); refine blk_far ?_ (by have h_ := Kd.R_ne HO_154002.out d.out (by decide); intro e_; exact h_ (by rw [e_]; rfl)) _; (with_reducible repeat apply pK); refine blk_far ?_ (by have h_ := Kd.R_ne HO_154002.out d.out (by decide); intro e_; exact h_ (by rw [e_]; rfl)) _; (with_reducible repeat apply pK); refine blk_far ?_ (by have h_ := Kd.R_ne HO_154002.out d.out (by decide); intro e_; exact h_ (by rw [e_]; rfl)) _; (with_reducible repeat apply pK); refine blk_far ?_ (by have h_ := Kd.R_ne HO_154002.out d.out (by decide); intro e_; exact h_ (by rw [e_]; rfl)) _; (with_reducible repeat apply pK); refine blk_far ?_ (by have h_ := Kd.R_ne HO_154002.out d.out (by decide); intro e_; exact h_ (by rw [e_]; rfl)) _; (with_reducible repeat apply pK); refine blk_far ?_ (by have h_ := Kd.R_ne HO_154002.out d.out (by decide); intro e_; exact h_ (by rw [e_]; rfl)) _; (with_reducible repeat apply pK); exact d.out⟩, ⟨by repeat (first | (with_reducible first | exact HK.out | apply Kept.alloc | apply Kept.drewN | apply Kept.drew | refine Kept.setCell ?_ g.out _ | refine Kept.setCell ?_ g.out _ | refine Kept.setCell ?_ g.out _ | refine Kept.setCell ?_ g.out _ | refine Kept.setCell ?_ g.out _ | refine Kept.setCell ?_ g.out _ | refine Kept.setCell ?_ (.inr B.out) _) | exact HK.out)⟩, ⟨by repeat (first | (with_reducible first | exact HB.out | apply below_alloc | apply pw_below_drewN | apply below_drew1 | refine below_set ?_ I.out | refine below_set ?_ I.out | refine below_set ?_ I.out | refine below_set ?_ I.out | refine below_set ?_ I.out | refine below_set ?_ I.out | refine below_set ?_ aq.out) | exact HB.out)⟩⟩
            ·rw [if_neg az] at H
             exact absurd H (by simp)
           ·rw [if_neg ay] at H
            exact absurd H (by simp)
          ·rw [if_neg ax] at H
           exact absurd H (by simp)
         ·rw [if_neg aw] at H
          exact absurd H (by simp)
        ·rw [if_neg av] at H
         exact absurd H (by simp)
       ·rw [if_neg au] at H
        exact absurd H (by simp)
      ·rw [if_neg ar] at H
       exact absurd H (by simp)
     ·rw [if_neg c10] at H
      exact absurd H (by simp)
    ·rw [if_neg c9] at H
     have br : decide (0 < c) = false := decide_eq_false c9
     clear c9
     simp only [Option.some.injEq, Prod.mk.injEq] at H
     obtain ⟨rfl, rfl⟩ := H
     go_wp2
     go_ret
     exact ⟨er_, (by first | exact (by (with_reducible repeat apply pR); exact HO_154002.out) | (simp only [o]; exact (by (with_reducible repeat apply pR); exact HO_154002.out))), bl_, by repeat (first | (with_reducible first | exact HK.out | apply Kept.alloc | apply Kept.drewN | apply Kept.drew | refine Kept.setCell ?_ (.inr B.out) _) | exact HK.out)⟩

/-! ### grid_On: function 80 -/
def grid_On.f (b : Int) (c : Int) (a : List (S35)) (d : Int) (e : Bool) (g : Bool) (a1 : Int) (h : Int) : Option (Int) := if (a.length : Int) = 0 then (none) else (some (Int.tmod (wrap64 ((wrap64 (a1 + (Int.tmod h (a.length : Int)))) + (a.length : Int))) (a.length : Int)))
set_option maxHeartbeats 8000000 in
set_option maxRecDepth 100000 in
theorem grid_On.calls (c : Int) (d : Int) (b : Option Addr) (k : Nat) (a : List (S35)) (g : Int) (i : Bool) (j : Bool) (a1 : Int) (v : Int) (r : Int) (w : World) (n : Kd.C k35 w b a.length a) (m : a.length ≤ k) (h : grid_On.f c d a g i j a1 v = some r) :
  Calls Tryd.prog 80 #[.agg #[.int .i64 c, .int .i64 d, .slice b a.length k, .int .i64 g, .bool i, .bool j], .int .i64 a1, .int .i64 v] w fun e w' => e = .returned (.int .i64 r) ∧ Below w.heap.size w w' := by
 have T := Tryd.underlying24
 have P := Z n
 have O := Z m
 clear n m
 have HB := Z (Below.refl w.heap.size w)
 have H : (if (a.length : Int) = 0 then (none) else (some (Int.tmod (wrap64 ((wrap64 (a1 + (Int.tmod v (a.length : Int)))) + (a.length : Int))) (a.length : Int)))) = some r := h
 clear h
 by_cases c4 : (a.length : Int) = 0
 ·rw [if_pos c4] at H
  exact absurd H (by simp)
 ·rw [if_neg c4] at H
  have Q : ((a.length : Int) == 0) = false := beq_eq_false_iff_ne.mpr c4
  have R : ((a.length : Int) != 0) = true := bne_iff_ne.mpr c4
  have S : ¬ (a = []) := fun h_ => c4 (by rw [h_]; rfl)
  obtain rfl := Option.some.inj H
  go_enter Tryd.func80, Tryd.ntmps80
  go_wp2_with (first | ((with_reducible refine gate_dst (N := 3) rfl ?_); refine bx_ 3 24 #[.int .i64 c, .int .i64 d, .slice b a.length k, .int .i64 g, .bool i, .bool j] ?_; intro l hg w5 hbox hb; have o := Z (hbox); have M := Z (ln_ hg : w.heap.size ≤ l); have L := Z (ln_ hg : w.heap.size ≤ l); replace HB := Z (below_step bl_ hb); clear hb hbox hg; obtain ⟨x, y, z, A, B, D, E, F, G, I, J, K⟩ := cells6 o.out))
  go_ret
  exact ⟨er_, bl_⟩

end Go.Proofs.YtggecanpjkpkiaaDoor.P
