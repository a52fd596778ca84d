
/- The functions of the seat's laws as plain Lean functions, and that Go's code comes to just their answers. Written by pp.py (wip/tools), a program of this session, on the kit's print. -/
import Derived.Test.YtggecanpjkpkiaaDoorPx0
import Derived.Test.YtggecanpjkpkiaaDoorPx3
import Derived.Test.YtggecanpjkpkiaaDoorPx4
import Derived.Test.YtggecanpjkpkiaaDoorPx5
import Derived.Test.YtggecanpjkpkiaaDoorPx9
namespace Go.Proofs.YtggecanpjkpkiaaDoor.P
open Go.RowKit Go.Proofs.YtggecanpjkpkiaaDoorW.PrintWords Go.Proofs.YtggecanpjkpkiaaDoorW.PrintLast Go.Proofs.YtggecanpjkpkiaaDoorW.PrintMore
attribute [local go_sem] max2_int min2_int max_two min_two max_three min_three max_four min_four   -- for this text's walks alone
attribute [local go_sem] Instr.field asAgg
set_option linter.unusedVariables false
set_option linter.unusedSimpArgs false

theorem V_ne_10 {α : Type} {d : Kd α} {e base g n c : Nat} {ok : Nat → Prop} {W : World} {ad : Addr} {xs : List α} (h : Kd.V d e W base ok (.slice (some ad) n c) xs) (hg : ∀ k, ok k → k ≠ g) (hn : 0 < n) (hs : 0 < d.sz) : ad.block ≠ g := by
 intro he
 have hl := (Kd.V_at h).1
 have hC : d.C { W with heap := W.heap.setIfInBounds g (.cells #[] 0) } (some ad) xs.length xs := (Kd.V_at h).2.2 _ (fun k hk _ => by simp [Ne.symm (hg k hk)])
 obtain ⟨ad', hea, hc⟩ := hC.2.2 (by omega)
 injection hea with hea
 subst hea
 obtain ⟨cl, hcl, _, hcell⟩ := hc 0 _ (List.getElem?_eq_getElem (by omega))
 have a := hcell 0 _ (List.getElem?_eq_getElem (by omega))
 rw [Nat.zero_mul, Nat.zero_add, Addr.add_zero'] at a
 subst he
 by_cases hlt : ad.block < W.heap.size <;> simp [World.cell?, hlt] at a
/-! ### shutterlaw14_awake: function 30 -/
def shutterlaw14_awake.f (k : Nat)  : Option (Bool) := (some (([(⟨true, (⟨false, false, 0, false⟩ : S33), 0⟩ : S35), (⟨false, (⟨false, false, 0, false⟩ : S33), 0⟩ : S35), (⟨false, (⟨false, false, 0, false⟩ : S33), 0⟩ : S35)] : List (S35)) : List (S35))).bind fun d => ((edit_Type.f k 1 3 d 1 false false 193).bind fun a => ((edit_Type.f k a.1 a.2.1 a.2.2.1 a.2.2.2.1 a.2.2.2.2.1 a.2.2.2.2.2.1 0).bind fun c => ((edit_Type.f k 1 3 d 0 false false 193).bind fun b => (if (a.2.2.1.length : Int) = 3 then (if (b.2.2.1.length : Int) = 3 then (if (c.2.2.1.length : Int) = 3 then (if a.2.2.2.2.2.2.1.isNone = true then (if 1 < (a.2.2.1.length : Int) then (if ((rd_T35 a.2.2.1 1).f2) = 193 then (if 0 < (a.2.2.1.length : Int) then (if (rd_T35 a.2.2.1 0).f1.f3 = true then (if a.2.2.2.1 = 2 then ((api_Code.f c.2.2.2.2.2.2.1 c.2.2.2.2.2.2.2).bind fun e => (if e = 3 then ((api_Code.f b.2.2.2.2.2.2.1 b.2.2.2.2.2.2.2).bind fun g => (if g = 8 then (if b.2.2.2.2.1 = true then ((edit_Digit.f 240).bind fun h => (if h = true then ((edit_Line.f k a.1 a.2.1 a.2.2.1 a.2.2.2.1 a.2.2.2.2.1 a.2.2.2.2.2.1 1).bind fun i => (some ((i.length : Int) == 2))) else (none))) else (none)) else (none))) else (none))) else (none)) else (none)) else (none)) else (none)) else (none)) else (none)) else (some false)) else (none)) else (none)))))
theorem shutterlaw14_awake.mono : ∀ k, LeO (shutterlaw14_awake.f k ) (shutterlaw14_awake.f (k + 1) ) := by
 intro  k
 unfold shutterlaw14_awake.f
 repeat' first
   | (with_reducible exact edit_Line.mono _ _ _ _ _ _ _ _)
   | (with_reducible exact edit_Type.mono _ _ _ _ _ _ _ _)
   | (with_reducible exact LeO.refl _)
   | (with_reducible exact LeO.none _)
   | (with_reducible refine LeO.ite ?_ ?_)
   | (with_reducible refine LeO.bind ?_ (fun _ => ?_))
   | exact edit_Line.mono _ _ _ _ _ _ _ _
   | exact edit_Type.mono _ _ _ _ _ _ _ _
   | exact LeO.none _
   | refine LeO.ite ?_ ?_
   | refine LeO.bind ?_ (fun _ => ?_)
set_option maxHeartbeats 8000000 in
set_option maxRecDepth 100000 in
theorem shutterlaw14_awake.calls (k : Nat)  (r : Bool) (w : World) (hG : LaidG w) (h : shutterlaw14_awake.f k  = some r) :
  Calls Tryd.prog 30 #[] w fun e w' => e = .returned (.bool r) ∧ Below w.heap.size w w' := by
 have HG := Z hG
 clear hG
 have iw := Tryd.underlying35
 have iu := Tryd.underlying24
 have iv := Tryd.underlying28
 have ix := Tryd.underlying52
 have HB := Z (Below.refl w.heap.size w)
 have H : ((some (([(⟨true, (⟨false, false, 0, false⟩ : S33), 0⟩ : S35), (⟨false, (⟨false, false, 0, false⟩ : S33), 0⟩ : S35), (⟨false, (⟨false, false, 0, false⟩ : S33), 0⟩ : S35)] : List (S35)) : List (S35))).bind fun G => ((edit_Type.f k 1 3 G 1 false false 193).bind fun F => ((edit_Type.f k F.1 F.2.1 F.2.2.1 F.2.2.2.1 F.2.2.2.2.1 F.2.2.2.2.2.1 0).bind fun aV => ((edit_Type.f k 1 3 G 0 false false 193).bind fun aA => (if (F.2.2.1.length : Int) = 3 then (if (aA.2.2.1.length : Int) = 3 then (if (aV.2.2.1.length : Int) = 3 then (if F.2.2.2.2.2.2.1.isNone = true then (if 1 < (F.2.2.1.length : Int) then (if ((rd_T35 F.2.2.1 1).f2) = 193 then (if 0 < (F.2.2.1.length : Int) then (if (rd_T35 F.2.2.1 0).f1.f3 = true then (if F.2.2.2.1 = 2 then ((api_Code.f aV.2.2.2.2.2.2.1 aV.2.2.2.2.2.2.2).bind fun aM => (if aM = 3 then ((api_Code.f aA.2.2.2.2.2.2.1 aA.2.2.2.2.2.2.2).bind fun aI => (if aI = 8 then (if aA.2.2.2.2.1 = true then ((edit_Digit.f 240).bind fun aC => (if aC = true then ((edit_Line.f k F.1 F.2.1 F.2.2.1 F.2.2.2.1 F.2.2.2.2.1 F.2.2.2.2.2.1 1).bind fun aq => (some ((aq.length : Int) == 2))) else (none))) else (none)) else (none))) else (none))) else (none)) else (none)) else (none)) else (none)) else (none)) else (none)) else (some false)) else (none)) else (none)))))) = some r := h
 clear h
 obtain ⟨G, bv⟩ : ∃ y_ : List (S35), y_ = (([(⟨true, (⟨false, false, 0, false⟩ : S33), 0⟩ : S35), (⟨false, (⟨false, false, 0, false⟩ : S33), 0⟩ : S35), (⟨false, (⟨false, false, 0, false⟩ : S33), 0⟩ : S35)] : List (S35))) := ⟨_, rfl⟩
 replace H : ((edit_Type.f k 1 3 G 1 false false 193).bind fun F => ((edit_Type.f k F.1 F.2.1 F.2.2.1 F.2.2.2.1 F.2.2.2.2.1 F.2.2.2.2.2.1 0).bind fun aV => ((edit_Type.f k 1 3 G 0 false false 193).bind fun aA => (if (F.2.2.1.length : Int) = 3 then (if (aA.2.2.1.length : Int) = 3 then (if (aV.2.2.1.length : Int) = 3 then (if F.2.2.2.2.2.2.1.isNone = true then (if 1 < (F.2.2.1.length : Int) then (if ((rd_T35 F.2.2.1 1).f2) = 193 then (if 0 < (F.2.2.1.length : Int) then (if (rd_T35 F.2.2.1 0).f1.f3 = true then (if F.2.2.2.1 = 2 then ((api_Code.f aV.2.2.2.2.2.2.1 aV.2.2.2.2.2.2.2).bind fun aM => (if aM = 3 then ((api_Code.f aA.2.2.2.2.2.2.1 aA.2.2.2.2.2.2.2).bind fun aI => (if aI = 8 then (if aA.2.2.2.2.1 = true then ((edit_Digit.f 240).bind fun aC => (if aC = true then ((edit_Line.f k F.1 F.2.1 F.2.2.1 F.2.2.2.1 F.2.2.2.2.1 F.2.2.2.2.2.1 1).bind fun aq => (some ((aq.length : Int) == 2))) else (none))) else (none)) else (none))) else (none))) else (none)) else (none)) else (none)) else (none)) else (none)) else (none)) else (some false)) else (none)) else (none))))) = some r := by first | (rw [bv]; with_reducible exact H) | (have b6 := (Option.bind_some _ _).symm.trans H; rw [bv]; with_reducible exact b6) | (have b6 := (Option.bind_some _ _).symm.trans H; with_reducible exact b6) | with_reducible exact H | (rw [bv]; exact H) | exact H
 have bC := Z bv
 clear bv
 replace H := Option.bind_eq_some_iff.mp H
 obtain ⟨⟨am, an, q, L, ao, ap, bM, bq⟩, cl, H⟩ := H
 replace H : ((edit_Type.f k am an q L ao ap 0).bind fun aV => ((edit_Type.f k 1 3 G 0 false false 193).bind fun aA => (if (q.length : Int) = 3 then (if (aA.2.2.1.length : Int) = 3 then (if (aV.2.2.1.length : Int) = 3 then (if bM.isNone = true then (if 1 < (q.length : Int) then (if ((rd_T35 q 1).f2) = 193 then (if 0 < (q.length : Int) then (if (rd_T35 q 0).f1.f3 = true then (if L = 2 then ((api_Code.f aV.2.2.2.2.2.2.1 aV.2.2.2.2.2.2.2).bind fun aM => (if aM = 3 then ((api_Code.f aA.2.2.2.2.2.2.1 aA.2.2.2.2.2.2.2).bind fun aI => (if aI = 8 then (if aA.2.2.2.2.1 = true then ((edit_Digit.f 240).bind fun aC => (if aC = true then ((edit_Line.f k am an q L ao ap 1).bind fun aq => (some ((aq.length : Int) == 2))) else (none))) else (none)) else (none))) else (none))) else (none)) else (none)) else (none)) else (none)) else (none)) else (none)) else (some false)) else (none)) else (none)))) = some r := H
 have A1 := Z cl
 clear cl
 replace H := Option.bind_eq_some_iff.mp H
 obtain ⟨⟨bb, bc, aB, bd, be, bf, bg, aY⟩, bY, H⟩ := H
 replace H : ((edit_Type.f k 1 3 G 0 false false 193).bind fun aA => (if (q.length : Int) = 3 then (if (aA.2.2.1.length : Int) = 3 then (if (aB.length : Int) = 3 then (if bM.isNone = true then (if 1 < (q.length : Int) then (if ((rd_T35 q 1).f2) = 193 then (if 0 < (q.length : Int) then (if (rd_T35 q 0).f1.f3 = true then (if L = 2 then ((api_Code.f bg aY).bind fun aM => (if aM = 3 then ((api_Code.f aA.2.2.2.2.2.2.1 aA.2.2.2.2.2.2.2).bind fun aI => (if aI = 8 then (if aA.2.2.2.2.1 = true then ((edit_Digit.f 240).bind fun aC => (if aC = true then ((edit_Line.f k am an q L ao ap 1).bind fun aq => (some ((aq.length : Int) == 2))) else (none))) else (none)) else (none))) else (none))) else (none)) else (none)) else (none)) else (none)) else (none)) else (none)) else (some false)) else (none)) else (none))) = some r := H
 have A2 := Z bY
 clear bY
 replace H := Option.bind_eq_some_iff.mp H
 obtain ⟨⟨aE, aF, ax, aG, br, aH, bh, bi⟩, cm, H⟩ := H
 replace H : (if (q.length : Int) = 3 then (if (ax.length : Int) = 3 then (if (aB.length : Int) = 3 then (if bM.isNone = true then (if 1 < (q.length : Int) then (if ((rd_T35 q 1).f2) = 193 then (if 0 < (q.length : Int) then (if (rd_T35 q 0).f1.f3 = true then (if L = 2 then ((api_Code.f bg aY).bind fun aM => (if aM = 3 then ((api_Code.f bh bi).bind fun aI => (if aI = 8 then (if br = true then ((edit_Digit.f 240).bind fun aC => (if aC = true then ((edit_Line.f k am an q L ao ap 1).bind fun aq => (some ((aq.length : Int) == 2))) else (none))) else (none)) else (none))) else (none))) else (none)) else (none)) else (none)) else (none)) else (none)) else (none)) else (some false)) else (none)) else (none)) = some r := H
 have A3 := Z cm
 clear cm
 by_cases c4 : (q.length : Int) = 3
 ·rw [if_pos c4] at H
  have ig : ((q.length : Int) == 3) = true := beq_iff_eq.mpr c4
  have ih : ((q.length : Int) != 3) = false := bne_eq_false_iff_eq.mpr c4
  clear c4
  by_cases c5 : (ax.length : Int) = 3
  ·rw [if_pos c5] at H
   have ii : ((ax.length : Int) == 3) = true := beq_iff_eq.mpr c5
   have ij : ((ax.length : Int) != 3) = false := bne_eq_false_iff_eq.mpr c5
   clear c5
   by_cases c6 : (aB.length : Int) = 3
   ·rw [if_pos c6] at H
    have cp : ((aB.length : Int) == 3) = true := beq_iff_eq.mpr c6
    have cq : ((aB.length : Int) != 3) = false := bne_eq_false_iff_eq.mpr c6
    clear c6
    rcases bM with _ | cG
    ·have H1 : (if 1 < (q.length : Int) then (if ((rd_T35 q 1).f2) = 193 then (if 0 < (q.length : Int) then (if (rd_T35 q 0).f1.f3 = true then (if L = 2 then ((api_Code.f bg aY).bind fun aM => (if aM = 3 then ((api_Code.f bh bi).bind fun aI => (if aI = 8 then (if br = true then ((edit_Digit.f 240).bind fun aC => (if aC = true then ((edit_Line.f k am an q L ao ap 1).bind fun aq => (some ((aq.length : Int) == 2))) else (none))) else (none)) else (none))) else (none))) else (none)) else (none)) else (none)) else (none)) else (none)) = some r := by rw [if_pos (show (none : Option Er).isNone = true by rfl)] at H; exact H
     clear H
     have H := H1
     clear H1
     try simp only [errW_none, errW_some]
     by_cases c7 : 1 < (q.length : Int)
     ·rw [if_pos c7] at H
      have ik : decide (1 < (q.length : Int)) = true := decide_eq_true c7
      have il : decide (1 < q.length) = true := decide_eq_true (by omega)
      clear c7
      by_cases c8 : ((rd_T35 q 1).f2) = 193
      ·rw [if_pos c8] at H
       have im : (((rd_T35 q 1).f2) == 193) = true := beq_iff_eq.mpr c8
       have io : (((rd_T35 q 1).f2) != 193) = false := bne_eq_false_iff_eq.mpr c8
       clear c8
       by_cases c9 : 0 < (q.length : Int)
       ·rw [if_pos c9] at H
        have ip : decide (0 < (q.length : Int)) = true := decide_eq_true c9
        have iq : decide (0 < q.length) = true := decide_eq_true (by omega)
        clear c9
        obtain ⟨b7, bQ⟩ : ∃ b_ : Bool, b_ = ((rd_T35 q 0).f1.f3) := ⟨_, rfl⟩
        replace H : (if b7 = true then (if L = 2 then ((api_Code.f bg aY).bind fun aM => (if aM = 3 then ((api_Code.f bh bi).bind fun aI => (if aI = 8 then (if br = true then ((edit_Digit.f 240).bind fun aC => (if aC = true then ((edit_Line.f k am an q L ao ap 1).bind fun aq => (some ((aq.length : Int) == 2))) else (none))) else (none)) else (none))) else (none))) else (none)) else (none)) = some r := by rw [← bQ] at H; exact H
        have aQ := Z bQ
        clear bQ
        by_cases bZ : b7 = true
        ·subst bZ
         have H1 : (if L = 2 then ((api_Code.f bg aY).bind fun aM => (if aM = 3 then ((api_Code.f bh bi).bind fun aI => (if aI = 8 then (if br = true then ((edit_Digit.f 240).bind fun aC => (if aC = true then ((edit_Line.f k am an q L ao ap 1).bind fun aq => (some ((aq.length : Int) == 2))) else (none))) else (none)) else (none))) else (none))) else (none)) = some r := by rw [if_pos rfl] at H; exact H
         clear H
         have H := H1
         clear H1
         by_cases bR : L = 2
         ·rw [if_pos bR] at H
          have hH : (L == 2) = true := beq_iff_eq.mpr bR
          have hI : (L != 2) = false := bne_eq_false_iff_eq.mpr bR
          clear bR
          replace H := Option.bind_eq_some_iff.mp H
          obtain ⟨aM, b2, H⟩ := H
          replace H : (if aM = 3 then ((api_Code.f bh bi).bind fun aI => (if aI = 8 then (if br = true then ((edit_Digit.f 240).bind fun aC => (if aC = true then ((edit_Line.f k am an q L ao ap 1).bind fun aq => (some ((aq.length : Int) == 2))) else (none))) else (none)) else (none))) else (none)) = some r := H
          have hu := Z b2
          clear b2
          by_cases bS : aM = 3
          ·rw [if_pos bS] at H
           have hJ : (aM == 3) = true := beq_iff_eq.mpr bS
           have hK : (aM != 3) = false := bne_eq_false_iff_eq.mpr bS
           clear bS
           replace H := Option.bind_eq_some_iff.mp H
           obtain ⟨aI, b3, H⟩ := H
           replace H : (if aI = 8 then (if br = true then ((edit_Digit.f 240).bind fun aC => (if aC = true then ((edit_Line.f k am an q L ao ap 1).bind fun aq => (some ((aq.length : Int) == 2))) else (none))) else (none)) else (none)) = some r := H
           have hv := Z b3
           clear b3
           by_cases bT : aI = 8
           ·rw [if_pos bT] at H
            have hL : (aI == 8) = true := beq_iff_eq.mpr bT
            have hM : (aI != 8) = false := bne_eq_false_iff_eq.mpr bT
            clear bT
            by_cases b0 : br = true
            ·subst b0
             have H1 : ((edit_Digit.f 240).bind fun aC => (if aC = true then ((edit_Line.f k am an q L ao ap 1).bind fun aq => (some ((aq.length : Int) == 2))) else (none))) = some r := by rw [if_pos rfl] at H; exact H
             clear H
             have H := H1
             clear H1
             replace H := Option.bind_eq_some_iff.mp H
             obtain ⟨aC, b4, H⟩ := H
             replace H : (if aC = true then ((edit_Line.f k am an q L ao ap 1).bind fun aq => (some ((aq.length : Int) == 2))) else (none)) = some r := H
             have hx := Z b4
             clear b4
             by_cases b1 : aC = true
             ·subst b1
              have H1 : ((edit_Line.f k am an q L ao ap 1).bind fun aq => (some ((aq.length : Int) == 2))) = some r := by rw [if_pos rfl] at H; exact H
              clear H
              have H := H1
              clear H1
              replace H := Option.bind_eq_some_iff.mp H
              obtain ⟨aq, b5, H⟩ := H
              replace H : (some ((aq.length : Int) == 2)) = some r := H
              have bY := Z b5
              clear b5
              obtain rfl := Option.some.inj H
              go_enter Tryd.func30, Tryd.ntmps30
              go_wp2_with (first | ((with_reducible refine gate_dst (N := 11) rfl ?_); (try (refine gate_guard (by rfl) ?_; dsimp only)); refine Kd.R_lit k35 _ 35 ?hg (N := 11) ?hd (xs := ([(⟨true, (⟨false, false, 0, false⟩ : S33), 0⟩ : S35), (⟨false, (⟨false, false, 0, false⟩ : S33), 0⟩ : S35), (⟨false, (⟨false, false, 0, false⟩ : S33), 0⟩ : S35)] : List (S35))) (inner := [.bool true, .bool false, .bool false, .int .i64 0, .bool false, .int .u8 0, .bool false, .bool false, .bool false, .int .i64 0, .bool false, .int .u8 0, .bool false, .bool false, .bool false, .int .i64 0, .bool false, .int .u8 0]) (ok := fun _ => True) (okp := fun _ => True) ?hr ?hp (fun _ hk => hk) trivial (Below.refl _ _) (Nat.le_refl _) (by simp) ?_; (case hd => rfl); (case hg => rfl); (case hr => first | (go_simp; done) | (go_simp; rfl)); (case hp => exact (Reps.c6 (show Kd.M k35 _ _ _ (⟨true, (⟨false, false, 0, false⟩ : S33), 0⟩ : S35) [.bool true, .bool false, .bool false, .int .i64 0, .bool false, .int .u8 0] from (k35_mkM _ _ _ (⟨true, (⟨false, false, 0, false⟩ : S33), 0⟩ : S35) )) (Reps.c6 (show Kd.M k35 _ _ _ (⟨false, (⟨false, false, 0, false⟩ : S33), 0⟩ : S35) [.bool false, .bool false, .bool false, .int .i64 0, .bool false, .int .u8 0] from (k35_mkM _ _ _ (⟨false, (⟨false, false, 0, false⟩ : S33), 0⟩ : S35) )) (Reps.c6 (show Kd.M k35 _ _ _ (⟨false, (⟨false, false, 0, false⟩ : S33), 0⟩ : S35) [.bool false, .bool false, .bool false, .int .i64 0, .bool false, .int .u8 0] from (k35_mkM _ _ _ (⟨false, (⟨false, false, 0, false⟩ : S33), 0⟩ : S35) )) (Reps.none _ _))))); intro cH iz bF hb hg_ hnew_; clear hg_ hnew_; (first | rw [← bC.out] at bF | (simp only [Int.reduceToNat] at bF; rw [← bC.out] at bF)); have x := Z (Kd.R_lower bF (below_size bl_)); have y := Z (below_step bl_ hb); clear HB; have d := x; have HB := y; clear x y; clear hb bF; obtain ⟨aS, aT, cv⟩ := Kd.R_slice d.out; subst cv) | ((with_reducible refine gate_dst (N := 1) rfl ?_); (try (refine gate_guard (by rfl) ?_; dsimp only)); refine box_event ?hg (N := 1) ?hd (cs := #[.int .i64 0, .int .i64 0, .slice none 0 0, .int .i64 0, .bool false, .bool false]) (t := 24) ?hr ?_; (case hd => rfl); (case hg => rfl); (case hr => first | (go_simp; done) | (go_simp; rfl)); intro m hg hA hbox hb; have x := Z (rb d.out hb); have y := Z (below_step bl_ hb); have z := Z (hbox); have D := Z ((le_new hg (below_size bl_) : w.heap.size ≤ m)); have E := Z ((le_new hg (below_size bl_) : w.heap.size ≤ m)); clear d HB; have d := x; have HB := y; have b := z; have cf := D; have cb := E; clear x y z D E; clear hb hbox hg; obtain ⟨cM, cN, cO, cP, cQ, cR, e1, e2, e3, e4, e5, e6⟩ := cells6 b.out) | ((with_reducible refine gate_store (t := 24) (p := 1) rfl ?_); refine store_event (t := 24) (p := 1) (v := ?vo_w26) (w1 := ((((((hA.setCell ⟨m, 0, none⟩ (.int .i64 1)).setCell ⟨m, 1, none⟩ (.int .i64 3)).setCell ⟨m, 2, none⟩ (.slice aS G.length aT)).setCell ⟨m, 3, none⟩ (.int .i64 1)).setCell ⟨m, 4, none⟩ (.bool false)).setCell ⟨m, 5, none⟩ (.bool false))) ?hg ?ho ?hn ?hr ?_; (case ho => rfl); (case hg => rfl); (case hn => rfl); (case hr => first | (go_simp; done) | (go_simp; rfl)); intro b9 hw; have x : Aside0 (Kd.R k35 35 b9 w.heap.size (fun _ => True) (.slice aS G.length aT) G) := ⟨(by rw [hw]; exact (by (with_reducible repeat apply pR); exact R_off d.out b.out (by decide) off2_))⟩; have y : Aside0 (b9.heap[m]? = some (.cells #[.int .i64 1, .int .i64 3, .slice aS G.length aT, .int .i64 1, .bool false, .bool false] 24 (0, 0))) := ⟨(by rw [hw]; exact (by first | exact put6 b.out | (simp only [← aQ.out]; exact put6 b.out)))⟩; have z : Aside0 (Below w.heap.size w b9) := ⟨by rw [hw]; exact bl_⟩; clear hw d b HB; have d := x; have b := y; have HB := z; clear x y z; obtain ⟨cS, cT, cU, cV, cW, cX, e7, e8, e9, fa, fc, fd⟩ := cells6 b.out) | ((with_reducible refine gate_callee (f := 31) rfl ?_); refine goesL_ (some 15) rfl rfl Tryd.func31 (by kernel_rfl) rfl #[.agg #[.int .i64 1, .int .i64 3, .slice aS G.length aT, .int .i64 1, .bool false, .bool false], .int .u8 193] rfl ag_ ?_; (with_reducible refine (edit_Type.calls k 1 3 (fun k_ => some k_ = (.slice aS G.length aT : Value).ownBlock) _ _ G 1 false false 193 am an q L ao ap none bq _ ?side1 A1.out).mono ?_); (case side1 => exact Kd.R_V (Kd.R_tight rfl (Kd.R_types (d.out) b.out (by decide)))); rintro e iA ⟨cI, bu, rfl, aO, a4, hb⟩; refine ⟨_, rfl, ?_⟩; have x := Z (rb d.out hb); have y := Z (Kd.V_lower (Kd.V_mono (ok' := fun k_ => k_ ≠ m) aO (fun k_ hk_ => Or.elim hk_ (fun hs_ => ((Kd.R_types (d.out) b.out (by decide)).1 k_ hs_.symm).2) (fun hn_ => (fb b.out k_ hn_)))) (below_size bl_)); have z := Z (Kd.V_lower (Kd.V_mono (ok' := fun k_ => k_ ≠ m) a4 (fun k_ hk_ => Or.elim hk_ (fun hs_ => ((Kd.R_types (d.out) b.out (by decide)).1 k_ hs_.symm).2) (fun hn_ => (fb b.out k_ hn_)))) (below_size bl_)); have D := Z (kb b.out hb); have E := Z (below_step bl_ hb); clear d b HB; have d := x; have j := y; have s := z; have b := D; have HB := E; clear x y z D E; (try clear hb); (try clear bB); (try clear hk); (try clear hi); (try clear aO); (try clear a4); (try simp only [errW_none, errW_some])) | ((with_reducible refine gate_dst (N := 2) rfl ?_); (try (refine gate_guard (by rfl) ?_; dsimp only)); refine box_event ?hg (N := 2) ?hd (cs := #[.int .i64 0, .int .i64 0, .slice none 0 0, .int .i64 0, .bool false, .bool false]) (t := 24) ?hr ?_; (case hd => rfl); (case hg => rfl); (case hr => first | (go_simp; done) | (go_simp; rfl)); intro u hg hB hbox hb; have x := Z (rb d.out hb); have y := Z (ve j.out hg hb); have z := Z (ve s.out hg hb); have D := Z (kb b.out hb); have E := Z (below_step bl_ hb); have I := Z (hbox); have J := Z ((le_new hg (below_size bl_) : w.heap.size ≤ u)); have K := Z ((le_new hg (below_size bl_) : w.heap.size ≤ u)); have ad := Z (nl b.out hg); have aD := Z (ng b.out hg); clear d j s b HB; have d := x; have j := y; have s := z; have b := D; have HB := E; have i := I; have cg := J; have cc := K; have aZ := ad; have a1 := aD; clear x y z D E I J K ad aD; clear hb hbox hg; have hN := a1.out; have hZ := aZ.out; obtain ⟨cY, cZ, c0, c1, c2, c3, fe, ff, fg, fh, fi, fj⟩ := cells6 i.out; obtain ⟨bj, ba, cw⟩ := Kd.V_slice j.out; subst cw) | ((with_reducible refine gate_store (t := 24) (p := 2) rfl ?_); refine store_event (t := 24) (p := 2) (v := ?vo_w33) (w1 := ((((((hB.setCell ⟨u, 0, none⟩ (.int .i64 am)).setCell ⟨u, 1, none⟩ (.int .i64 an)).setCell ⟨u, 2, none⟩ (.slice bj q.length ba)).setCell ⟨u, 3, none⟩ (.int .i64 L)).setCell ⟨u, 4, none⟩ (.bool ao)).setCell ⟨u, 5, none⟩ (.bool ap))) ?hg ?ho ?hn ?hr ?_; (case ho => rfl); (case hg => rfl); (case hn => rfl); (case hr => first | (go_simp; done) | (go_simp; rfl)); intro bO hw; have x : Aside0 (Kd.R k35 35 bO w.heap.size (fun _ => True) (.slice aS G.length aT) G) := ⟨(by rw [hw]; exact (by (with_reducible repeat apply pR); exact R_off d.out i.out (by decide) off2_))⟩; have y : Aside0 (Kd.V k35 35 bO w.heap.size (fun k_ => k_ ≠ m ∧ k_ ≠ u) (.slice bj q.length ba) q) := ⟨(by rw [hw]; exact (by (with_reducible repeat apply pV); exact V_off j.out (fun k_ hk => hk.2) off2_ (fun _ hk => ⟨hk.1, hk.2⟩)))⟩; have z : Aside0 (Kd.V k164 164 bO w.heap.size (fun k_ => k_ ≠ m ∧ k_ ≠ u) bu bq) := ⟨(by rw [hw]; exact (by (with_reducible repeat apply pV); exact V_off s.out (fun k_ hk => hk.2) off2_ (fun _ hk => ⟨hk.1, hk.2⟩)))⟩; have D : Aside0 (bO.heap[m]? = some (.cells #[.int .i64 1, .int .i64 3, .slice aS G.length aT, .int .i64 1, .bool false, .bool false] 24 (0, 0))) := ⟨by rw [hw]; exact (blk_off b.out aZ.out off2_)⟩; have E : Aside0 (bO.heap[u]? = some (.cells #[.int .i64 am, .int .i64 an, .slice bj q.length ba, .int .i64 L, .bool ao, .bool ap] 24 (0, 0))) := ⟨(by rw [hw]; exact (by first | exact put6 i.out | (simp only [← aQ.out]; exact put6 i.out)))⟩; have I : Aside0 (Below w.heap.size w bO) := ⟨by rw [hw]; exact bl_⟩; clear hw d j s b i HB; have d := x; have j := y; have s := z; have b := D; have i := E; have HB := I; clear x y z D E I; obtain ⟨da, db, dc, dd, de, df, fk, fl, fm, fn, fo, fp⟩ := cells6 i.out) | ((with_reducible refine gate_callee (f := 31) rfl ?_); refine goesL_ (some 20) rfl rfl Tryd.func31 (by kernel_rfl) rfl #[.agg #[.int .i64 am, .int .i64 an, .slice bj q.length ba, .int .i64 L, .bool ao, .bool ap], .int .u8 0] rfl ag_ ?_; (with_reducible refine (edit_Type.calls k am an (fun k_ => (k_ ≠ m ∧ k_ ≠ u)) _ _ q L ao ap 0 bb bc aB bd be bf bg aY _ ?side1 A2.out).mono ?_); (case side1 => exact j.out); rintro e iB ⟨cJ, bN, rfl, aO, a4, hb⟩; refine ⟨_, rfl, ?_⟩; have x := Z (rb d.out hb); have y := Z (vb j.out hb); have z := Z (vb s.out hb); have D := Z (Kd.V_lower (Kd.V_mono (ok' := fun k_ => k_ ≠ m ∧ k_ ≠ u) aO (fun k_ hk_ => ⟨Or.elim hk_ (fun hs_ => hs_.1) (fun hn_ => (fb b.out k_ hn_)), Or.elim hk_ (fun hs_ => hs_.2) (fun hn_ => (fb i.out k_ hn_))⟩)) (below_size bl_)); have E := Z (Kd.V_lower (Kd.V_mono (ok' := fun k_ => k_ ≠ m ∧ k_ ≠ u) a4 (fun k_ hk_ => ⟨Or.elim hk_ (fun hs_ => hs_.1) (fun hn_ => (fb b.out k_ hn_)), Or.elim hk_ (fun hs_ => hs_.2) (fun hn_ => (fb i.out k_ hn_))⟩)) (below_size bl_)); have I := Z (kb b.out hb); have J := Z (kb i.out hb); have K := Z (below_step bl_ hb); clear d j s b i HB; have d := x; have j := y; have s := z; have C := D; have A := E; have b := I; have i := J; have HB := K; clear x y z D E I J K; (try clear hb); (try clear bB); (try clear hk); (try clear hi); (try clear aO); (try clear a4); (try simp only [errW_none, errW_some])) | ((with_reducible refine gate_dst (N := 4) rfl ?_); (try (refine gate_guard (by rfl) ?_; dsimp only)); refine box_event ?hg (N := 4) ?hd (cs := #[.int .i64 0, .int .i64 0, .slice none 0 0, .int .i64 0, .bool false, .bool false]) (t := 24) ?hr ?_; (case hd => rfl); (case hg => rfl); (case hr => first | (go_simp; done) | (go_simp; rfl)); intro B hg hC hbox hb; have x := Z (rb d.out hb); have y := Z (ve j.out hg hb); have z := Z (ve s.out hg hb); have D := Z (ve C.out hg hb); have E := Z (ve A.out hg hb); have I := Z (kb b.out hb); have J := Z (kb i.out hb); have K := Z (below_step bl_ hb); have ad := Z (hbox); have aD := Z ((le_new hg (below_size bl_) : w.heap.size ≤ B)); have ay := Z ((le_new hg (below_size bl_) : w.heap.size ≤ B)); have aN := Z (nl b.out hg); have aX := Z (ng b.out hg); have a5 := Z (nl i.out hg); have a6 := Z (ng i.out hg); clear d j s C A b i HB; have d := x; have j := y; have s := z; have C := D; have A := E; have b := I; have i := J; have HB := K; have l := ad; have ch := aD; have cd := ay; have a0 := aN; have a3 := aX; have a2 := a5; have bl := a6; clear x y z D E I J K ad aD ay aN aX a5 a6; clear hb hbox hg; have hO := a3.out; have h0 := a0.out; have hP := bl.out; have h1 := a2.out; obtain ⟨dg, dh, di, dj, dk, dl, fq, fr, fs, ft, fu, fv⟩ := cells6 l.out; obtain ⟨bz, bA, cx⟩ := Kd.V_slice C.out; subst cx) | ((with_reducible refine gate_store (t := 24) (p := 4) rfl ?_); refine store_event (t := 24) (p := 4) (v := ?vo_w41) (w1 := ((((((hC.setCell ⟨B, 0, none⟩ (.int .i64 bb)).setCell ⟨B, 1, none⟩ (.int .i64 bc)).setCell ⟨B, 2, none⟩ (.slice bz aB.length bA)).setCell ⟨B, 3, none⟩ (.int .i64 bd)).setCell ⟨B, 4, none⟩ (.bool be)).setCell ⟨B, 5, none⟩ (.bool bf))) ?hg ?ho ?hn ?hr ?_; (case ho => rfl); (case hg => rfl); (case hn => rfl); (case hr => first | (go_simp; done) | (go_simp; rfl)); intro bs hw; have x : Aside0 (Kd.R k35 35 bs w.heap.size (fun _ => True) (.slice aS G.length aT) G) := ⟨(by rw [hw]; exact (by (with_reducible repeat apply pR); exact R_off d.out l.out (by decide) off2_))⟩; have y : Aside0 (Kd.V k35 35 bs w.heap.size (fun k_ => k_ ≠ m ∧ k_ ≠ u ∧ k_ ≠ B) (.slice bj q.length ba) q) := ⟨(by rw [hw]; exact (by (with_reducible repeat apply pV); exact V_off j.out (fun k_ hk => hk.2) off2_ (fun _ hk => ⟨hk.1.1, ⟨hk.1.2, hk.2⟩⟩)))⟩; have z : Aside0 (Kd.V k164 164 bs w.heap.size (fun k_ => k_ ≠ m ∧ k_ ≠ u ∧ k_ ≠ B) bu bq) := ⟨(by rw [hw]; exact (by (with_reducible repeat apply pV); exact V_off s.out (fun k_ hk => hk.2) off2_ (fun _ hk => ⟨hk.1.1, ⟨hk.1.2, hk.2⟩⟩)))⟩; have D : Aside0 (Kd.V k35 35 bs w.heap.size (fun k_ => k_ ≠ m ∧ k_ ≠ u ∧ k_ ≠ B) (.slice bz aB.length bA) aB) := ⟨(by rw [hw]; exact (by (with_reducible repeat apply pV); exact V_off C.out (fun k_ hk => hk.2) off2_ (fun _ hk => ⟨hk.1.1, ⟨hk.1.2, hk.2⟩⟩)))⟩; have E : Aside0 (Kd.V k164 164 bs w.heap.size (fun k_ => k_ ≠ m ∧ k_ ≠ u ∧ k_ ≠ B) bN aY) := ⟨(by rw [hw]; exact (by (with_reducible repeat apply pV); exact V_off A.out (fun k_ hk => hk.2) off2_ (fun _ hk => ⟨hk.1.1, ⟨hk.1.2, hk.2⟩⟩)))⟩; have I : Aside0 (bs.heap[m]? = some (.cells #[.int .i64 1, .int .i64 3, .slice aS G.length aT, .int .i64 1, .bool false, .bool false] 24 (0, 0))) := ⟨by rw [hw]; exact (blk_off b.out a0.out off2_)⟩; have J : Aside0 (bs.heap[u]? = some (.cells #[.int .i64 am, .int .i64 an, .slice bj q.length ba, .int .i64 L, .bool ao, .bool ap] 24 (0, 0))) := ⟨by rw [hw]; exact (blk_off i.out a2.out off2_)⟩; have K : Aside0 (bs.heap[B]? = some (.cells #[.int .i64 bb, .int .i64 bc, .slice bz aB.length bA, .int .i64 bd, .bool be, .bool bf] 24 (0, 0))) := ⟨(by rw [hw]; exact (by first | exact put6 l.out | (simp only [← aQ.out]; exact put6 l.out)))⟩; have ad : Aside0 (Below w.heap.size w bs) := ⟨by rw [hw]; exact bl_⟩; clear hw d j s C A b i l HB; have d := x; have j := y; have s := z; have C := D; have A := E; have b := I; have i := J; have l := K; have HB := ad; clear x y z D E I J K ad; obtain ⟨dm, dn, dp, dq, dr, ds, fw, fx, fy, fz, fA, fB⟩ := cells6 b.out) | ((with_reducible refine gate_store (t := 3) (p := 23) rfl ?_); refine store_event (t := 3) (p := 23) (v := ?vo_w43) (w1 := (bs.setCell ⟨m, 3, none⟩ (.int .i64 0))) ?hg ?ho ?hn ?hr ?_; (case ho => rfl); (case hg => rfl); (case hn => rfl); (case hr => first | (go_simp; done) | (go_simp; rfl)); intro bw hw; have x : Aside0 (Kd.R k35 35 bw w.heap.size (fun _ => True) (.slice aS G.length aT) G) := ⟨(by rw [hw]; exact (by (with_reducible repeat apply pR); exact R_off d.out b.out (by decide) off2_))⟩; have y : Aside0 (Kd.V k35 35 bw w.heap.size (fun k_ => k_ ≠ m ∧ k_ ≠ u ∧ k_ ≠ B) (.slice bj q.length ba) q) := ⟨(by rw [hw]; exact (by (with_reducible repeat apply pV); exact V_off j.out (fun k_ hk => hk.1) off2_ (fun _ hk => ⟨hk.1, ⟨hk.2.1, hk.2.2⟩⟩)))⟩; have z : Aside0 (Kd.V k164 164 bw w.heap.size (fun k_ => k_ ≠ m ∧ k_ ≠ u ∧ k_ ≠ B) bu bq) := ⟨(by rw [hw]; exact (by (with_reducible repeat apply pV); exact V_off s.out (fun k_ hk => hk.1) off2_ (fun _ hk => ⟨hk.1, ⟨hk.2.1, hk.2.2⟩⟩)))⟩; have D : Aside0 (Kd.V k35 35 bw w.heap.size (fun k_ => k_ ≠ m ∧ k_ ≠ u ∧ k_ ≠ B) (.slice bz aB.length bA) aB) := ⟨(by rw [hw]; exact (by (with_reducible repeat apply pV); exact V_off C.out (fun k_ hk => hk.1) off2_ (fun _ hk => ⟨hk.1, ⟨hk.2.1, hk.2.2⟩⟩)))⟩; have E : Aside0 (Kd.V k164 164 bw w.heap.size (fun k_ => k_ ≠ m ∧ k_ ≠ u ∧ k_ ≠ B) bN aY) := ⟨(by rw [hw]; exact (by (with_reducible repeat apply pV); exact V_off A.out (fun k_ hk => hk.1) off2_ (fun _ hk => ⟨hk.1, ⟨hk.2.1, hk.2.2⟩⟩)))⟩; have I : Aside0 (bw.heap[m]? = some (.cells #[.int .i64 1, .int .i64 3, .slice aS G.length aT, .int .i64 0, .bool false, .bool false] 24 (0, 0))) := ⟨(by rw [hw]; exact (by (with_reducible repeat apply pK); refine blk_put (cs := #[.int .i64 1, .int .i64 3, .slice aS G.length aT, .int .i64 1, .bool false, .bool false]) ?_ 3 _ (by first | rfl | (simp only [← aQ.out]; rfl) | (simp [← aQ.out]; done)); (with_reducible repeat apply pK); exact b.out))⟩; have J : Aside0 (bw.heap[u]? = some (.cells #[.int .i64 am, .int .i64 an, .slice bj q.length ba, .int .i64 L, .bool ao, .bool ap] 24 (0, 0))) := ⟨by rw [hw]; exact (blk_off i.out a1.out off2_)⟩; have K : Aside0 (bw.heap[B]? = some (.cells #[.int .i64 bb, .int .i64 bc, .slice bz aB.length bA, .int .i64 bd, .bool be, .bool bf] 24 (0, 0))) := ⟨by rw [hw]; exact (blk_off l.out a3.out off2_)⟩; have ad : Aside0 (Below w.heap.size w bw) := ⟨by rw [hw]; exact bl_⟩; clear hw d j s C A b i l HB; have d := x; have j := y; have s := z; have C := D; have A := E; have b := I; have i := J; have l := K; have HB := ad; clear x y z D E I J K ad; obtain ⟨dt, du, dv, dw, dx, dy, fC, fD, fE, fF, fG, fH⟩ := cells6 b.out) | ((with_reducible refine gate_callee (f := 31) rfl ?_); refine goesL_ (some 26) rfl rfl Tryd.func31 (by kernel_rfl) rfl #[.agg #[.int .i64 1, .int .i64 3, .slice aS G.length aT, .int .i64 0, .bool false, .bool false], .int .u8 193] rfl ag_ ?_; (with_reducible refine (edit_Type.calls k 1 3 (fun k_ => some k_ = (.slice aS G.length aT : Value).ownBlock) _ _ G 0 false false 193 aE aF ax aG true aH bh bi _ ?side1 A3.out).mono ?_); (case side1 => exact Kd.R_V (Kd.R_tight rfl (Kd.R_types (Kd.R_types (Kd.R_types (d.out) b.out (by decide)) i.out (by decide)) l.out (by decide)))); rintro e iC ⟨cK, cL, rfl, aO, a4, hb⟩; refine ⟨_, rfl, ?_⟩; have x := Z (rb d.out hb); have y := Z (vb j.out hb); have z := Z (vb s.out hb); have D := Z (vb C.out hb); have E := Z (vb A.out hb); have I := Z (Kd.V_lower (Kd.V_mono (ok' := fun k_ => k_ ≠ m ∧ k_ ≠ u ∧ k_ ≠ B) aO (fun k_ hk_ => ⟨Or.elim hk_ (fun hs_ => ((Kd.R_types (Kd.R_types (Kd.R_types (d.out) b.out (by decide)) i.out (by decide)) l.out (by decide)).1 k_ hs_.symm).1.1.2) (fun hn_ => (fb b.out k_ hn_)), Or.elim hk_ (fun hs_ => ((Kd.R_types (Kd.R_types (Kd.R_types (d.out) b.out (by decide)) i.out (by decide)) l.out (by decide)).1 k_ hs_.symm).1.2) (fun hn_ => (fb i.out k_ hn_)), Or.elim hk_ (fun hs_ => ((Kd.R_types (Kd.R_types (Kd.R_types (d.out) b.out (by decide)) i.out (by decide)) l.out (by decide)).1 k_ hs_.symm).2) (fun hn_ => (fb l.out k_ hn_))⟩)) (below_size bl_)); have J := Z (Kd.V_lower (Kd.V_mono (ok' := fun k_ => k_ ≠ m ∧ k_ ≠ u ∧ k_ ≠ B) a4 (fun k_ hk_ => ⟨Or.elim hk_ (fun hs_ => ((Kd.R_types (Kd.R_types (Kd.R_types (d.out) b.out (by decide)) i.out (by decide)) l.out (by decide)).1 k_ hs_.symm).1.1.2) (fun hn_ => (fb b.out k_ hn_)), Or.elim hk_ (fun hs_ => ((Kd.R_types (Kd.R_types (Kd.R_types (d.out) b.out (by decide)) i.out (by decide)) l.out (by decide)).1 k_ hs_.symm).1.2) (fun hn_ => (fb i.out k_ hn_)), Or.elim hk_ (fun hs_ => ((Kd.R_types (Kd.R_types (Kd.R_types (d.out) b.out (by decide)) i.out (by decide)) l.out (by decide)).1 k_ hs_.symm).2) (fun hn_ => (fb l.out k_ hn_))⟩)) (below_size bl_)); have K := Z (kb b.out hb); have ad := Z (kb i.out hb); have aD := Z (kb l.out hb); have ay := Z (below_step bl_ hb); clear d j s C A b i l HB; have d := x; have j := y; have s := z; have C := D; have A := E; have aJ := I; have az := J; have b := K; have i := ad; have l := aD; have HB := ay; clear x y z D E I J K ad aD ay; (try clear hb); (try clear bB); (try clear hk); (try clear hi); (try clear aO); (try clear a4); (try simp only [errW_none, errW_some])) | ((with_reducible refine gate_dst (N := 6) rfl ?_); (try (refine gate_guard (by rfl) ?_; dsimp only)); refine box_event ?hg (N := 6) ?hd (cs := #[.int .i64 0, .int .i64 0, .slice none 0 0, .int .i64 0, .bool false, .bool false]) (t := 24) ?hr ?_; (case hd => rfl); (case hg => rfl); (case hr => first | (go_simp; done) | (go_simp; rfl)); intro a hg iD hbox hb; have x := Z (rb d.out hb); have y := Z (ve j.out hg hb); have z := Z (ve s.out hg hb); have D := Z (ve C.out hg hb); have E := Z (ve A.out hg hb); have I := Z (ve aJ.out hg hb); have J := Z (ve az.out hg hb); have K := Z (kb b.out hb); have ad := Z (kb i.out hb); have aD := Z (kb l.out hb); have ay := Z (below_step bl_ hb); have aN := Z (hbox); have aX := Z ((le_new hg (below_size bl_) : w.heap.size ≤ a)); have a5 := Z ((le_new hg (below_size bl_) : w.heap.size ≤ a)); have a6 := Z (nl b.out hg); have bH := Z (ng b.out hg); have bI := Z (nl i.out hg); have bJ := Z (ng i.out hg); have bK := Z (nl l.out hg); have bL := Z (ng l.out hg); clear d j s C A aJ az b i l HB; have d := x; have j := y; have s := z; have C := D; have A := E; have aJ := I; have az := J; have b := K; have i := ad; have l := aD; have HB := ay; have aP := aN; have ci := aX; have ce := a5; have a7 := a6; have bm := bH; have a8 := bI; have bn := bJ; have a9 := bK; have bo := bL; clear x y z D E I J K ad aD ay aN aX a5 a6 bH bI bJ bK bL; clear hb hbox hg; have hQ := bm.out; have h2 := a7.out; have hR := bn.out; have h3 := a8.out; have hS := bo.out; have h4 := a9.out; obtain ⟨dz, dA, dB, dC, dD, dE, fI, fJ, fK, fL, fM, fN⟩ := cells6 aP.out; obtain ⟨aK, aL, cy⟩ := Kd.V_slice aJ.out; subst cy; obtain ⟨dF, dG, dH, dI, dJ, dK, fO, fP, fQ, fR, fS, fT⟩ := cells6 i.out; obtain ⟨dL, dM, dN, dO, dP, dQ, fU, fV, fW, fX, fY, fZ⟩ := cells6 l.out; have bU : 0 ≤ (1 : Int) := (by omega); have bW : 1 < (q.length : Int) := od_; obtain ⟨aR, ct, ae, af, ag, ar, ah, au⟩ := at_T35 (Kd.V_reads' j.out).2.2 1 bU bW; (try rw [← aQ.out] at ae); (try rw [← aQ.out] at af); (try rw [← aQ.out] at ag); (try rw [← aQ.out] at ah); cases ct; (try simp only [show (1 : Int).toNat = 1 from rfl, Nat.reduceMul, Nat.reduceEqDiff, Go.Addr.add, ↓reduceIte] at ae); (try simp only [show (1 : Int).toNat = 1 from rfl, Nat.reduceMul, Nat.reduceEqDiff, Go.Addr.add, ↓reduceIte] at af); (try simp only [show (1 : Int).toNat = 1 from rfl, Nat.reduceMul, Nat.reduceEqDiff, Go.Addr.add, ↓reduceIte] at ag); (try simp only [show (1 : Int).toNat = 1 from rfl, Nat.reduceMul, Nat.reduceEqDiff, Go.Addr.add, ↓reduceIte] at ar); (try simp only [show (1 : Int).toNat = 1 from rfl, Nat.reduceMul, Nat.reduceEqDiff, Go.Addr.add, ↓reduceIte] at ah); (try simp only [show (1 : Int).toNat = 1 from rfl, Nat.reduceMul, Nat.reduceEqDiff, Go.Addr.add, ↓reduceIte] at au); have ib : (1 < q.length) = True := eq_true (by omega); (try rw [show ((1 : Int)).toNat = 1 from rfl] at ae); (try rw [show 1 * 6 = 6 from rfl] at ae); (try rw [show ((1 : Int)).toNat = 1 from rfl] at af); (try rw [show 1 * 6 = 6 from rfl] at af); (try rw [show ((1 : Int)).toNat = 1 from rfl] at ag); (try rw [show 1 * 6 = 6 from rfl] at ag); (try rw [show ((1 : Int)).toNat = 1 from rfl] at ar); (try rw [show 1 * 6 = 6 from rfl] at ar); (try rw [show ((1 : Int)).toNat = 1 from rfl] at ah); (try rw [show 1 * 6 = 6 from rfl] at ah); (try rw [show ((1 : Int)).toNat = 1 from rfl] at au); (try rw [show 1 * 6 = 6 from rfl] at au); have O : aR.block ≠ a := V_ne_10 j.out (fun _ hk => by first | exact hk.2 | exact hk.1.2 | exact hk.1.1.2) (by omega) (by decide); have P : aR.block ≠ a := V_ne_10 j.out (fun _ hk => by first | exact hk.2 | exact hk.1.2 | exact hk.1.1.2) (by omega) (by decide); have Q : aR.block ≠ a := V_ne_10 j.out (fun _ hk => by first | exact hk.2 | exact hk.1.2 | exact hk.1.1.2) (by omega) (by decide); have S : aR.block ≠ a := V_ne_10 j.out (fun _ hk => by first | exact hk.2 | exact hk.1.2 | exact hk.1.1.2) (by omega) (by decide); have T : aR.block ≠ a := V_ne_10 j.out (fun _ hk => by first | exact hk.2 | exact hk.1.2 | exact hk.1.1.2) (by omega) (by decide); have U : aR.block ≠ a := V_ne_10 j.out (fun _ hk => by first | exact hk.2 | exact hk.1.2 | exact hk.1.1.2) (by omega) (by decide); replace ae := (cell_far (p := ⟨a, 0, none⟩) (by first | (rw [add_block]; exact O) | (show (Addr.add _ _).block ≠ _; rw [add_block]; exact O) | exact O) (.int .i64 aE)).trans ae; replace af := (cell_far (p := ⟨a, 0, none⟩) (by first | (rw [add_block]; exact O) | (show (Addr.add _ _).block ≠ _; rw [add_block]; exact O) | exact O) (.int .i64 aE)).trans af; replace ag := (cell_far (p := ⟨a, 0, none⟩) (by first | (rw [add_block]; exact O) | (show (Addr.add _ _).block ≠ _; rw [add_block]; exact O) | exact O) (.int .i64 aE)).trans ag; replace ar := (cell_far (p := ⟨a, 0, none⟩) (by first | (rw [add_block]; exact O) | (show (Addr.add _ _).block ≠ _; rw [add_block]; exact O) | exact O) (.int .i64 aE)).trans ar; replace ah := (cell_far (p := ⟨a, 0, none⟩) (by first | (rw [add_block]; exact O) | (show (Addr.add _ _).block ≠ _; rw [add_block]; exact O) | exact O) (.int .i64 aE)).trans ah; replace au := (cell_far (p := ⟨a, 0, none⟩) (by first | (rw [add_block]; exact O) | (show (Addr.add _ _).block ≠ _; rw [add_block]; exact O) | exact O) (.int .i64 aE)).trans au; replace ae := (cell_far (p := ⟨a, 1, none⟩) (by first | (rw [add_block]; exact P) | (show (Addr.add _ _).block ≠ _; rw [add_block]; exact P) | exact P) (.int .i64 aF)).trans ae; replace af := (cell_far (p := ⟨a, 1, none⟩) (by first | (rw [add_block]; exact P) | (show (Addr.add _ _).block ≠ _; rw [add_block]; exact P) | exact P) (.int .i64 aF)).trans af; replace ag := (cell_far (p := ⟨a, 1, none⟩) (by first | (rw [add_block]; exact P) | (show (Addr.add _ _).block ≠ _; rw [add_block]; exact P) | exact P) (.int .i64 aF)).trans ag; replace ar := (cell_far (p := ⟨a, 1, none⟩) (by first | (rw [add_block]; exact P) | (show (Addr.add _ _).block ≠ _; rw [add_block]; exact P) | exact P) (.int .i64 aF)).trans ar; replace ah := (cell_far (p := ⟨a, 1, none⟩) (by first | (rw [add_block]; exact P) | (show (Addr.add _ _).block ≠ _; rw [add_block]; exact P) | exact P) (.int .i64 aF)).trans ah; replace au := (cell_far (p := ⟨a, 1, none⟩) (by first | (rw [add_block]; exact P) | (show (Addr.add _ _).block ≠ _; rw [add_block]; exact P) | exact P) (.int .i64 aF)).trans au; replace ae := (cell_far (p := ⟨a, 2, none⟩) (by first | (rw [add_block]; exact Q) | (show (Addr.add _ _).block ≠ _; rw [add_block]; exact Q) | exact Q) (.slice aK ax.length aL)).trans ae; replace af := (cell_far (p := ⟨a, 2, none⟩) (by first | (rw [add_block]; exact Q) | (show (Addr.add _ _).block ≠ _; rw [add_block]; exact Q) | exact Q) (.slice aK ax.length aL)).trans af; replace ag := (cell_far (p := ⟨a, 2, none⟩) (by first | (rw [add_block]; exact Q) | (show (Addr.add _ _).block ≠ _; rw [add_block]; exact Q) | exact Q) (.slice aK ax.length aL)).trans ag; replace ar := (cell_far (p := ⟨a, 2, none⟩) (by first | (rw [add_block]; exact Q) | (show (Addr.add _ _).block ≠ _; rw [add_block]; exact Q) | exact Q) (.slice aK ax.length aL)).trans ar; replace ah := (cell_far (p := ⟨a, 2, none⟩) (by first | (rw [add_block]; exact Q) | (show (Addr.add _ _).block ≠ _; rw [add_block]; exact Q) | exact Q) (.slice aK ax.length aL)).trans ah; replace au := (cell_far (p := ⟨a, 2, none⟩) (by first | (rw [add_block]; exact Q) | (show (Addr.add _ _).block ≠ _; rw [add_block]; exact Q) | exact Q) (.slice aK ax.length aL)).trans au; replace ae := (cell_far (p := ⟨a, 3, none⟩) (by first | (rw [add_block]; exact S) | (show (Addr.add _ _).block ≠ _; rw [add_block]; exact S) | exact S) (.int .i64 aG)).trans ae; replace af := (cell_far (p := ⟨a, 3, none⟩) (by first | (rw [add_block]; exact S) | (show (Addr.add _ _).block ≠ _; rw [add_block]; exact S) | exact S) (.int .i64 aG)).trans af; replace ag := (cell_far (p := ⟨a, 3, none⟩) (by first | (rw [add_block]; exact S) | (show (Addr.add _ _).block ≠ _; rw [add_block]; exact S) | exact S) (.int .i64 aG)).trans ag; replace ar := (cell_far (p := ⟨a, 3, none⟩) (by first | (rw [add_block]; exact S) | (show (Addr.add _ _).block ≠ _; rw [add_block]; exact S) | exact S) (.int .i64 aG)).trans ar; replace ah := (cell_far (p := ⟨a, 3, none⟩) (by first | (rw [add_block]; exact S) | (show (Addr.add _ _).block ≠ _; rw [add_block]; exact S) | exact S) (.int .i64 aG)).trans ah; replace au := (cell_far (p := ⟨a, 3, none⟩) (by first | (rw [add_block]; exact S) | (show (Addr.add _ _).block ≠ _; rw [add_block]; exact S) | exact S) (.int .i64 aG)).trans au; replace ae := (cell_far (p := ⟨a, 4, none⟩) (by first | (rw [add_block]; exact T) | (show (Addr.add _ _).block ≠ _; rw [add_block]; exact T) | exact T) (.bool true)).trans ae; replace af := (cell_far (p := ⟨a, 4, none⟩) (by first | (rw [add_block]; exact T) | (show (Addr.add _ _).block ≠ _; rw [add_block]; exact T) | exact T) (.bool true)).trans af; replace ag := (cell_far (p := ⟨a, 4, none⟩) (by first | (rw [add_block]; exact T) | (show (Addr.add _ _).block ≠ _; rw [add_block]; exact T) | exact T) (.bool true)).trans ag; replace ar := (cell_far (p := ⟨a, 4, none⟩) (by first | (rw [add_block]; exact T) | (show (Addr.add _ _).block ≠ _; rw [add_block]; exact T) | exact T) (.bool true)).trans ar; replace ah := (cell_far (p := ⟨a, 4, none⟩) (by first | (rw [add_block]; exact T) | (show (Addr.add _ _).block ≠ _; rw [add_block]; exact T) | exact T) (.bool true)).trans ah; replace au := (cell_far (p := ⟨a, 4, none⟩) (by first | (rw [add_block]; exact T) | (show (Addr.add _ _).block ≠ _; rw [add_block]; exact T) | exact T) (.bool true)).trans au; replace ae := (cell_far (p := ⟨a, 5, none⟩) (by first | (rw [add_block]; exact U) | (show (Addr.add _ _).block ≠ _; rw [add_block]; exact U) | exact U) (.bool aH)).trans ae; replace af := (cell_far (p := ⟨a, 5, none⟩) (by first | (rw [add_block]; exact U) | (show (Addr.add _ _).block ≠ _; rw [add_block]; exact U) | exact U) (.bool aH)).trans af; replace ag := (cell_far (p := ⟨a, 5, none⟩) (by first | (rw [add_block]; exact U) | (show (Addr.add _ _).block ≠ _; rw [add_block]; exact U) | exact U) (.bool aH)).trans ag; replace ar := (cell_far (p := ⟨a, 5, none⟩) (by first | (rw [add_block]; exact U) | (show (Addr.add _ _).block ≠ _; rw [add_block]; exact U) | exact U) (.bool aH)).trans ar; replace ah := (cell_far (p := ⟨a, 5, none⟩) (by first | (rw [add_block]; exact U) | (show (Addr.add _ _).block ≠ _; rw [add_block]; exact U) | exact U) (.bool aH)).trans ah; replace au := (cell_far (p := ⟨a, 5, none⟩) (by first | (rw [add_block]; exact U) | (show (Addr.add _ _).block ≠ _; rw [add_block]; exact U) | exact U) (.bool aH)).trans au; clear O; clear P; clear Q; clear S; clear T; clear U; replace bU := eq_true bU; replace bW := eq_true bW; have bV : 0 ≤ (0 : Int) := (by omega); have bX : 0 < (q.length : Int) := od_; obtain ⟨ck, cu, ai, aj, ak, av, al, aw⟩ := at_T35 (Kd.V_reads' j.out).2.2 0 bV bX; (try rw [← aQ.out] at ai); (try rw [← aQ.out] at aj); (try rw [← aQ.out] at ak); (try rw [← aQ.out] at al); obtain rfl : aR = ck := (by injection cu); have ic : (0 < q.length) = True := eq_true (by omega); (try rw [show ((0 : Int)).toNat = 0 from rfl] at ai); (try rw [show 0 * 6 = 0 from rfl] at ai); (try rw [Addr.add_zero'] at ai); (try rw [show ((0 : Int)).toNat = 0 from rfl] at aj); (try rw [show 0 * 6 = 0 from rfl] at aj); (try rw [Addr.add_zero'] at aj); (try rw [show ((0 : Int)).toNat = 0 from rfl] at ak); (try rw [show 0 * 6 = 0 from rfl] at ak); (try rw [Addr.add_zero'] at ak); (try rw [show ((0 : Int)).toNat = 0 from rfl] at av); (try rw [show 0 * 6 = 0 from rfl] at av); (try rw [Addr.add_zero'] at av); (try rw [show ((0 : Int)).toNat = 0 from rfl] at al); (try rw [show 0 * 6 = 0 from rfl] at al); (try rw [Addr.add_zero'] at al); (try rw [show ((0 : Int)).toNat = 0 from rfl] at aw); (try rw [show 0 * 6 = 0 from rfl] at aw); (try rw [Addr.add_zero'] at aw); have W : aR.block ≠ a := V_ne_10 j.out (fun _ hk => by first | exact hk.2 | exact hk.1.2 | exact hk.1.1.2) (by omega) (by decide); have X : aR.block ≠ a := V_ne_10 j.out (fun _ hk => by first | exact hk.2 | exact hk.1.2 | exact hk.1.1.2) (by omega) (by decide); have Y : aR.block ≠ a := V_ne_10 j.out (fun _ hk => by first | exact hk.2 | exact hk.1.2 | exact hk.1.1.2) (by omega) (by decide); have aa : aR.block ≠ a := V_ne_10 j.out (fun _ hk => by first | exact hk.2 | exact hk.1.2 | exact hk.1.1.2) (by omega) (by decide); have ab : aR.block ≠ a := V_ne_10 j.out (fun _ hk => by first | exact hk.2 | exact hk.1.2 | exact hk.1.1.2) (by omega) (by decide); have ac : aR.block ≠ a := V_ne_10 j.out (fun _ hk => by first | exact hk.2 | exact hk.1.2 | exact hk.1.1.2) (by omega) (by decide); replace ai := (cell_far (p := ⟨a, 0, none⟩) (by first | (rw [add_block]; exact W) | (show (Addr.add _ _).block ≠ _; rw [add_block]; exact W) | exact W) (.int .i64 aE)).trans ai; replace aj := (cell_far (p := ⟨a, 0, none⟩) (by first | (rw [add_block]; exact W) | (show (Addr.add _ _).block ≠ _; rw [add_block]; exact W) | exact W) (.int .i64 aE)).trans aj; replace ak := (cell_far (p := ⟨a, 0, none⟩) (by first | (rw [add_block]; exact W) | (show (Addr.add _ _).block ≠ _; rw [add_block]; exact W) | exact W) (.int .i64 aE)).trans ak; replace av := (cell_far (p := ⟨a, 0, none⟩) (by first | (rw [add_block]; exact W) | (show (Addr.add _ _).block ≠ _; rw [add_block]; exact W) | exact W) (.int .i64 aE)).trans av; replace al := (cell_far (p := ⟨a, 0, none⟩) (by first | (rw [add_block]; exact W) | (show (Addr.add _ _).block ≠ _; rw [add_block]; exact W) | exact W) (.int .i64 aE)).trans al; replace aw := (cell_far (p := ⟨a, 0, none⟩) (by first | (rw [add_block]; exact W) | (show (Addr.add _ _).block ≠ _; rw [add_block]; exact W) | exact W) (.int .i64 aE)).trans aw; replace ai := (cell_far (p := ⟨a, 1, none⟩) (by first | (rw [add_block]; exact X) | (show (Addr.add _ _).block ≠ _; rw [add_block]; exact X) | exact X) (.int .i64 aF)).trans ai; replace aj := (cell_far (p := ⟨a, 1, none⟩) (by first | (rw [add_block]; exact X) | (show (Addr.add _ _).block ≠ _; rw [add_block]; exact X) | exact X) (.int .i64 aF)).trans aj; replace ak := (cell_far (p := ⟨a, 1, none⟩) (by first | (rw [add_block]; exact X) | (show (Addr.add _ _).block ≠ _; rw [add_block]; exact X) | exact X) (.int .i64 aF)).trans ak; replace av := (cell_far (p := ⟨a, 1, none⟩) (by first | (rw [add_block]; exact X) | (show (Addr.add _ _).block ≠ _; rw [add_block]; exact X) | exact X) (.int .i64 aF)).trans av; replace al := (cell_far (p := ⟨a, 1, none⟩) (by first | (rw [add_block]; exact X) | (show (Addr.add _ _).block ≠ _; rw [add_block]; exact X) | exact X) (.int .i64 aF)).trans al; replace aw := (cell_far (p := ⟨a, 1, none⟩) (by first | (rw [add_block]; exact X) | (show (Addr.add _ _).block ≠ _; rw [add_block]; exact X) | exact X) (.int .i64 aF)).trans aw; replace ai := (cell_far (p := ⟨a, 2, none⟩) (by first | (rw [add_block]; exact Y) | (show (Addr.add _ _).block ≠ _; rw [add_block]; exact Y) | exact Y) (.slice aK ax.length aL)).trans ai; replace aj := (cell_far (p := ⟨a, 2, none⟩) (by first | (rw [add_block]; exact Y) | (show (Addr.add _ _).block ≠ _; rw [add_block]; exact Y) | exact Y) (.slice aK ax.length aL)).trans aj; replace ak := (cell_far (p := ⟨a, 2, none⟩) (by first | (rw [add_block]; exact Y) | (show (Addr.add _ _).block ≠ _; rw [add_block]; exact Y) | exact Y) (.slice aK ax.length aL)).trans ak; replace av := (cell_far (p := ⟨a, 2, none⟩) (by first | (rw [add_block]; exact Y) | (show (Addr.add _ _).block ≠ _; rw [add_block]; exact Y) | exact Y) (.slice aK ax.length aL)).trans av; replace al := (cell_far (p := ⟨a, 2, none⟩) (by first | (rw [add_block]; exact Y) | (show (Addr.add _ _).block ≠ _; rw [add_block]; exact Y) | exact Y) (.slice aK ax.length aL)).trans al; replace aw := (cell_far (p := ⟨a, 2, none⟩) (by first | (rw [add_block]; exact Y) | (show (Addr.add _ _).block ≠ _; rw [add_block]; exact Y) | exact Y) (.slice aK ax.length aL)).trans aw; replace ai := (cell_far (p := ⟨a, 3, none⟩) (by first | (rw [add_block]; exact aa) | (show (Addr.add _ _).block ≠ _; rw [add_block]; exact aa) | exact aa) (.int .i64 aG)).trans ai; replace aj := (cell_far (p := ⟨a, 3, none⟩) (by first | (rw [add_block]; exact aa) | (show (Addr.add _ _).block ≠ _; rw [add_block]; exact aa) | exact aa) (.int .i64 aG)).trans aj; replace ak := (cell_far (p := ⟨a, 3, none⟩) (by first | (rw [add_block]; exact aa) | (show (Addr.add _ _).block ≠ _; rw [add_block]; exact aa) | exact aa) (.int .i64 aG)).trans ak; replace av := (cell_far (p := ⟨a, 3, none⟩) (by first | (rw [add_block]; exact aa) | (show (Addr.add _ _).block ≠ _; rw [add_block]; exact aa) | exact aa) (.int .i64 aG)).trans av; replace al := (cell_far (p := ⟨a, 3, none⟩) (by first | (rw [add_block]; exact aa) | (show (Addr.add _ _).block ≠ _; rw [add_block]; exact aa) | exact aa) (.int .i64 aG)).trans al; replace aw := (cell_far (p := ⟨a, 3, none⟩) (by first | (rw [add_block]; exact aa) | (show (Addr.add _ _).block ≠ _; rw [add_block]; exact aa) | exact aa) (.int .i64 aG)).trans aw; replace ai := (cell_far (p := ⟨a, 4, none⟩) (by first | (rw [add_block]; exact ab) | (show (Addr.add _ _).block ≠ _; rw [add_block]; exact ab) | exact ab) (.bool true)).trans ai; replace aj := (cell_far (p := ⟨a, 4, none⟩) (by first | (rw [add_block]; exact ab) | (show (Addr.add _ _).block ≠ _; rw [add_block]; exact ab) | exact ab) (.bool true)).trans aj; replace ak := (cell_far (p := ⟨a, 4, none⟩) (by first | (rw [add_block]; exact ab) | (show (Addr.add _ _).block ≠ _; rw [add_block]; exact ab) | exact ab) (.bool true)).trans ak; replace av := (cell_far (p := ⟨a, 4, none⟩) (by first | (rw [add_block]; exact ab) | (show (Addr.add _ _).block ≠ _; rw [add_block]; exact ab) | exact ab) (.bool true)).trans av; replace al := (cell_far (p := ⟨a, 4, none⟩) (by first | (rw [add_block]; exact ab) | (show (Addr.add _ _).block ≠ _; rw [add_block]; exact ab) | exact ab) (.bool true)).trans al; replace aw := (cell_far (p := ⟨a, 4, none⟩) (by first | (rw [add_block]; exact ab) | (show (Addr.add _ _).block ≠ _; rw [add_block]; exact ab) | exact ab) (.bool true)).trans aw; replace ai := (cell_far (p := ⟨a, 5, none⟩) (by first | (rw [add_block]; exact ac) | (show (Addr.add _ _).block ≠ _; rw [add_block]; exact ac) | exact ac) (.bool aH)).trans ai; replace aj := (cell_far (p := ⟨a, 5, none⟩) (by first | (rw [add_block]; exact ac) | (show (Addr.add _ _).block ≠ _; rw [add_block]; exact ac) | exact ac) (.bool aH)).trans aj; replace ak := (cell_far (p := ⟨a, 5, none⟩) (by first | (rw [add_block]; exact ac) | (show (Addr.add _ _).block ≠ _; rw [add_block]; exact ac) | exact ac) (.bool aH)).trans ak; replace av := (cell_far (p := ⟨a, 5, none⟩) (by first | (rw [add_block]; exact ac) | (show (Addr.add _ _).block ≠ _; rw [add_block]; exact ac) | exact ac) (.bool aH)).trans av; replace al := (cell_far (p := ⟨a, 5, none⟩) (by first | (rw [add_block]; exact ac) | (show (Addr.add _ _).block ≠ _; rw [add_block]; exact ac) | exact ac) (.bool aH)).trans al; replace aw := (cell_far (p := ⟨a, 5, none⟩) (by first | (rw [add_block]; exact ac) | (show (Addr.add _ _).block ≠ _; rw [add_block]; exact ac) | exact ac) (.bool aH)).trans aw; clear W; clear X; clear Y; clear aa; clear ab; clear ac; replace bV := eq_true bV; replace bX := eq_true bX; obtain ⟨cn, b8, cz⟩ := Kd.V_slice A.out; subst cz) | (go_at_call 25; refine calls_of_args (args' := #[errW (.slice cn aY.length b8) bg]) (by first | rfl | rfl) ?_; (with_reducible refine (api_Code.calls bg _ _ aY aM _ ?side1 ?side2 ?sideG hu.out).mono ?_); (case sideG => exact laidG_below HG.out bl_ rfl); (case side1 => refine (Kd.V_reads' (e := 164) (base := w.heap.size) (ok := fun k_ => ((k_ ≠ m ∧ (k_ ≠ u ∧ k_ ≠ B)) ∧ k_ ≠ a)) (n := aY.length) (c := b8) ?_).2.2; exact (by (with_reducible repeat apply pV); exact (Kd.V_mono (Kd.V_far (p := ⟨a, 5, none⟩) (Kd.V_far (p := ⟨a, 4, none⟩) (Kd.V_far (p := ⟨a, 3, none⟩) (Kd.V_far (p := ⟨a, 2, none⟩) (Kd.V_far (p := ⟨a, 1, none⟩) (Kd.V_far (p := ⟨a, 0, none⟩) (Kd.V_mono A.out (fun k_ hk => (⟨hk, hk.2⟩ : _ ∧ k_ ≠ a))) (fun _ hk => hk.2) (.int .i64 aE)) (fun _ hk => hk.2) (.int .i64 aF)) (fun _ hk => hk.2) (.slice aK ax.length aL)) (fun _ hk => hk.2) (.int .i64 aG)) (fun _ hk => hk.2) (.bool true)) (fun _ hk => hk.2) (.bool aH)) (fun _ h_ => h_.1)))); (case side2 => exact (Kd.V_reads' A.out).2.1); rintro e iE ⟨rfl, hb⟩; have x := Z (Kd.R_below (by (with_reducible repeat apply pR); exact (Kd.R_mono (Kd.R_far (p := ⟨a, 5, none⟩) (Kd.R_far (p := ⟨a, 4, none⟩) (Kd.R_far (p := ⟨a, 3, none⟩) (Kd.R_far (p := ⟨a, 2, none⟩) (Kd.R_far (p := ⟨a, 1, none⟩) (Kd.R_far (p := ⟨a, 0, none⟩) (Kd.R_types d.out aP.out (by decide)) (fun _ hk => hk.2) (.int .i64 aE)) (fun _ hk => hk.2) (.int .i64 aF)) (fun _ hk => hk.2) (.slice aK ax.length aL)) (fun _ hk => hk.2) (.int .i64 aG)) (fun _ hk => hk.2) (.bool true)) (fun _ hk => hk.2) (.bool aH)) (fun _ h_ => h_.1))) hb); have y := Z (Kd.V_below (by (with_reducible repeat apply pV); exact (Kd.V_mono (Kd.V_far (p := ⟨a, 5, none⟩) (Kd.V_far (p := ⟨a, 4, none⟩) (Kd.V_far (p := ⟨a, 3, none⟩) (Kd.V_far (p := ⟨a, 2, none⟩) (Kd.V_far (p := ⟨a, 1, none⟩) (Kd.V_far (p := ⟨a, 0, none⟩) (Kd.V_mono j.out (fun k_ hk => (⟨hk, hk.2⟩ : _ ∧ k_ ≠ a))) (fun _ hk => hk.2) (.int .i64 aE)) (fun _ hk => hk.2) (.int .i64 aF)) (fun _ hk => hk.2) (.slice aK ax.length aL)) (fun _ hk => hk.2) (.int .i64 aG)) (fun _ hk => hk.2) (.bool true)) (fun _ hk => hk.2) (.bool aH)) (fun _ h_ => h_.1))) hb); have z := Z (Kd.V_below (by (with_reducible repeat apply pV); exact (Kd.V_mono (Kd.V_far (p := ⟨a, 5, none⟩) (Kd.V_far (p := ⟨a, 4, none⟩) (Kd.V_far (p := ⟨a, 3, none⟩) (Kd.V_far (p := ⟨a, 2, none⟩) (Kd.V_far (p := ⟨a, 1, none⟩) (Kd.V_far (p := ⟨a, 0, none⟩) (Kd.V_mono s.out (fun k_ hk => (⟨hk, hk.2⟩ : _ ∧ k_ ≠ a))) (fun _ hk => hk.2) (.int .i64 aE)) (fun _ hk => hk.2) (.int .i64 aF)) (fun _ hk => hk.2) (.slice aK ax.length aL)) (fun _ hk => hk.2) (.int .i64 aG)) (fun _ hk => hk.2) (.bool true)) (fun _ hk => hk.2) (.bool aH)) (fun _ h_ => h_.1))) hb); have D := Z (Kd.V_below (by (with_reducible repeat apply pV); exact (Kd.V_mono (Kd.V_far (p := ⟨a, 5, none⟩) (Kd.V_far (p := ⟨a, 4, none⟩) (Kd.V_far (p := ⟨a, 3, none⟩) (Kd.V_far (p := ⟨a, 2, none⟩) (Kd.V_far (p := ⟨a, 1, none⟩) (Kd.V_far (p := ⟨a, 0, none⟩) (Kd.V_mono C.out (fun k_ hk => (⟨hk, hk.2⟩ : _ ∧ k_ ≠ a))) (fun _ hk => hk.2) (.int .i64 aE)) (fun _ hk => hk.2) (.int .i64 aF)) (fun _ hk => hk.2) (.slice aK ax.length aL)) (fun _ hk => hk.2) (.int .i64 aG)) (fun _ hk => hk.2) (.bool true)) (fun _ hk => hk.2) (.bool aH)) (fun _ h_ => h_.1))) hb); have E := Z (Kd.V_below (by (with_reducible repeat apply pV); exact (Kd.V_mono (Kd.V_far (p := ⟨a, 5, none⟩) (Kd.V_far (p := ⟨a, 4, none⟩) (Kd.V_far (p := ⟨a, 3, none⟩) (Kd.V_far (p := ⟨a, 2, none⟩) (Kd.V_far (p := ⟨a, 1, none⟩) (Kd.V_far (p := ⟨a, 0, none⟩) (Kd.V_mono A.out (fun k_ hk => (⟨hk, hk.2⟩ : _ ∧ k_ ≠ a))) (fun _ hk => hk.2) (.int .i64 aE)) (fun _ hk => hk.2) (.int .i64 aF)) (fun _ hk => hk.2) (.slice aK ax.length aL)) (fun _ hk => hk.2) (.int .i64 aG)) (fun _ hk => hk.2) (.bool true)) (fun _ hk => hk.2) (.bool aH)) (fun _ h_ => h_.1))) hb); have I := Z (Kd.V_below (by (with_reducible repeat apply pV); exact (Kd.V_mono (Kd.V_far (p := ⟨a, 5, none⟩) (Kd.V_far (p := ⟨a, 4, none⟩) (Kd.V_far (p := ⟨a, 3, none⟩) (Kd.V_far (p := ⟨a, 2, none⟩) (Kd.V_far (p := ⟨a, 1, none⟩) (Kd.V_far (p := ⟨a, 0, none⟩) (Kd.V_mono aJ.out (fun k_ hk => (⟨hk, hk.2⟩ : _ ∧ k_ ≠ a))) (fun _ hk => hk.2) (.int .i64 aE)) (fun _ hk => hk.2) (.int .i64 aF)) (fun _ hk => hk.2) (.slice aK ax.length aL)) (fun _ hk => hk.2) (.int .i64 aG)) (fun _ hk => hk.2) (.bool true)) (fun _ hk => hk.2) (.bool aH)) (fun _ h_ => h_.1))) hb); have J := Z (Kd.V_below (by (with_reducible repeat apply pV); exact (Kd.V_mono (Kd.V_far (p := ⟨a, 5, none⟩) (Kd.V_far (p := ⟨a, 4, none⟩) (Kd.V_far (p := ⟨a, 3, none⟩) (Kd.V_far (p := ⟨a, 2, none⟩) (Kd.V_far (p := ⟨a, 1, none⟩) (Kd.V_far (p := ⟨a, 0, none⟩) (Kd.V_mono az.out (fun k_ hk => (⟨hk, hk.2⟩ : _ ∧ k_ ≠ a))) (fun _ hk => hk.2) (.int .i64 aE)) (fun _ hk => hk.2) (.int .i64 aF)) (fun _ hk => hk.2) (.slice aK ax.length aL)) (fun _ hk => hk.2) (.int .i64 aG)) (fun _ hk => hk.2) (.bool true)) (fun _ hk => hk.2) (.bool aH)) (fun _ h_ => h_.1))) hb); have K := Z (blk_below (g := m) (o := .cells #[.int .i64 1, .int .i64 3, .slice aS G.length aT, .int .i64 0, .bool false, .bool false] 24 (0, 0)) (blk_off b.out a7.out off2_) hb); have ad := Z (blk_below (g := u) (o := .cells #[.int .i64 am, .int .i64 an, .slice (some aR) q.length ba, .int .i64 L, .bool ao, .bool ap] 24 (0, 0)) (blk_off i.out a8.out off2_) hb); have aD := Z (blk_below (g := B) (o := .cells #[.int .i64 bb, .int .i64 bc, .slice bz aB.length bA, .int .i64 bd, .bool be, .bool bf] 24 (0, 0)) (blk_off l.out a9.out off2_) hb); have ay := Z (blk_below (g := a) (o := .cells #[.int .i64 aE, .int .i64 aF, .slice aK ax.length aL, .int .i64 aG, .bool true, .bool aH] 24 (0, 0)) (by first | exact put6 aP.out | (simp only [← aQ.out]; exact put6 aP.out)) hb); have aN := Z (below_step bl_ hb); clear d j s C A aJ az b i l aP HB; have d := x; have j := y; have s := z; have C := D; have A := E; have aJ := I; have az := J; have b := K; have i := ad; have l := aD; have aP := ay; have HB := aN; clear x y z D E I J K ad aD ay aN; (try clear hb); (try clear bB); (try clear hk); (try clear hi); obtain ⟨co, cr, cA⟩ := Kd.V_slice az.out; subst cA) | (go_at_call 25; refine calls_of_args (args' := #[errW (.slice co bi.length cr) bh]) (by first | rfl | rfl) ?_; (with_reducible refine (api_Code.calls bh _ _ bi aI _ ?side1 ?side2 ?sideG hv.out).mono ?_); (case sideG => exact laidG_below HG.out bl_ rfl); (case side1 => repeat (first | exact (Kd.V_reads' az.out).2.2 | (with_reducible apply pC))); (case side2 => exact (Kd.V_reads' az.out).2.1); rintro e iF ⟨rfl, hb⟩; have x := Z (rb d.out hb); have y := Z (vb j.out hb); have z := Z (vb s.out hb); have D := Z (vb C.out hb); have E := Z (vb A.out hb); have I := Z (vb aJ.out hb); have J := Z (vb az.out hb); have K := Z (kb b.out hb); have ad := Z (kb i.out hb); have aD := Z (kb l.out hb); have ay := Z (kb aP.out hb); have aN := Z (below_step bl_ hb); clear d j s C A aJ az b i l aP HB; have d := x; have j := y; have s := z; have C := D; have A := E; have aJ := I; have az := J; have b := K; have i := ad; have l := aD; have aP := ay; have HB := aN; clear x y z D E I J K ad aD ay aN; (try clear hb); (try clear bB); (try clear hk); (try clear hi); obtain ⟨dR, dS, dT, dU, dV, dW, ga, gb, gc, gd, ge, gf⟩ := cells6 aP.out) | (go_at_call 38; (with_reducible refine (edit_Digit.calls 240 true _ hx.out).mono ?_); rintro e w' ⟨rfl, ⟨nd, rfl⟩⟩; obtain ⟨dX, dY, dZ, d0, d1, d2, gg, gh, gi, gj, gk, gl⟩ := cells6 i.out) | (go_at_call 26; (with_reducible refine (edit_Line.calls k am an _ _ q L ao ap 1 aq _ ?side1 ?side2 bY.out).mono ?_); (case side1 => repeat (first | exact (Kd.V_reads' j.out).2.2 | (with_reducible apply pC))); (case side2 => exact (Kd.V_reads' j.out).2.1); rintro e iG ⟨iy, rfl, aO, hb⟩; have x := Z (rb d.out hb); have y := Z (Kd.V_elder' (by (with_reducible repeat apply pV); exact j.out) (Kd.Q_base aO) hb); have z := Z (Kd.V_elder' (by (with_reducible repeat apply pV); exact s.out) (Kd.Q_base aO) hb); have D := Z (Kd.V_elder' (by (with_reducible repeat apply pV); exact C.out) (Kd.Q_base aO) hb); have E := Z (Kd.V_elder' (by (with_reducible repeat apply pV); exact A.out) (Kd.Q_base aO) hb); have I := Z (Kd.V_elder' (by (with_reducible repeat apply pV); exact aJ.out) (Kd.Q_base aO) hb); have J := Z (Kd.V_elder' (by (with_reducible repeat apply pV); exact az.out) (Kd.Q_base aO) hb); have K := Z (Kd.Q_lower aO (below_size bl_)); have ad := Z (kb b.out hb); have aD := Z (kb i.out hb); have ay := Z (kb l.out hb); have aN := Z (kb aP.out hb); have aX := Z (below_step bl_ hb); clear d j s C A aJ az b i l aP HB; have d := x; have j := y; have s := z; have C := D; have A := E; have aJ := I; have az := J; have cj := K; have b := ad; have i := aD; have l := ay; have aP := aN; have HB := aX; clear x y z D E I J K ad aD ay aN aX; (try clear hb); (try clear bB); (try clear hk); (try clear hi); (try clear aO); obtain ⟨id, ir, cB, _⟩ := Kd.Q_slice cj.out; subst cB))
              go_ret
              exact ⟨by first | rfl | (simp [errW_none, errW_some] <;> rfl) | (simp [*, errW_none, errW_some] <;> rfl), bl_⟩
             ·replace b1 := Bool.eq_false_iff.mpr b1
              subst b1
              have H1 : (none) = some r := by rw [if_neg (show ¬ (false = true) by decide)] at H; exact H
              clear H
              have H := H1
              clear H1
              exact absurd H (by simp)
            ·replace b0 := Bool.eq_false_iff.mpr b0
             subst b0
             have H1 : (none) = some r := by rw [if_neg (show ¬ (false = true) by decide)] at H; exact H
             clear H
             have H := H1
             clear H1
             exact absurd H (by simp)
           ·rw [if_neg bT] at H
            exact absurd H (by simp)
          ·rw [if_neg bS] at H
           exact absurd H (by simp)
         ·rw [if_neg bR] at H
          exact absurd H (by simp)
        ·replace bZ := Bool.eq_false_iff.mpr bZ
         subst bZ
         have H1 : (none) = some r := by rw [if_neg (show ¬ (false = true) by decide)] at H; exact H
         clear H
         have H := H1
         clear H1
         exact absurd H (by simp)
       ·rw [if_neg c9] at H
        exact absurd H (by simp)
      ·rw [if_neg c8] at H
       exact absurd H (by simp)
     ·rw [if_neg c7] at H
      exact absurd H (by simp)
    ·have H1 : (none) = some r := by rw [if_neg (show ¬ (some cG).isNone = true by simp)] at H; exact H
     clear H
     have H := H1
     clear H1
     try simp only [errW_none, errW_some]
     exact absurd H (by simp)
   ·rw [if_neg c6] at H
    have cp : ((aB.length : Int) == 3) = false := beq_eq_false_iff_ne.mpr c6
    have cq : ((aB.length : Int) != 3) = true := bne_iff_ne.mpr c6
    obtain rfl := Option.some.inj H
    go_enter Tryd.func30, Tryd.ntmps30
    go_wp2_with (first | ((with_reducible refine gate_dst (N := 11) rfl ?_); (try (refine gate_guard (by rfl) ?_; dsimp only)); refine Kd.R_lit k35 _ 35 ?hg (N := 11) ?hd (xs := ([(⟨true, (⟨false, false, 0, false⟩ : S33), 0⟩ : S35), (⟨false, (⟨false, false, 0, false⟩ : S33), 0⟩ : S35), (⟨false, (⟨false, false, 0, false⟩ : S33), 0⟩ : S35)] : List (S35))) (inner := [.bool true, .bool false, .bool false, .int .i64 0, .bool false, .int .u8 0, .bool false, .bool false, .bool false, .int .i64 0, .bool false, .int .u8 0, .bool false, .bool false, .bool false, .int .i64 0, .bool false, .int .u8 0]) (ok := fun _ => True) (okp := fun _ => True) ?hr ?hp (fun _ hk => hk) trivial (Below.refl _ _) (Nat.le_refl _) (by simp) ?_; (case hd => rfl); (case hg => rfl); (case hr => first | (go_simp; done) | (go_simp; rfl)); (case hp => exact (Reps.c6 (show Kd.M k35 _ _ _ (⟨true, (⟨false, false, 0, false⟩ : S33), 0⟩ : S35) [.bool true, .bool false, .bool false, .int .i64 0, .bool false, .int .u8 0] from (k35_mkM _ _ _ (⟨true, (⟨false, false, 0, false⟩ : S33), 0⟩ : S35) )) (Reps.c6 (show Kd.M k35 _ _ _ (⟨false, (⟨false, false, 0, false⟩ : S33), 0⟩ : S35) [.bool false, .bool false, .bool false, .int .i64 0, .bool false, .int .u8 0] from (k35_mkM _ _ _ (⟨false, (⟨false, false, 0, false⟩ : S33), 0⟩ : S35) )) (Reps.c6 (show Kd.M k35 _ _ _ (⟨false, (⟨false, false, 0, false⟩ : S33), 0⟩ : S35) [.bool false, .bool false, .bool false, .int .i64 0, .bool false, .int .u8 0] from (k35_mkM _ _ _ (⟨false, (⟨false, false, 0, false⟩ : S33), 0⟩ : S35) )) (Reps.none _ _))))); intro cH iH bG hb hg_ hnew_; clear hg_ hnew_; (first | rw [← bC.out] at bG | (simp only [Int.reduceToNat] at bG; rw [← bC.out] at bG)); have x := Z (Kd.R_lower bG (below_size bl_)); have y := Z (below_step bl_ hb); clear HB; have d := x; have HB := y; clear x y; clear hb bG; obtain ⟨aU, aW, cC⟩ := Kd.R_slice d.out; subst cC) | ((with_reducible refine gate_dst (N := 1) rfl ?_); (try (refine gate_guard (by rfl) ?_; dsimp only)); refine box_event ?hg (N := 1) ?hd (cs := #[.int .i64 0, .int .i64 0, .slice none 0 0, .int .i64 0, .bool false, .bool false]) (t := 24) ?hr ?_; (case hd => rfl); (case hg => rfl); (case hr => first | (go_simp; done) | (go_simp; rfl)); intro m hg hD hbox hb; have x := Z (rb d.out hb); have y := Z (below_step bl_ hb); have z := Z (hbox); have D := Z ((le_new hg (below_size bl_) : w.heap.size ≤ m)); have E := Z ((le_new hg (below_size bl_) : w.heap.size ≤ m)); clear d HB; have d := x; have HB := y; have b := z; have cf := D; have cb := E; clear x y z D E; clear hb hbox hg; obtain ⟨d3, d4, d5, d6, d7, d8, gm, gn, go, gp, gq, gr⟩ := cells6 b.out) | ((with_reducible refine gate_store (t := 24) (p := 1) rfl ?_); refine store_event (t := 24) (p := 1) (v := ?vo_w67) (w1 := ((((((hD.setCell ⟨m, 0, none⟩ (.int .i64 1)).setCell ⟨m, 1, none⟩ (.int .i64 3)).setCell ⟨m, 2, none⟩ (.slice aU G.length aW)).setCell ⟨m, 3, none⟩ (.int .i64 1)).setCell ⟨m, 4, none⟩ (.bool false)).setCell ⟨m, 5, none⟩ (.bool false))) ?hg ?ho ?hn ?hr ?_; (case ho => rfl); (case hg => rfl); (case hn => rfl); (case hr => first | (go_simp; done) | (go_simp; rfl)); intro ca hw; have x : Aside0 (Kd.R k35 35 ca w.heap.size (fun _ => True) (.slice aU G.length aW) G) := ⟨(by rw [hw]; exact (by (with_reducible repeat apply pR); exact R_off d.out b.out (by decide) off2_))⟩; have y : Aside0 (ca.heap[m]? = some (.cells #[.int .i64 1, .int .i64 3, .slice aU G.length aW, .int .i64 1, .bool false, .bool false] 24 (0, 0))) := ⟨by rw [hw]; exact (put6 b.out)⟩; have z : Aside0 (Below w.heap.size w ca) := ⟨by rw [hw]; exact bl_⟩; clear hw d b HB; have d := x; have b := y; have HB := z; clear x y z; obtain ⟨d9, ea, eb, ec, ed, ee, gs, gt, gu, gv, gw, gx⟩ := cells6 b.out) | ((with_reducible refine gate_callee (f := 31) rfl ?_); refine goesL_ (some 15) rfl rfl Tryd.func31 (by kernel_rfl) rfl #[.agg #[.int .i64 1, .int .i64 3, .slice aU G.length aW, .int .i64 1, .bool false, .bool false], .int .u8 193] rfl ag_ ?_; (with_reducible refine (edit_Type.calls k 1 3 (fun k_ => some k_ = (.slice aU G.length aW : Value).ownBlock) _ _ G 1 false false 193 am an q L ao ap bM bq _ ?side1 A1.out).mono ?_); (case side1 => exact Kd.R_V (Kd.R_tight rfl (Kd.R_types (d.out) b.out (by decide)))); rintro e iI ⟨cI, bu, rfl, aO, a4, hb⟩; refine ⟨_, rfl, ?_⟩; have x := Z (rb d.out hb); have y := Z (Kd.V_lower (Kd.V_mono (ok' := fun k_ => k_ ≠ m) aO (fun k_ hk_ => Or.elim hk_ (fun hs_ => ((Kd.R_types (d.out) b.out (by decide)).1 k_ hs_.symm).2) (fun hn_ => (fb b.out k_ hn_)))) (below_size bl_)); have z := Z (Kd.V_lower (Kd.V_mono (ok' := fun k_ => k_ ≠ m) a4 (fun k_ hk_ => Or.elim hk_ (fun hs_ => ((Kd.R_types (d.out) b.out (by decide)).1 k_ hs_.symm).2) (fun hn_ => (fb b.out k_ hn_)))) (below_size bl_)); have D := Z (kb b.out hb); have E := Z (below_step bl_ hb); clear d b HB; have d := x; have j := y; have s := z; have b := D; have HB := E; clear x y z D E; (try clear hb); (try clear bB); (try clear hk); (try clear hi); (try clear aO); (try clear a4); (try simp only [errW_none, errW_some])) | ((with_reducible refine gate_dst (N := 2) rfl ?_); (try (refine gate_guard (by rfl) ?_; dsimp only)); refine box_event ?hg (N := 2) ?hd (cs := #[.int .i64 0, .int .i64 0, .slice none 0 0, .int .i64 0, .bool false, .bool false]) (t := 24) ?hr ?_; (case hd => rfl); (case hg => rfl); (case hr => first | (go_simp; done) | (go_simp; rfl)); intro u hg hE hbox hb; have x := Z (rb d.out hb); have y := Z (ve j.out hg hb); have z := Z (ve s.out hg hb); have D := Z (kb b.out hb); have E := Z (below_step bl_ hb); have I := Z (hbox); have J := Z ((le_new hg (below_size bl_) : w.heap.size ≤ u)); have K := Z ((le_new hg (below_size bl_) : w.heap.size ≤ u)); have ad := Z (nl b.out hg); have aD := Z (ng b.out hg); clear d j s b HB; have d := x; have j := y; have s := z; have b := D; have HB := E; have i := I; have cg := J; have cc := K; have aZ := ad; have a1 := aD; clear x y z D E I J K ad aD; clear hb hbox hg; have hT := a1.out; have h5 := aZ.out; obtain ⟨ef, eg, eh, ei, ej, ek, gy, gz, gA, gB, gC, gD⟩ := cells6 i.out; obtain ⟨bk, bp, cD⟩ := Kd.V_slice j.out; subst cD) | ((with_reducible refine gate_store (t := 24) (p := 2) rfl ?_); refine store_event (t := 24) (p := 2) (v := ?vo_w74) (w1 := ((((((hE.setCell ⟨u, 0, none⟩ (.int .i64 am)).setCell ⟨u, 1, none⟩ (.int .i64 an)).setCell ⟨u, 2, none⟩ (.slice bk q.length bp)).setCell ⟨u, 3, none⟩ (.int .i64 L)).setCell ⟨u, 4, none⟩ (.bool ao)).setCell ⟨u, 5, none⟩ (.bool ap))) ?hg ?ho ?hn ?hr ?_; (case ho => rfl); (case hg => rfl); (case hn => rfl); (case hr => first | (go_simp; done) | (go_simp; rfl)); intro bP hw; have x : Aside0 (Kd.R k35 35 bP w.heap.size (fun _ => True) (.slice aU G.length aW) G) := ⟨(by rw [hw]; exact (by (with_reducible repeat apply pR); exact R_off d.out i.out (by decide) off2_))⟩; have y : Aside0 (Kd.V k35 35 bP w.heap.size (fun k_ => k_ ≠ m ∧ k_ ≠ u) (.slice bk q.length bp) q) := ⟨(by rw [hw]; exact (by (with_reducible repeat apply pV); exact V_off j.out (fun k_ hk => hk.2) off2_ (fun _ hk => ⟨hk.1, hk.2⟩)))⟩; have z : Aside0 (Kd.V k164 164 bP w.heap.size (fun k_ => k_ ≠ m ∧ k_ ≠ u) bu bq) := ⟨(by rw [hw]; exact (by (with_reducible repeat apply pV); exact V_off s.out (fun k_ hk => hk.2) off2_ (fun _ hk => ⟨hk.1, hk.2⟩)))⟩; have D : Aside0 (bP.heap[m]? = some (.cells #[.int .i64 1, .int .i64 3, .slice aU G.length aW, .int .i64 1, .bool false, .bool false] 24 (0, 0))) := ⟨by rw [hw]; exact (blk_off b.out aZ.out off2_)⟩; have E : Aside0 (bP.heap[u]? = some (.cells #[.int .i64 am, .int .i64 an, .slice bk q.length bp, .int .i64 L, .bool ao, .bool ap] 24 (0, 0))) := ⟨by rw [hw]; exact (put6 i.out)⟩; have I : Aside0 (Below w.heap.size w bP) := ⟨by rw [hw]; exact bl_⟩; clear hw d j s b i HB; have d := x; have j := y; have s := z; have b := D; have i := E; have HB := I; clear x y z D E I; obtain ⟨el, em, en, eo, ep, eq, gE, gF, gG, gH, gI, gJ⟩ := cells6 i.out) | ((with_reducible refine gate_callee (f := 31) rfl ?_); refine goesL_ (some 20) rfl rfl Tryd.func31 (by kernel_rfl) rfl #[.agg #[.int .i64 am, .int .i64 an, .slice bk q.length bp, .int .i64 L, .bool ao, .bool ap], .int .u8 0] rfl ag_ ?_; (with_reducible refine (edit_Type.calls k am an (fun k_ => (k_ ≠ m ∧ k_ ≠ u)) _ _ q L ao ap 0 bb bc aB bd be bf bg aY _ ?side1 A2.out).mono ?_); (case side1 => exact j.out); rintro e iJ ⟨cJ, bN, rfl, aO, a4, hb⟩; refine ⟨_, rfl, ?_⟩; have x := Z (rb d.out hb); have y := Z (vb j.out hb); have z := Z (vb s.out hb); have D := Z (Kd.V_lower (Kd.V_mono (ok' := fun k_ => k_ ≠ m ∧ k_ ≠ u) aO (fun k_ hk_ => ⟨Or.elim hk_ (fun hs_ => hs_.1) (fun hn_ => (fb b.out k_ hn_)), Or.elim hk_ (fun hs_ => hs_.2) (fun hn_ => (fb i.out k_ hn_))⟩)) (below_size bl_)); have E := Z (Kd.V_lower (Kd.V_mono (ok' := fun k_ => k_ ≠ m ∧ k_ ≠ u) a4 (fun k_ hk_ => ⟨Or.elim hk_ (fun hs_ => hs_.1) (fun hn_ => (fb b.out k_ hn_)), Or.elim hk_ (fun hs_ => hs_.2) (fun hn_ => (fb i.out k_ hn_))⟩)) (below_size bl_)); have I := Z (kb b.out hb); have J := Z (kb i.out hb); have K := Z (below_step bl_ hb); clear d j s b i HB; have d := x; have j := y; have s := z; have C := D; have A := E; have b := I; have i := J; have HB := K; clear x y z D E I J K; (try clear hb); (try clear bB); (try clear hk); (try clear hi); (try clear aO); (try clear a4); (try simp only [errW_none, errW_some])) | ((with_reducible refine gate_dst (N := 4) rfl ?_); (try (refine gate_guard (by rfl) ?_; dsimp only)); refine box_event ?hg (N := 4) ?hd (cs := #[.int .i64 0, .int .i64 0, .slice none 0 0, .int .i64 0, .bool false, .bool false]) (t := 24) ?hr ?_; (case hd => rfl); (case hg => rfl); (case hr => first | (go_simp; done) | (go_simp; rfl)); intro B hg hF hbox hb; have x := Z (rb d.out hb); have y := Z (ve j.out hg hb); have z := Z (ve s.out hg hb); have D := Z (ve C.out hg hb); have E := Z (ve A.out hg hb); have I := Z (kb b.out hb); have J := Z (kb i.out hb); have K := Z (below_step bl_ hb); have ad := Z (hbox); have aD := Z ((le_new hg (below_size bl_) : w.heap.size ≤ B)); have ay := Z ((le_new hg (below_size bl_) : w.heap.size ≤ B)); have aN := Z (nl b.out hg); have aX := Z (ng b.out hg); have a5 := Z (nl i.out hg); have a6 := Z (ng i.out hg); clear d j s C A b i HB; have d := x; have j := y; have s := z; have C := D; have A := E; have b := I; have i := J; have HB := K; have l := ad; have ch := aD; have cd := ay; have a0 := aN; have a3 := aX; have a2 := a5; have bl := a6; clear x y z D E I J K ad aD ay aN aX a5 a6; clear hb hbox hg; have hU := a3.out; have h6 := a0.out; have hV := bl.out; have h7 := a2.out; obtain ⟨er, es, et, eu, ev, ew, gK, gL, gM, gN, gO, gP⟩ := cells6 l.out; obtain ⟨bD, bE, cE⟩ := Kd.V_slice C.out; subst cE) | ((with_reducible refine gate_store (t := 24) (p := 4) rfl ?_); refine store_event (t := 24) (p := 4) (v := ?vo_w82) (w1 := ((((((hF.setCell ⟨B, 0, none⟩ (.int .i64 bb)).setCell ⟨B, 1, none⟩ (.int .i64 bc)).setCell ⟨B, 2, none⟩ (.slice bD aB.length bE)).setCell ⟨B, 3, none⟩ (.int .i64 bd)).setCell ⟨B, 4, none⟩ (.bool be)).setCell ⟨B, 5, none⟩ (.bool bf))) ?hg ?ho ?hn ?hr ?_; (case ho => rfl); (case hg => rfl); (case hn => rfl); (case hr => first | (go_simp; done) | (go_simp; rfl)); intro bt hw; have x : Aside0 (Kd.R k35 35 bt w.heap.size (fun _ => True) (.slice aU G.length aW) G) := ⟨(by rw [hw]; exact (by (with_reducible repeat apply pR); exact R_off d.out l.out (by decide) off2_))⟩; have y : Aside0 (Kd.V k35 35 bt w.heap.size (fun k_ => k_ ≠ m ∧ k_ ≠ u ∧ k_ ≠ B) (.slice bk q.length bp) q) := ⟨(by rw [hw]; exact (by (with_reducible repeat apply pV); exact V_off j.out (fun k_ hk => hk.2) off2_ (fun _ hk => ⟨hk.1.1, ⟨hk.1.2, hk.2⟩⟩)))⟩; have z : Aside0 (Kd.V k164 164 bt w.heap.size (fun k_ => k_ ≠ m ∧ k_ ≠ u ∧ k_ ≠ B) bu bq) := ⟨(by rw [hw]; exact (by (with_reducible repeat apply pV); exact V_off s.out (fun k_ hk => hk.2) off2_ (fun _ hk => ⟨hk.1.1, ⟨hk.1.2, hk.2⟩⟩)))⟩; have D : Aside0 (Kd.V k35 35 bt w.heap.size (fun k_ => k_ ≠ m ∧ k_ ≠ u ∧ k_ ≠ B) (.slice bD aB.length bE) aB) := ⟨(by rw [hw]; exact (by (with_reducible repeat apply pV); exact V_off C.out (fun k_ hk => hk.2) off2_ (fun _ hk => ⟨hk.1.1, ⟨hk.1.2, hk.2⟩⟩)))⟩; have E : Aside0 (Kd.V k164 164 bt w.heap.size (fun k_ => k_ ≠ m ∧ k_ ≠ u ∧ k_ ≠ B) bN aY) := ⟨(by rw [hw]; exact (by (with_reducible repeat apply pV); exact V_off A.out (fun k_ hk => hk.2) off2_ (fun _ hk => ⟨hk.1.1, ⟨hk.1.2, hk.2⟩⟩)))⟩; have I : Aside0 (bt.heap[m]? = some (.cells #[.int .i64 1, .int .i64 3, .slice aU G.length aW, .int .i64 1, .bool false, .bool false] 24 (0, 0))) := ⟨by rw [hw]; exact (blk_off b.out a0.out off2_)⟩; have J : Aside0 (bt.heap[u]? = some (.cells #[.int .i64 am, .int .i64 an, .slice bk q.length bp, .int .i64 L, .bool ao, .bool ap] 24 (0, 0))) := ⟨by rw [hw]; exact (blk_off i.out a2.out off2_)⟩; have K : Aside0 (bt.heap[B]? = some (.cells #[.int .i64 bb, .int .i64 bc, .slice bD aB.length bE, .int .i64 bd, .bool be, .bool bf] 24 (0, 0))) := ⟨by rw [hw]; exact (put6 l.out)⟩; have ad : Aside0 (Below w.heap.size w bt) := ⟨by rw [hw]; exact bl_⟩; clear hw d j s C A b i l HB; have d := x; have j := y; have s := z; have C := D; have A := E; have b := I; have i := J; have l := K; have HB := ad; clear x y z D E I J K ad; obtain ⟨ex, ey, ez, eA, eB, eC, gQ, gR, gS, gT, gU, gV⟩ := cells6 b.out) | ((with_reducible refine gate_store (t := 3) (p := 23) rfl ?_); refine store_event (t := 3) (p := 23) (v := ?vo_w84) (w1 := (bt.setCell ⟨m, 3, none⟩ (.int .i64 0))) ?hg ?ho ?hn ?hr ?_; (case ho => rfl); (case hg => rfl); (case hn => rfl); (case hr => first | (go_simp; done) | (go_simp; rfl)); intro bx hw; have x : Aside0 (Kd.R k35 35 bx w.heap.size (fun _ => True) (.slice aU G.length aW) G) := ⟨(by rw [hw]; exact (by (with_reducible repeat apply pR); exact R_off d.out b.out (by decide) off2_))⟩; have y : Aside0 (Kd.V k35 35 bx w.heap.size (fun k_ => k_ ≠ m ∧ k_ ≠ u ∧ k_ ≠ B) (.slice bk q.length bp) q) := ⟨(by rw [hw]; exact (by (with_reducible repeat apply pV); exact V_off j.out (fun k_ hk => hk.1) off2_ (fun _ hk => ⟨hk.1, ⟨hk.2.1, hk.2.2⟩⟩)))⟩; have z : Aside0 (Kd.V k164 164 bx w.heap.size (fun k_ => k_ ≠ m ∧ k_ ≠ u ∧ k_ ≠ B) bu bq) := ⟨(by rw [hw]; exact (by (with_reducible repeat apply pV); exact V_off s.out (fun k_ hk => hk.1) off2_ (fun _ hk => ⟨hk.1, ⟨hk.2.1, hk.2.2⟩⟩)))⟩; have D : Aside0 (Kd.V k35 35 bx w.heap.size (fun k_ => k_ ≠ m ∧ k_ ≠ u ∧ k_ ≠ B) (.slice bD aB.length bE) aB) := ⟨(by rw [hw]; exact (by (with_reducible repeat apply pV); exact V_off C.out (fun k_ hk => hk.1) off2_ (fun _ hk => ⟨hk.1, ⟨hk.2.1, hk.2.2⟩⟩)))⟩; have E : Aside0 (Kd.V k164 164 bx w.heap.size (fun k_ => k_ ≠ m ∧ k_ ≠ u ∧ k_ ≠ B) bN aY) := ⟨(by rw [hw]; exact (by (with_reducible repeat apply pV); exact V_off A.out (fun k_ hk => hk.1) off2_ (fun _ hk => ⟨hk.1, ⟨hk.2.1, hk.2.2⟩⟩)))⟩; have I : Aside0 (bx.heap[m]? = some (.cells #[.int .i64 1, .int .i64 3, .slice aU G.length aW, .int .i64 0, .bool false, .bool false] 24 (0, 0))) := ⟨(by rw [hw]; exact (by (with_reducible repeat apply pK); refine blk_put (cs := #[.int .i64 1, .int .i64 3, .slice aU G.length aW, .int .i64 1, .bool false, .bool false]) ?_ 3 _ rfl; (with_reducible repeat apply pK); exact b.out))⟩; have J : Aside0 (bx.heap[u]? = some (.cells #[.int .i64 am, .int .i64 an, .slice bk q.length bp, .int .i64 L, .bool ao, .bool ap] 24 (0, 0))) := ⟨by rw [hw]; exact (blk_off i.out a1.out off2_)⟩; have K : Aside0 (bx.heap[B]? = some (.cells #[.int .i64 bb, .int .i64 bc, .slice bD aB.length bE, .int .i64 bd, .bool be, .bool bf] 24 (0, 0))) := ⟨by rw [hw]; exact (blk_off l.out a3.out off2_)⟩; have ad : Aside0 (Below w.heap.size w bx) := ⟨by rw [hw]; exact bl_⟩; clear hw d j s C A b i l HB; have d := x; have j := y; have s := z; have C := D; have A := E; have b := I; have i := J; have l := K; have HB := ad; clear x y z D E I J K ad; obtain ⟨eD, eE, eF, eG, eH, eI, gW, gX, gY, gZ, g0, g1⟩ := cells6 b.out) | ((with_reducible refine gate_callee (f := 31) rfl ?_); refine goesL_ (some 26) rfl rfl Tryd.func31 (by kernel_rfl) rfl #[.agg #[.int .i64 1, .int .i64 3, .slice aU G.length aW, .int .i64 0, .bool false, .bool false], .int .u8 193] rfl ag_ ?_; (with_reducible refine (edit_Type.calls k 1 3 (fun k_ => some k_ = (.slice aU G.length aW : Value).ownBlock) _ _ G 0 false false 193 aE aF ax aG br aH bh bi _ ?side1 A3.out).mono ?_); (case side1 => exact Kd.R_V (Kd.R_tight rfl (Kd.R_types (Kd.R_types (Kd.R_types (d.out) b.out (by decide)) i.out (by decide)) l.out (by decide)))); rintro e iK ⟨cK, cL, rfl, aO, a4, hb⟩; refine ⟨_, rfl, ?_⟩; have x := Z (rb d.out hb); have y := Z (vb j.out hb); have z := Z (vb s.out hb); have D := Z (vb C.out hb); have E := Z (vb A.out hb); have I := Z (Kd.V_lower (Kd.V_mono (ok' := fun k_ => k_ ≠ m ∧ k_ ≠ u ∧ k_ ≠ B) aO (fun k_ hk_ => ⟨Or.elim hk_ (fun hs_ => ((Kd.R_types (Kd.R_types (Kd.R_types (d.out) b.out (by decide)) i.out (by decide)) l.out (by decide)).1 k_ hs_.symm).1.1.2) (fun hn_ => (fb b.out k_ hn_)), Or.elim hk_ (fun hs_ => ((Kd.R_types (Kd.R_types (Kd.R_types (d.out) b.out (by decide)) i.out (by decide)) l.out (by decide)).1 k_ hs_.symm).1.2) (fun hn_ => (fb i.out k_ hn_)), Or.elim hk_ (fun hs_ => ((Kd.R_types (Kd.R_types (Kd.R_types (d.out) b.out (by decide)) i.out (by decide)) l.out (by decide)).1 k_ hs_.symm).2) (fun hn_ => (fb l.out k_ hn_))⟩)) (below_size bl_)); have J := Z (Kd.V_lower (Kd.V_mono (ok' := fun k_ => k_ ≠ m ∧ k_ ≠ u ∧ k_ ≠ B) a4 (fun k_ hk_ => ⟨Or.elim hk_ (fun hs_ => ((Kd.R_types (Kd.R_types (Kd.R_types (d.out) b.out (by decide)) i.out (by decide)) l.out (by decide)).1 k_ hs_.symm).1.1.2) (fun hn_ => (fb b.out k_ hn_)), Or.elim hk_ (fun hs_ => ((Kd.R_types (Kd.R_types (Kd.R_types (d.out) b.out (by decide)) i.out (by decide)) l.out (by decide)).1 k_ hs_.symm).1.2) (fun hn_ => (fb i.out k_ hn_)), Or.elim hk_ (fun hs_ => ((Kd.R_types (Kd.R_types (Kd.R_types (d.out) b.out (by decide)) i.out (by decide)) l.out (by decide)).1 k_ hs_.symm).2) (fun hn_ => (fb l.out k_ hn_))⟩)) (below_size bl_)); have K := Z (kb b.out hb); have ad := Z (kb i.out hb); have aD := Z (kb l.out hb); have ay := Z (below_step bl_ hb); clear d j s C A b i l HB; have d := x; have j := y; have s := z; have C := D; have A := E; have aJ := I; have az := J; have b := K; have i := ad; have l := aD; have HB := ay; clear x y z D E I J K ad aD ay; (try clear hb); (try clear bB); (try clear hk); (try clear hi); (try clear aO); (try clear a4); (try simp only [errW_none, errW_some])) | ((with_reducible refine gate_dst (N := 6) rfl ?_); (try (refine gate_guard (by rfl) ?_; dsimp only)); refine box_event ?hg (N := 6) ?hd (cs := #[.int .i64 0, .int .i64 0, .slice none 0 0, .int .i64 0, .bool false, .bool false]) (t := 24) ?hr ?_; (case hd => rfl); (case hg => rfl); (case hr => first | (go_simp; done) | (go_simp; rfl)); intro a hg iL hbox hb; have x := Z (rb d.out hb); have y := Z (ve j.out hg hb); have z := Z (ve s.out hg hb); have D := Z (ve C.out hg hb); have E := Z (ve A.out hg hb); have I := Z (ve aJ.out hg hb); have J := Z (ve az.out hg hb); have K := Z (kb b.out hb); have ad := Z (kb i.out hb); have aD := Z (kb l.out hb); have ay := Z (below_step bl_ hb); have aN := Z (hbox); have aX := Z ((le_new hg (below_size bl_) : w.heap.size ≤ a)); have a5 := Z ((le_new hg (below_size bl_) : w.heap.size ≤ a)); have a6 := Z (nl b.out hg); have bH := Z (ng b.out hg); have bI := Z (nl i.out hg); have bJ := Z (ng i.out hg); have bK := Z (nl l.out hg); have bL := Z (ng l.out hg); clear d j s C A aJ az b i l HB; have d := x; have j := y; have s := z; have C := D; have A := E; have aJ := I; have az := J; have b := K; have i := ad; have l := aD; have HB := ay; have aP := aN; have ci := aX; have ce := a5; have a7 := a6; have bm := bH; have a8 := bI; have bn := bJ; have a9 := bK; have bo := bL; clear x y z D E I J K ad aD ay aN aX a5 a6 bH bI bJ bK bL; clear hb hbox hg; have hW := bm.out; have h8 := a7.out; have hX := bn.out; have h9 := a8.out; have hY := bo.out; have ia := a9.out; obtain ⟨eJ, eK, eL, eM, eN, eO, g2, g3, g4, g5, g6, g7⟩ := cells6 aP.out; obtain ⟨ie, it, cF⟩ := Kd.V_slice aJ.out; subst cF; obtain ⟨eP, eQ, eR, eS, eT, eU, g8, g9, ha, hc, he, hf⟩ := cells6 i.out; obtain ⟨eV, eW, eX, eY, eZ, e0, hh, hj, hl, hm, hq, hs⟩ := cells6 l.out))
    go_ret
    exact ⟨by first | rfl | (simp [errW_none, errW_some] <;> rfl) | (simp [*, errW_none, errW_some] <;> rfl), bl_⟩
  ·rw [if_neg c5] at H
   exact absurd H (by simp)
 ·rw [if_neg c4] at H
  exact absurd H (by simp)

/-! ### shutterref11_mod: function 47 -/
def shutterref11_mod.l0 : Nat → Int → Int → Option (Int)
 | 0, _, _ => none
 | k + 1, b, a => if b < 0 then (shutterref11_mod.l0 k (wrap64 (b + a)) a) else (if a = 0 then (none) else (some (Int.tmod b a)))
def shutterref11_mod.f (k : Nat) (a0 : Int) (a1 : Int) : Option (Int) := shutterref11_mod.l0 k a0 a1
theorem shutterref11_mod.mono_l : ∀ k, (∀ b c, LeO (shutterref11_mod.l0 k b c) (shutterref11_mod.l0 (k + 1) b c))
 | 0 => fun _ _ r h => by simp [shutterref11_mod.l0] at h
 | k + 1 => by
  have a := shutterref11_mod.mono_l k
  ·intro b c
   unfold shutterref11_mod.l0
   repeat' first
   | (with_reducible exact a _ _)
   | (with_reducible exact LeO.refl _)
   | (with_reducible exact LeO.none _)
   | (with_reducible refine LeO.ite ?_ ?_)
   | (with_reducible refine LeO.bind ?_ (fun _ => ?_))
   | exact a _ _
   | exact LeO.none _
   | refine LeO.ite ?_ ?_
   | refine LeO.bind ?_ (fun _ => ?_)
theorem shutterref11_mod.mono : ∀ a0 a1 k, LeO (shutterref11_mod.f k a0 a1) (shutterref11_mod.f (k + 1) a0 a1) := by
 intro a0 a1 k
 have a := shutterref11_mod.mono_l k
 unfold shutterref11_mod.f
 repeat' first
   | (with_reducible exact a _ _)
   | (with_reducible exact LeO.refl _)
   | (with_reducible exact LeO.none _)
   | (with_reducible refine LeO.ite ?_ ?_)
   | (with_reducible refine LeO.bind ?_ (fun _ => ?_))
   | exact a _ _
   | exact LeO.none _
   | refine LeO.ite ?_ ?_
   | refine LeO.bind ?_ (fun _ => ?_)
set_option maxHeartbeats 8000000 in
set_option maxRecDepth 100000 in
theorem shutterref11_mod.calls (k : Nat) (a0 : Int) (a1 : Int) (r : Int) (w : World) (h : shutterref11_mod.f k a0 a1 = some r) :
  Calls Tryd.prog 47 #[.int .i64 a0, .int .i64 a1] w fun e w' => e = .returned (.int .i64 r) ∧ Drawn0 w w' := by
 have H : (shutterref11_mod.l0 k a0 a1) = some r := h
 clear h
 have H' := Z H
 clear H
 go_enter Tryd.func47, Tryd.ntmps47
 go_wp2
 go_loopg [0] k (fun kq i w' => ∃ (a : Int), i = .int .i64 a ∧ Aside0 (shutterref11_mod.l0 kq a a1 = some r) ∧ Aside0 (kq ≤ k) ∧ Drawn0 w w')
 case atStart => exact ⟨(a0), (by first | rfl | (simp; done) | (simp [*]; done)), H', ⟨Nat.le_refl _⟩, by repeat (first | exact Drawn0.refl _ | apply Drawn0.step)⟩
 case round =>
  clear H'
  try clear p2
  obtain ⟨a, rfl, HA, b, ⟨j, rfl⟩⟩ := hrel
  cases gk with
  | zero => exact absurd HA.out (by simp [shutterref11_mod.l0])
  | succ k1 =>
   have H := HA.out
   clear HA
   simp only [shutterref11_mod.l0] at H
   by_cases c3 : a < 0
   ·rw [if_pos c3] at H
    have c : decide (a < 0) = true := decide_eq_true c3
    clear c3
    have H' := Z H
    clear H
    go_wp2
    go_roundg k1
    case measure => have := b.out; omega
    case rel => exact ⟨(wrap64 (a + a1)), (by first | rfl | (simp; done) | (simp [*]; done)), H', ⟨by have := b.out; omega⟩, by repeat (first | exact Drawn0.refl _ | apply Drawn0.step)⟩
   ·rw [if_neg c3] at H
    have c : decide (a < 0) = false := decide_eq_false c3
    clear c3
    by_cases c4 : a1 = 0
    ·rw [if_pos c4] at H
     exact absurd H (by simp)
    ·rw [if_neg c4] at H
     have d : (a1 == 0) = false := beq_eq_false_iff_ne.mpr c4
     have g : (a1 != 0) = true := bne_iff_ne.mpr c4
     obtain rfl := Option.some.inj H
     go_wp2
     go_ret
     exact ⟨by first | rfl | (simp; done) | (simp [*]; done), by repeat (first | exact Drawn0.refl _ | apply Drawn0.step)⟩

/-! ### shutterref11_Begin: function 21 -/
def shutterref11_Begin.l0 : Nat → Int → Int → Int → Int → List (S35) → Int → Bool → Bool → Option (Int)
 | 0, _, _, _, _, _, _, _, _ => none
 | k + 1, j, i, c, d, a, e, g, h => if i < (a.length : Int) then ((shutterref11_mod.f k (wrap64 (j - i)) (a.length : Int)).bind fun b => (if 0 ≤ b then (if b < (a.length : Int) then (if (rd_T35 a b).f0 = true then (some b) else (shutterref11_Begin.l0 k j (wrap64 (i + 1)) c d a e g h)) else (none)) else (none))) else (some (-1))
def shutterref11_Begin.f (k : Nat) (a : Int) (b : Int) (g : List (S35)) (c : Int) (d : Bool) (e : Bool) (a1 : Int) : Option (Int) := shutterref11_Begin.l0 k a1 0 a b g c d e
theorem shutterref11_Begin.mono_l : ∀ k, (∀ b c d e f g i j, LeO (shutterref11_Begin.l0 k b c d e f g i j) (shutterref11_Begin.l0 (k + 1) b c d e f g i j))
 | 0 => fun _ _ _ _ _ _ _ _ r h => by simp [shutterref11_Begin.l0] at h
 | k + 1 => by
  have a := shutterref11_Begin.mono_l k
  ·intro b c d e f g i j
   unfold shutterref11_Begin.l0
   repeat' first
   | (with_reducible exact a _ _ _ _ _ _ _ _)
   | (with_reducible exact shutterref11_mod.mono _ _ _)
   | (with_reducible exact LeO.refl _)
   | (with_reducible exact LeO.none _)
   | (with_reducible refine LeO.ite ?_ ?_)
   | (with_reducible refine LeO.bind ?_ (fun _ => ?_))
   | exact a _ _ _ _ _ _ _ _
   | exact shutterref11_mod.mono _ _ _
   | exact LeO.none _
   | refine LeO.ite ?_ ?_
   | refine LeO.bind ?_ (fun _ => ?_)
theorem shutterref11_Begin.mono : ∀ a0 a1 b c a4 d e k, LeO (shutterref11_Begin.f k a0 a1 b c a4 d e) (shutterref11_Begin.f (k + 1) a0 a1 b c a4 d e) := by
 intro a0 a1 b c a4 d e k
 have a := shutterref11_Begin.mono_l k
 unfold shutterref11_Begin.f
 repeat' first
   | (with_reducible exact a _ _ _ _ _ _ _ _)
   | (with_reducible exact shutterref11_mod.mono _ _ _)
   | (with_reducible exact LeO.refl _)
   | (with_reducible exact LeO.none _)
   | (with_reducible refine LeO.ite ?_ ?_)
   | (with_reducible refine LeO.bind ?_ (fun _ => ?_))
   | exact a _ _ _ _ _ _ _ _
   | exact shutterref11_mod.mono _ _ _
   | exact LeO.none _
   | refine LeO.ite ?_ ?_
   | refine LeO.bind ?_ (fun _ => ?_)
set_option maxHeartbeats 8000000 in
set_option maxRecDepth 100000 in
theorem shutterref11_Begin.calls (k : Nat) (n : Int) (o : Int) (z : Option Addr) (A : Nat) (a : List (S35)) (p : Int) (q : Bool) (s : Bool) (a1 : Int) (r : Int) (w : World) (I : Kd.C k35 w z a.length a) (G : a.length ≤ A) (h : shutterref11_Begin.f k n o a p q s a1 = some r) :
  Calls Tryd.prog 21 #[.agg #[.int .i64 n, .int .i64 o, .slice z a.length A, .int .i64 p, .bool q, .bool s], .int .i64 a1] w fun e w' => e = .returned (.int .i64 r) ∧ Below w.heap.size w w' := by
 have aM := Tryd.underlying24
 have F := Z I
 have aJ := Z G
 clear I G
 have HB := Z (Below.refl w.heap.size w)
 have H : (shutterref11_Begin.l0 k a1 0 n o a p q s) = some r := h
 clear h
 have H' := Z H
 clear H
 go_enter Tryd.func21, Tryd.ntmps21
 go_wp2_with (first | ((with_reducible refine gate_dst (N := 2) rfl ?_); refine box_event ?hg (N := 2) ?hd (cs := #[.int .i64 n, .int .i64 o, .slice z a.length A, .int .i64 p, .bool q, .bool s]) (t := 24) ?hr ?_; (case hd => rfl); (case hg => rfl); (case hr => first | (go_simp; done) | (go_simp; rfl)); intro B hg w3 hbox hb; have O := Z (below_step bl_ hb); have P := Z (hbox); have Q := Z ((le_new hg (below_size bl_) : w.heap.size ≤ B)); have R := Z ((le_new hg (below_size bl_) : w.heap.size ≤ B)); clear HB; have HB := O; have v := P; have aI := Q; have aH := R; clear O P Q R; clear hb hbox hg))
 go_loopg [5] k (fun kq v5 w' => ∃ (j : Int), v5 = .int .i64 j ∧ Aside0 (shutterref11_Begin.l0 kq a1 j n o a p q s = some r) ∧ Aside0 (kq ≤ k) ∧ Aside0 (w'.heap[B]? = some (.cells #[.int .i64 n, .int .i64 o, (.slice z a.length A), .int .i64 p, .bool q, .bool s] 24 (0, 0))) ∧ Aside0 (Below w.heap.size w w'))
 case atStart => exact ⟨(0), (by first | rfl | (simp; done) | (simp [*]; done)), H', ⟨Nat.le_refl _⟩, ⟨by (with_reducible repeat apply pK); exact v.out⟩, ⟨bl_⟩⟩
 case round =>
  clear H'
  try clear c2
  try clear p2
  obtain ⟨j, rfl, HA, L, v, HB⟩ := hrel
  cases gk with
  | zero => exact absurd HA.out (by simp [shutterref11_Begin.l0])
  | succ k1 =>
   have H := HA.out
   clear HA
   simp only [shutterref11_Begin.l0] at H
   by_cases c4 : j < (a.length : Int)
   ·rw [if_pos c4] at H
    have S : decide (j < (a.length : Int)) = true := decide_eq_true c4
    clear c4
    replace H := Option.bind_eq_some_iff.mp H
    obtain ⟨b, K, H⟩ := H
    replace H : (if 0 ≤ b then (if b < (a.length : Int) then (if (rd_T35 a b).f0 = true then (some b) else (shutterref11_Begin.l0 k1 a1 (wrap64 (j + 1)) n o a p q s)) else (none)) else (none)) = some r := H
    have A5 := Z K
    clear K
    by_cases c6 : 0 ≤ b
    ·rw [if_pos c6] at H
     have aK : decide (0 ≤ b) = true := decide_eq_true c6
     clear c6
     by_cases c7 : b < (a.length : Int)
     ·rw [if_pos c7] at H
      have aL : decide (b < (a.length : Int)) = true := decide_eq_true c7
      clear c7
      obtain ⟨M, E⟩ : ∃ b_ : Bool, b_ = ((rd_T35 a b).f0) := ⟨_, rfl⟩
      replace H : (if M = true then (some b) else (shutterref11_Begin.l0 k1 a1 (wrap64 (j + 1)) n o a p q s)) = some r := by rw [← E] at H; exact H
      have u := Z E
      clear E
      by_cases c9 : M = true
      ·subst c9
       have H1 : (some b) = some r := by rw [if_pos rfl] at H; exact H
       clear H
       have H := H1
       clear H1
       obtain rfl := Option.some.inj H
       obtain ⟨T, U, V, W, X, Y, am, an, ao, ap, aq, ar⟩ := cells6 v.out
       go_wp2_with (first | ((with_reducible refine gate_callee (f := 47) rfl ?_); refine goesL_ (some 20) rfl rfl Tryd.func47 (by kernel_rfl) rfl #[.int .i64 (wrap64 (a1 - j)), .int .i64 (a.length : Int)] rfl ag_ ?_; (with_reducible refine (shutterref11_mod.calls k1 (wrap64 (a1 - j)) (a.length : Int) b _ A5.out).mono ?_); rintro e w' ⟨rfl, ⟨nd, rfl⟩⟩; refine ⟨_, rfl, ?_⟩; have x : 0 ≤ (b : Int) := od_; have y : b < (a.length : Int) := od_; obtain ⟨J, D, c, d, g, l, i, m⟩ := at_T35 F.out b x y; (try rw [← u.out] at c); (try rw [← u.out] at d); (try rw [← u.out] at g); (try rw [← u.out] at i); cases D; replace c := (HB.out.cell (bk_ w _ c)).trans c; replace d := (HB.out.cell (bk_ w _ d)).trans d; replace g := (HB.out.cell (bk_ w _ g)).trans g; replace l := (HB.out.cell (bk_ w _ l)).trans l; replace i := (HB.out.cell (bk_ w _ i)).trans i; replace m := (HB.out.cell (bk_ w _ m)).trans m; replace x := eq_true x; replace y := eq_true y))
       go_ret
       exact ⟨by first | rfl | (simp [errW_none, errW_some] <;> rfl) | (simp [*, errW_none, errW_some] <;> rfl), bl_⟩
      ·replace c9 := Bool.eq_false_iff.mpr c9
       subst c9
       have H1 : (shutterref11_Begin.l0 k1 a1 (wrap64 (j + 1)) n o a p q s) = some r := by rw [if_neg (show ¬ (false = true) by decide)] at H; exact H
       clear H
       have H := H1
       clear H1
       have H' := Z H
       clear H
       obtain ⟨aa, ab, ac, ad, ae, af, au, av, aw, ax, ay, az⟩ := cells6 v.out
       go_wp2_with (first | ((with_reducible refine gate_callee (f := 47) rfl ?_); refine goesL_ (some 20) rfl rfl Tryd.func47 (by kernel_rfl) rfl #[.int .i64 (wrap64 (a1 - j)), .int .i64 (a.length : Int)] rfl ag_ ?_; (with_reducible refine (shutterref11_mod.calls k1 (wrap64 (a1 - j)) (a.length : Int) b _ A5.out).mono ?_); rintro e w' ⟨rfl, ⟨nd, rfl⟩⟩; refine ⟨_, rfl, ?_⟩; have x : 0 ≤ (b : Int) := od_; have y : b < (a.length : Int) := od_; obtain ⟨J, D, c, d, g, l, i, m⟩ := at_T35 F.out b x y; (try rw [← u.out] at c); (try rw [← u.out] at d); (try rw [← u.out] at g); (try rw [← u.out] at i); cases D; replace c := (HB.out.cell (bk_ w _ c)).trans c; replace d := (HB.out.cell (bk_ w _ d)).trans d; replace g := (HB.out.cell (bk_ w _ g)).trans g; replace l := (HB.out.cell (bk_ w _ l)).trans l; replace i := (HB.out.cell (bk_ w _ i)).trans i; replace m := (HB.out.cell (bk_ w _ m)).trans m; replace x := eq_true x; replace y := eq_true y))
       go_roundg k1
       case measure => have := L.out; omega
       case rel => exact ⟨(wrap64 (j + 1)), (by first | rfl | (simp; done) | (simp [*]; done)), H', ⟨by have := L.out; omega⟩, ⟨by (with_reducible repeat apply pK); exact v.out⟩, ⟨bl_⟩⟩
     ·rw [if_neg c7] at H
      exact absurd H (by simp)
    ·rw [if_neg c6] at H
     exact absurd H (by simp)
   ·rw [if_neg c4] at H
    have S : decide (j < (a.length : Int)) = false := decide_eq_false c4
    clear c4
    obtain rfl := Option.some.inj H
    obtain ⟨ag, ah, ai, aj, ak, al, aA, aB, aC, aD, aE, aF⟩ := cells6 v.out
    go_wp2
    go_ret
    exact ⟨by first | rfl | (simp [errW_none, errW_some] <;> rfl) | (simp [*, errW_none, errW_some] <;> rfl), bl_⟩

/-! ### shutterref11_Of: function 48 -/
def shutterref11_Of.f (k : Nat) (c : Int) (d : Int) (b : List (S35)) (e : Int) (g : Bool) (h : Bool) (a1 : Int) : Option (Bool × Bool × Int × Bool) := (shutterref11_Begin.f k c d b e g h a1).bind fun a => (if a < 0 then (some (false, false, 0, false)) else (if 0 ≤ a then (if a < (b.length : Int) then (some ((rd_T35 b a).f1.f0, (rd_T35 b a).f1.f1, (rd_T35 b a).f1.f2, (rd_T35 b a).f1.f3)) else (none)) else (none)))
theorem shutterref11_Of.mono : ∀ a0 a1 a b a4 c d k, LeO (shutterref11_Of.f k a0 a1 a b a4 c d) (shutterref11_Of.f (k + 1) a0 a1 a b a4 c d) := by
 intro a0 a1 a b a4 c d k
 unfold shutterref11_Of.f
 repeat' first
   | (with_reducible exact shutterref11_Begin.mono _ _ _ _ _ _ _ _)
   | (with_reducible exact LeO.refl _)
   | (with_reducible exact LeO.none _)
   | (with_reducible refine LeO.ite ?_ ?_)
   | (with_reducible refine LeO.bind ?_ (fun _ => ?_))
   | exact shutterref11_Begin.mono _ _ _ _ _ _ _ _
   | exact LeO.none _
   | refine LeO.ite ?_ ?_
   | refine LeO.bind ?_ (fun _ => ?_)
set_option maxHeartbeats 8000000 in
set_option maxRecDepth 100000 in
theorem shutterref11_Of.calls (k : Nat) (l : Int) (m : Int) (x : Option Addr) (y : Nat) (b : List (S35)) (n : Int) (o : Bool) (p : Bool) (a1 : Int) (X : Bool) (Y : Bool) (r3 : Int) (r4 : Bool) (w : World) (S : Kd.C k35 w x b.length b) (R : b.length ≤ y) (h : shutterref11_Of.f k l m b n o p a1 = some (X, Y, r3, r4)) :
  Calls Tryd.prog 48 #[.agg #[.int .i64 l, .int .i64 m, .slice x b.length y, .int .i64 n, .bool o, .bool p], .int .i64 a1] w fun e w' => e = .returned (.agg #[.bool X, .bool Y, .int .i64 r3, .bool r4]) ∧ Below w.heap.size w w' := by
 have bh := Tryd.underlying24
 have bi := Tryd.underlying33
 have G := Z S
 have O := Z R
 clear S R
 have HB := Z (Below.refl w.heap.size w)
 have H : ((shutterref11_Begin.f k l m b n o p a1).bind fun a => (if a < 0 then (some (false, false, 0, false)) else (if 0 ≤ a then (if a < (b.length : Int) then (some ((rd_T35 b a).f1.f0, (rd_T35 b a).f1.f1, (rd_T35 b a).f1.f2, (rd_T35 b a).f1.f3)) else (none)) else (none)))) = some (X, Y, r3, r4) := h
 clear h
 replace H := Option.bind_eq_some_iff.mp H
 obtain ⟨a, ac, H⟩ := H
 replace H : (if a < 0 then (some (false, false, 0, false)) else (if 0 ≤ a then (if a < (b.length : Int) then (some ((rd_T35 b a).f1.f0, (rd_T35 b a).f1.f1, (rd_T35 b a).f1.f2, (rd_T35 b a).f1.f3)) else (none)) else (none))) = some (X, Y, r3, r4) := H
 have A3 := Z ac
 clear ac
 by_cases c4 : a < 0
 ·rw [if_pos c4] at H
  have ad : decide (a < 0) = true := decide_eq_true c4
  clear c4
  simp only [Option.some.injEq, Prod.mk.injEq] at H
  obtain ⟨rfl, rfl, rfl, rfl⟩ := H
  go_enter Tryd.func48, Tryd.ntmps48
  go_wp2_with (first | ((with_reducible refine gate_dst (N := 2) rfl ?_); refine box_event ?hg (N := 2) ?hd (cs := #[.int .i64 l, .int .i64 m, .slice x b.length y, .int .i64 n, .bool o, .bool p]) (t := 24) ?hr ?_; (case hd => rfl); (case hg => rfl); (case hr => first | (go_simp; done) | (go_simp; rfl)); intro v hg w5 hbox hb; have g := Z (below_step bl_ hb); have i := Z (hbox); have j := Z ((le_new hg (below_size bl_) : w.heap.size ≤ v)); have u := Z ((le_new hg (below_size bl_) : w.heap.size ≤ v)); clear HB; have HB := g; have c := i; have V := j; have T := u; clear g i j u; clear hb hbox hg) | ((with_reducible refine gate_dst (N := 4) rfl ?_); refine box_event ?hg (N := 4) ?hd (cs := #[.bool false, .bool false, .int .i64 0, .bool false]) (t := 33) ?hr ?_; (case hd => rfl); (case hg => rfl); (case hr => first | (go_simp; done) | (go_simp; rfl)); intro q hg w6 hbox hb; have g := Z (kb c.out hb); have i := Z (below_step bl_ hb); have j := Z (hbox); have u := Z ((le_new hg (below_size bl_) : w.heap.size ≤ q)); have I := Z ((le_new hg (below_size bl_) : w.heap.size ≤ q)); have J := Z (nl c.out hg); have K := Z (ng c.out hg); clear c HB; have c := g; have HB := i; have d := j; have W := u; have U := I; have r := J; have s := K; clear g i j u I J K; clear hb hbox hg; have bf := r.out; have bg := s.out; obtain ⟨aX, aY, aZ, a0, a2, a3, a4, a5, a6, a7, a8, a9⟩ := cells6 c.out) | ((with_reducible refine gate_callee (f := 21) rfl ?_); refine goesL_ (some 8) rfl rfl Tryd.func21 (by kernel_rfl) rfl #[.agg #[.int .i64 l, .int .i64 m, .slice x b.length y, .int .i64 n, .bool o, .bool p], .int .i64 a1] rfl ag_ ?_; (with_reducible refine (shutterref11_Begin.calls k l m _ _ b n o p a1 a _ ?side1 ?side2 A3.out).mono ?_); (case side1 => repeat (first | exact (Kd.C_below G.out HB.out) | (with_reducible apply pC))); (case side2 => exact O.out); rintro e w9 ⟨rfl, hb⟩; refine ⟨_, rfl, ?_⟩; have g := Z (kb c.out hb); have i := Z (kb d.out hb); have j := Z (below_step bl_ hb); clear c d HB; have c := g; have d := i; have HB := j; clear g i j; (try clear hb); (try clear aW); (try clear hk); (try clear hi); obtain ⟨af, ag, ah, ai, aB, aC, aD, aE⟩ := cells4 d.out))
  refine bodyPost_ret (results_cell_row rfl _ _ q 33 #[.bool false, .bool false, .int .i64 0, .bool false] (0, 0) _ rfl (by (with_reducible repeat apply pK); refine blk_put (cs := #[.bool false, .bool false, .int .i64 0, .bool false]) ?_ 3 _ rfl; (with_reducible repeat apply pK); refine blk_put (cs := #[.bool false, .bool false, .int .i64 0, .bool false]) ?_ 2 _ rfl; (with_reducible repeat apply pK); refine blk_put (cs := #[.bool false, .bool false, .int .i64 0, .bool false]) ?_ 1 _ rfl; (with_reducible repeat apply pK); refine blk_put (cs := #[.bool false, .bool false, .int .i64 0, .bool false]) ?_ 0 _ rfl; (with_reducible repeat apply pK); exact d.out) Tryd.underlying33 rfl (by kernel_rfl)) rfl ?_
  exact ⟨by first | rfl | (simp [errW_none, errW_some] <;> rfl) | (simp [*, errW_none, errW_some] <;> rfl), bl_⟩
 ·rw [if_neg c4] at H
  have ad : decide (a < 0) = false := decide_eq_false c4
  clear c4
  by_cases P : 0 ≤ a
  ·rw [if_pos P] at H
   have bb : decide (0 ≤ a) = true := decide_eq_true P
   clear P
   by_cases Q : a < (b.length : Int)
   ·rw [if_pos Q] at H
    have bc : decide (a < (b.length : Int)) = true := decide_eq_true Q
    clear Q
    simp only [Option.some.injEq, Prod.mk.injEq] at H
    obtain ⟨rfl, rfl, rfl, rfl⟩ := H
    go_enter Tryd.func48, Tryd.ntmps48
    go_wp2_with (first | ((with_reducible refine gate_dst (N := 2) rfl ?_); refine box_event ?hg (N := 2) ?hd (cs := #[.int .i64 l, .int .i64 m, .slice x b.length y, .int .i64 n, .bool o, .bool p]) (t := 24) ?hr ?_; (case hd => rfl); (case hg => rfl); (case hr => first | (go_simp; done) | (go_simp; rfl)); intro v hg bj hbox hb; have g := Z (below_step bl_ hb); have i := Z (hbox); have j := Z ((le_new hg (below_size bl_) : w.heap.size ≤ v)); have u := Z ((le_new hg (below_size bl_) : w.heap.size ≤ v)); clear HB; have HB := g; have c := i; have V := j; have T := u; clear g i j u; clear hb hbox hg) | ((with_reducible refine gate_dst (N := 4) rfl ?_); refine box_event ?hg (N := 4) ?hd (cs := #[.bool false, .bool false, .int .i64 0, .bool false]) (t := 33) ?hr ?_; (case hd => rfl); (case hg => rfl); (case hr => first | (go_simp; done) | (go_simp; rfl)); intro q hg bk hbox hb; have g := Z (kb c.out hb); have i := Z (below_step bl_ hb); have j := Z (hbox); have u := Z ((le_new hg (below_size bl_) : w.heap.size ≤ q)); have I := Z ((le_new hg (below_size bl_) : w.heap.size ≤ q)); have J := Z (nl c.out hg); have K := Z (ng c.out hg); clear c HB; have c := g; have HB := i; have d := j; have W := u; have U := I; have r := J; have s := K; clear g i j u I J K; clear hb hbox hg; have bd := r.out; have be := s.out; obtain ⟨aj, ak, al, am, an, ao, aF, aG, aH, aI, aJ, aK⟩ := cells6 c.out) | ((with_reducible refine gate_callee (f := 21) rfl ?_); refine goesL_ (some 8) rfl rfl Tryd.func21 (by kernel_rfl) rfl #[.agg #[.int .i64 l, .int .i64 m, .slice x b.length y, .int .i64 n, .bool o, .bool p], .int .i64 a1] rfl ag_ ?_; (with_reducible refine (shutterref11_Begin.calls k l m _ _ b n o p a1 a _ ?side1 ?side2 A3.out).mono ?_); (case side1 => repeat (first | exact (Kd.C_below G.out HB.out) | (with_reducible apply pC))); (case side2 => exact O.out); rintro e bl ⟨rfl, hb⟩; refine ⟨_, rfl, ?_⟩; have g := Z (kb c.out hb); have i := Z (kb d.out hb); have j := Z (below_step bl_ hb); clear c d HB; have c := g; have d := i; have HB := j; clear g i j; (try clear hb); (try clear aW); (try clear hk); (try clear hi); obtain ⟨ap, aq, ar, au, av, aw, aL, aM, aN, aO, aP, aQ⟩ := cells6 c.out; have L : 0 ≤ (a : Int) := od_; have M : a < (b.length : Int) := od_; obtain ⟨ba, ae, z, A, B, D, E, F⟩ := at_T35 G.out a L M; cases ae; replace z := (HB.out.cell (bk_ w _ z)).trans z; replace A := (HB.out.cell (bk_ w _ A)).trans A; replace B := (HB.out.cell (bk_ w _ B)).trans B; replace D := (HB.out.cell (bk_ w _ D)).trans D; replace E := (HB.out.cell (bk_ w _ E)).trans E; replace F := (HB.out.cell (bk_ w _ F)).trans F; replace L := eq_true L; replace M := eq_true M; obtain ⟨ax, ay, az, aA, aR, aS, aT, aU⟩ := cells4 d.out))
    refine bodyPost_ret (results_cell_row rfl _ _ q 33 #[.bool ((rd_T35 b a).f1.f0), .bool ((rd_T35 b a).f1.f1), .int .i64 ((rd_T35 b a).f1.f2), .bool ((rd_T35 b a).f1.f3)] (0, 0) _ rfl (by (with_reducible repeat apply pK); refine blk_put (cs := #[.bool ((rd_T35 b a).f1.f0), .bool ((rd_T35 b a).f1.f1), .int .i64 ((rd_T35 b a).f1.f2), .bool false]) ?_ 3 _ rfl; (with_reducible repeat apply pK); refine blk_put (cs := #[.bool ((rd_T35 b a).f1.f0), .bool ((rd_T35 b a).f1.f1), .int .i64 0, .bool false]) ?_ 2 _ rfl; (with_reducible repeat apply pK); refine blk_put (cs := #[.bool ((rd_T35 b a).f1.f0), .bool false, .int .i64 0, .bool false]) ?_ 1 _ rfl; (with_reducible repeat apply pK); refine blk_put (cs := #[.bool false, .bool false, .int .i64 0, .bool false]) ?_ 0 _ rfl; (with_reducible repeat apply pK); exact d.out) Tryd.underlying33 rfl (by kernel_rfl)) rfl ?_
    exact ⟨by first | rfl | (simp [errW_none, errW_some] <;> rfl) | (simp [*, errW_none, errW_some] <;> rfl), bl_⟩
   ·rw [if_neg Q] at H
    exact absurd H (by simp)
  ·rw [if_neg P] at H
   exact absurd H (by simp)

/-! ### shutterref11_Open: function 22 -/
def shutterref11_Open.f (k : Nat) (c : Int) (d : Int) (a : List (S35)) (e : Int) (g : Bool) (h : Bool) (a1 : Int) : Option (Bool) := if 0 ≤ a1 then (if a1 < (a.length : Int) then (if ((rd_T35 a a1).f0 = true) then (some false) else ((shutterref11_Of.f k c d a e g h a1).bind fun b => (some (!b.1)))) else (none)) else (none)
theorem shutterref11_Open.mono : ∀ a0 a1 a b a4 c d k, LeO (shutterref11_Open.f k a0 a1 a b a4 c d) (shutterref11_Open.f (k + 1) a0 a1 a b a4 c d) := by
 intro a0 a1 a b a4 c d k
 unfold shutterref11_Open.f
 repeat' first
   | (with_reducible exact shutterref11_Of.mono _ _ _ _ _ _ _ _)
   | (with_reducible exact LeO.refl _)
   | (with_reducible exact LeO.none _)
   | (with_reducible refine LeO.ite ?_ ?_)
   | (with_reducible refine LeO.bind ?_ (fun _ => ?_))
   | exact shutterref11_Of.mono _ _ _ _ _ _ _ _
   | exact LeO.none _
   | refine LeO.ite ?_ ?_
   | refine LeO.bind ?_ (fun _ => ?_)
set_option maxHeartbeats 8000000 in
set_option maxRecDepth 100000 in
theorem shutterref11_Open.calls (k : Nat) (m : Int) (n : Int) (B : Option Addr) (E : Nat) (a : List (S35)) (o : Int) (p : Bool) (q : Bool) (a1 : Int) (r : Bool) (w : World) (L : Kd.C k35 w B a.length a) (K : a.length ≤ E) (h : shutterref11_Open.f k m n a o p q a1 = some r) :
  Calls Tryd.prog 22 #[.agg #[.int .i64 m, .int .i64 n, .slice B a.length E, .int .i64 o, .bool p, .bool q], .int .i64 a1] w fun e w' => e = .returned (.bool r) ∧ Below w.heap.size w w' := by
 have aB := Tryd.underlying24
 have aC := Tryd.underlying33
 have D := Z L
 have Q := Z K
 clear L K
 have HB := Z (Below.refl w.heap.size w)
 have H : (if 0 ≤ a1 then (if a1 < (a.length : Int) then (if ((rd_T35 a a1).f0 = true) then (some false) else ((shutterref11_Of.f k m n a o p q a1).bind fun x => (some (!x.1)))) else (none)) else (none)) = some r := h
 clear h
 by_cases c3 : 0 ≤ a1
 ·rw [if_pos c3] at H
  have az : decide (0 ≤ a1) = true := decide_eq_true c3
  clear c3
  by_cases c4 : a1 < (a.length : Int)
  ·rw [if_pos c4] at H
   have aA : decide (a1 < (a.length : Int)) = true := decide_eq_true c4
   clear c4
   obtain ⟨T, J⟩ : ∃ b_ : Bool, b_ = ((rd_T35 a a1).f0) := ⟨_, rfl⟩
   replace H : (if (T = true) then (some false) else ((shutterref11_Of.f k m n a o p q a1).bind fun x => (some (!x.1)))) = some r := by rw [← J] at H; exact H
   have l := Z J
   clear J
   by_cases c6 : (T = true)
   ·subst c6
    have H1 : (some false) = some r := by rw [if_pos rfl] at H; exact H
    clear H
    have H := H1
    clear H1
    obtain rfl := Option.some.inj H
    go_enter Tryd.func22, Tryd.ntmps22
    go_wp2_with (first | ((with_reducible refine gate_dst (N := 2) rfl ?_); refine box_event ?hg (N := 2) ?hd (cs := #[.int .i64 m, .int .i64 n, .slice B a.length E, .int .i64 o, .bool p, .bool q]) (t := 24) ?hr ?_; (case hd => rfl); (case hg => rfl); (case hr => first | (go_simp; done) | (go_simp; rfl)); intro y hg w7 hbox hb; have z := Z (below_step bl_ hb); have A := Z (hbox); have F := Z ((le_new hg (below_size bl_) : w.heap.size ≤ y)); have G := Z ((le_new hg (below_size bl_) : w.heap.size ≤ y)); clear HB; have HB := z; have s := A; have P := F; have O := G; clear z A F G; clear hb hbox hg; obtain ⟨ak, al, am, an, ao, ap, aq, ar, au, av, aw, ax⟩ := cells6 s.out; have u : 0 ≤ (a1 : Int) := od_; have v : a1 < (a.length : Int) := od_; obtain ⟨R, I, b, c, d, i, g, j⟩ := at_T35 D.out a1 u v; (try rw [← l.out] at b); (try rw [← l.out] at c); (try rw [← l.out] at d); (try rw [← l.out] at g); cases I; replace b := (HB.out.cell (bk_ w _ b)).trans b; replace c := (HB.out.cell (bk_ w _ c)).trans c; replace d := (HB.out.cell (bk_ w _ d)).trans d; replace i := (HB.out.cell (bk_ w _ i)).trans i; replace g := (HB.out.cell (bk_ w _ g)).trans g; replace j := (HB.out.cell (bk_ w _ j)).trans j; replace u := eq_true u; replace v := eq_true v))
    go_ret
    exact ⟨by first | rfl | (simp [errW_none, errW_some] <;> rfl) | (simp [*, errW_none, errW_some] <;> rfl), bl_⟩
   ·replace c6 := Bool.eq_false_iff.mpr c6
    subst c6
    have H1 : ((shutterref11_Of.f k m n a o p q a1).bind fun x => (some (!x.1))) = some r := by rw [if_neg (show ¬ (false = true) by decide)] at H; exact H
    clear H
    have H := H1
    clear H1
    replace H := Option.bind_eq_some_iff.mp H
    obtain ⟨⟨M, U, V, W⟩, S, H⟩ := H
    replace H : (some (!M)) = some r := H
    have A9 := Z S
    clear S
    obtain rfl := Option.some.inj H
    go_enter Tryd.func22, Tryd.ntmps22
    go_wp2_with (first | ((with_reducible refine gate_dst (N := 2) rfl ?_); refine box_event ?hg (N := 2) ?hd (cs := #[.int .i64 m, .int .i64 n, .slice B a.length E, .int .i64 o, .bool p, .bool q]) (t := 24) ?hr ?_; (case hd => rfl); (case hg => rfl); (case hr => first | (go_simp; done) | (go_simp; rfl)); intro y hg aE hbox hb; have z := Z (below_step bl_ hb); have A := Z (hbox); have F := Z ((le_new hg (below_size bl_) : w.heap.size ≤ y)); have G := Z ((le_new hg (below_size bl_) : w.heap.size ≤ y)); clear HB; have HB := z; have s := A; have P := F; have O := G; clear z A F G; clear hb hbox hg; obtain ⟨X, Y, aa, ab, ac, ad, ae, af, ag, ah, ai, aj⟩ := cells6 s.out; have u : 0 ≤ (a1 : Int) := od_; have v : a1 < (a.length : Int) := od_; obtain ⟨R, I, b, c, d, i, g, j⟩ := at_T35 D.out a1 u v; (try rw [← l.out] at b); (try rw [← l.out] at c); (try rw [← l.out] at d); (try rw [← l.out] at g); cases I; replace b := (HB.out.cell (bk_ w _ b)).trans b; replace c := (HB.out.cell (bk_ w _ c)).trans c; replace d := (HB.out.cell (bk_ w _ d)).trans d; replace i := (HB.out.cell (bk_ w _ i)).trans i; replace g := (HB.out.cell (bk_ w _ g)).trans g; replace j := (HB.out.cell (bk_ w _ j)).trans j; replace u := eq_true u; replace v := eq_true v) | (go_at_call 48; (with_reducible refine (shutterref11_Of.calls k m n _ _ a o p q a1 M U V W _ ?side1 ?side2 A9.out).mono ?_); (case side1 => repeat (first | exact (Kd.C_below D.out HB.out) | (with_reducible apply pC))); (case side2 => exact Q.out); rintro e aF ⟨rfl, hb⟩; have z := Z (kb s.out hb); have A := Z (below_step bl_ hb); clear s HB; have s := z; have HB := A; clear z A; (try clear hb); (try clear aD); (try clear hk); (try clear hi)))
    go_ret
    exact ⟨by first | rfl | (simp [errW_none, errW_some] <;> rfl) | (simp [*, errW_none, errW_some] <;> rfl), bl_⟩
  ·rw [if_neg c4] at H
   exact absurd H (by simp)
 ·rw [if_neg c3] at H
  exact absurd H (by simp)

/-! ### shutterref11_Cells: function 57 -/
def shutterref11_Cells.l0 : Nat → List Int → Int → Int → Int → Int → List (S35) → Int → Bool → Bool → Option (List Int)
 | 0, _, _, _, _, _, _, _, _, _ => none
 | k + 1, i, l, j, c, d, a, e, g, h => if j ≤ (a.length : Int) then ((shutterref11_mod.f k (wrap64 (l + j)) (a.length : Int)).bind fun b => (if 0 ≤ b then (if b < (a.length : Int) then (if (rd_T35 a b).f0 = true then (some i) else (if i.length < 17592186044416 then (shutterref11_Cells.l0 k (i ++ [b]) l (wrap64 (j + 1)) c d a e g h) else (none))) else (none)) else (none))) else (some i)
def shutterref11_Cells.f (k : Nat) (a : Int) (b : Int) (g : List (S35)) (c : Int) (d : Bool) (e : Bool) (a1 : Int) : Option (List Int) := (shutterref11_Begin.f k a b g c d e a1).bind fun h => (shutterref11_Cells.l0 k ([] : List Int) h 1 a b g c d e)
theorem shutterref11_Cells.mono_l : ∀ k, (∀ b c d e f g i j l, LeO (shutterref11_Cells.l0 k b c d e f g i j l) (shutterref11_Cells.l0 (k + 1) b c d e f g i j l))
 | 0 => fun _ _ _ _ _ _ _ _ _ r h => by simp [shutterref11_Cells.l0] at h
 | k + 1 => by
  have a := shutterref11_Cells.mono_l k
  ·intro b c d e f g i j l
   unfold shutterref11_Cells.l0
   repeat' first
   | (with_reducible exact a _ _ _ _ _ _ _ _ _)
   | (with_reducible exact shutterref11_Begin.mono _ _ _ _ _ _ _ _)
   | (with_reducible exact shutterref11_mod.mono _ _ _)
   | (with_reducible exact LeO.refl _)
   | (with_reducible exact LeO.none _)
   | (with_reducible refine LeO.ite ?_ ?_)
   | (with_reducible refine LeO.bind ?_ (fun _ => ?_))
   | exact a _ _ _ _ _ _ _ _ _
   | exact shutterref11_Begin.mono _ _ _ _ _ _ _ _
   | exact shutterref11_mod.mono _ _ _
   | exact LeO.none _
   | refine LeO.ite ?_ ?_
   | refine LeO.bind ?_ (fun _ => ?_)
theorem shutterref11_Cells.mono : ∀ a0 a1 b c a4 d e k, LeO (shutterref11_Cells.f k a0 a1 b c a4 d e) (shutterref11_Cells.f (k + 1) a0 a1 b c a4 d e) := by
 intro a0 a1 b c a4 d e k
 have a := shutterref11_Cells.mono_l k
 unfold shutterref11_Cells.f
 repeat' first
   | (with_reducible exact a _ _ _ _ _ _ _ _ _)
   | (with_reducible exact shutterref11_Begin.mono _ _ _ _ _ _ _ _)
   | (with_reducible exact shutterref11_mod.mono _ _ _)
   | (with_reducible exact LeO.refl _)
   | (with_reducible exact LeO.none _)
   | (with_reducible refine LeO.ite ?_ ?_)
   | (with_reducible refine LeO.bind ?_ (fun _ => ?_))
   | exact a _ _ _ _ _ _ _ _ _
   | exact shutterref11_Begin.mono _ _ _ _ _ _ _ _
   | exact shutterref11_mod.mono _ _ _
   | exact LeO.none _
   | refine LeO.ite ?_ ?_
   | refine LeO.bind ?_ (fun _ => ?_)
set_option maxHeartbeats 8000000 in
set_option maxRecDepth 100000 in
theorem shutterref11_Cells.calls (k : Nat) (n : Int) (p : Int) (L : Option Addr) (G : Nat) (a : List (S35)) (q : Int) (s : Bool) (u : Bool) (a1 : Int) (r : List Int) (w : World) (W : Kd.C k35 w L a.length a) (V : a.length ≤ G) (h : shutterref11_Cells.f k n p a q s u a1 = some r) :
  Calls Tryd.prog 57 #[.agg #[.int .i64 n, .int .i64 p, .slice L a.length G, .int .i64 q, .bool s, .bool u], .int .i64 a1] w fun e w' => ∃ ax : Value, e = .returned (ax) ∧ Kd.R (Kd.int .i64) 3 w' w.heap.size (fun _ => True) ax r ∧ Below w.heap.size w w' := by
 have bm := Tryd.underlying24
 have M := Z W
 have an := Z V
 clear W V
 have HB := Z (Below.refl w.heap.size w)
 have H : ((shutterref11_Begin.f k n p a q s u a1).bind fun A => (shutterref11_Cells.l0 k ([] : List Int) A 1 n p a q s u)) = some r := h
 clear h
 replace H := Option.bind_eq_some_iff.mp H
 obtain ⟨A, ar, H⟩ := H
 replace H : (shutterref11_Cells.l0 k ([] : List Int) A 1 n p a q s u) = some r := H
 have A3 := Z ar
 clear ar
 have H' := Z H
 clear H
 go_enter Tryd.func57, Tryd.ntmps57
 go_wp2_with (first | ((with_reducible refine gate_dst (N := 2) rfl ?_); refine box_event ?hg (N := 2) ?hd (cs := #[.int .i64 n, .int .i64 p, .slice L a.length G, .int .i64 q, .bool s, .bool u]) (t := 24) ?hr ?_; (case hd => rfl); (case hg => rfl); (case hr => first | (go_simp; done) | (go_simp; rfl)); intro K hg w4 hbox hb; have I := Z (below_step bl_ hb); have J := Z (hbox); have P := Z ((le_new hg (below_size bl_) : w.heap.size ≤ K)); have aw := Z ((le_new hg (below_size bl_) : w.heap.size ≤ K)); clear HB; have HB := I; have d := J; have bi := P; have bh := aw; clear I J P aw; clear hb hbox hg; obtain ⟨aa, ab, ac, ad, ae, af, ag, ah, ai, aj, ak, al⟩ := cells6 d.out) | ((with_reducible refine gate_callee (f := 21) rfl ?_); refine goesL_ (some 11) rfl rfl Tryd.func21 (by kernel_rfl) rfl #[.agg #[.int .i64 n, .int .i64 p, .slice L a.length G, .int .i64 q, .bool s, .bool u], .int .i64 a1] rfl ag_ ?_; (with_reducible refine (shutterref11_Begin.calls k n p _ _ a q s u a1 A _ ?side1 ?side2 A3.out).mono ?_); (case side1 => repeat (first | exact (Kd.C_below M.out HB.out) | (with_reducible apply pC))); (case side2 => exact an.out); rintro e w6 ⟨rfl, hb⟩; refine ⟨_, rfl, ?_⟩; have I := Z (kb d.out hb); have J := Z (below_step bl_ hb); clear d HB; have d := I; have HB := J; clear I J; (try clear hb); (try clear bq); (try clear hk); (try clear hi)))
 go_loopg [5, 7] k (fun kq v5 v7 w' => ∃ (v : List Int) (x : Int), v7 = .int .i64 x ∧ Aside0 (shutterref11_Cells.l0 kq v A x n p a q s u = some r) ∧ Aside0 (kq ≤ k) ∧ Aside0 (Kd.R (Kd.int .i64) 3 w' w.heap.size (fun _ => True) v5 v) ∧ Aside0 (w'.heap[K]? = some (.cells #[.int .i64 n, .int .i64 p, (.slice L a.length G), .int .i64 q, .bool s, .bool u] 24 (0, 0))) ∧ Aside0 (Below w.heap.size w w'))
 case atStart => exact ⟨(([] : List Int)), (1), (by first | rfl | (simp; done) | (simp [*]; done)), H', ⟨Nat.le_refl _⟩, ⟨by first | exact Kd.R_nil _ _ _ _ _ | exact Kd.N_nil _ _ _ _ _ | exact Kd.V_nil _ _ _ _ _ | exact Kd.Q_nil _ _ _ _ _ | exact Kd.S_nil _ _ _ _ _⟩, ⟨by (with_reducible repeat apply pK); exact d.out⟩, ⟨bl_⟩⟩
 case round =>
  clear H'
  try clear c2
  try clear p2
  try clear c5
  try clear aa
  try clear ab
  try clear ac
  try clear ad
  try clear ae
  try clear af
  try clear ag
  try clear ah
  try clear ai
  try clear aj
  try clear ak
  try clear al
  obtain ⟨v, x, rfl, HA, av, HO_5, d, HB⟩ := hrel
  cases gk with
  | zero => exact absurd HA.out (by simp [shutterref11_Cells.l0])
  | succ k1 =>
   have H := HA.out
   clear HA
   simp only [shutterref11_Cells.l0] at H
   by_cases c7 : x ≤ (a.length : Int)
   ·rw [if_pos c7] at H
    have ay : decide (x ≤ (a.length : Int)) = true := decide_eq_true c7
    clear c7
    replace H := Option.bind_eq_some_iff.mp H
    obtain ⟨c, au, H⟩ := H
    replace H : (if 0 ≤ c then (if c < (a.length : Int) then (if (rd_T35 a c).f0 = true then (some v) else (if v.length < 17592186044416 then (shutterref11_Cells.l0 k1 (v ++ [c]) A (wrap64 (x + 1)) n p a q s u) else (none))) else (none)) else (none)) = some r := H
    have A8 := Z au
    clear au
    by_cases c9 : 0 ≤ c
    ·rw [if_pos c9] at H
     have bl : decide (0 ≤ c) = true := decide_eq_true c9
     clear c9
     by_cases c10 : c < (a.length : Int)
     ·rw [if_pos c10] at H
      have bj : decide (c < (a.length : Int)) = true := decide_eq_true c10
      clear c10
      obtain ⟨Y, O⟩ : ∃ b_ : Bool, b_ = ((rd_T35 a c).f0) := ⟨_, rfl⟩
      replace H : (if Y = true then (some v) else (if v.length < 17592186044416 then (shutterref11_Cells.l0 k1 (v ++ [c]) A (wrap64 (x + 1)) n p a q s u) else (none))) = some r := by rw [← O] at H; exact H
      have B := Z O
      clear O
      by_cases T : Y = true
      ·subst T
       have H1 : (some v) = some r := by rw [if_pos rfl] at H; exact H
       clear H
       have H := H1
       clear H1
       obtain rfl := Option.some.inj H
       obtain ⟨az, aA, aC, aD, aE, aG, aX, aY, aZ, a0, a2, a3⟩ := cells6 d.out
       go_wp2_with (first | ((with_reducible refine gate_callee (f := 47) rfl ?_); refine goesL_ (some 25) rfl rfl Tryd.func47 (by kernel_rfl) rfl #[.int .i64 (wrap64 (A + x)), .int .i64 (a.length : Int)] rfl ag_ ?_; (with_reducible refine (shutterref11_mod.calls k1 (wrap64 (A + x)) (a.length : Int) c _ A8.out).mono ?_); rintro e w' ⟨rfl, ⟨nd, rfl⟩⟩; refine ⟨_, rfl, ?_⟩; have D : 0 ≤ (c : Int) := od_; have E : c < (a.length : Int) := od_; obtain ⟨S, Q, i, j, l, y, m, z⟩ := at_T35 M.out c D E; (try rw [← B.out] at i); (try rw [← B.out] at j); (try rw [← B.out] at l); (try rw [← B.out] at m); cases Q; replace i := (HB.out.cell (bk_ w _ i)).trans i; replace j := (HB.out.cell (bk_ w _ j)).trans j; replace l := (HB.out.cell (bk_ w _ l)).trans l; replace y := (HB.out.cell (bk_ w _ y)).trans y; replace m := (HB.out.cell (bk_ w _ m)).trans m; replace z := (HB.out.cell (bk_ w _ z)).trans z; replace D := eq_true D; replace E := eq_true E))
       go_ret
       exact ⟨_, by first | rfl | (simp [errW_none, errW_some] <;> rfl) | (simp [*, errW_none, errW_some] <;> rfl), by (with_reducible repeat apply pR); exact HO_5.out, bl_⟩
      ·replace T := Bool.eq_false_iff.mpr T
       subst T
       have H1 : (if v.length < 17592186044416 then (shutterref11_Cells.l0 k1 (v ++ [c]) A (wrap64 (x + 1)) n p a q s u) else (none)) = some r := by rw [if_neg (show ¬ (false = true) by decide)] at H; exact H
       clear H
       have H := H1
       clear H1
       by_cases U : v.length < 17592186044416
       ·rw [if_pos U] at H
        have ap := Z U
        clear U
        obtain ⟨am, F⟩ : ∃ y_ : List Int, y_ = (v ++ [c]) := ⟨_, rfl⟩
        replace H : (shutterref11_Cells.l0 k1 am A (wrap64 (x + 1)) n p a q s u) = some r := by first | (rw [F]; with_reducible exact H) | (have X := (Option.bind_some _ _).symm.trans H; rw [F]; with_reducible exact X) | (have X := (Option.bind_some _ _).symm.trans H; with_reducible exact X) | with_reducible exact H | (rw [F]; exact H) | exact H
        have aq := Z F
        clear F
        have H' := Z H
        clear H
        obtain ⟨aH, aI, aJ, aK, aM, aN, a4, a5, a6, a7, a8, a9⟩ := cells6 d.out
        go_wp2_with (first | ((with_reducible refine gate_callee (f := 47) rfl ?_); refine goesL_ (some 25) rfl rfl Tryd.func47 (by kernel_rfl) rfl #[.int .i64 (wrap64 (A + x)), .int .i64 (a.length : Int)] rfl ag_ ?_; (with_reducible refine (shutterref11_mod.calls k1 (wrap64 (A + x)) (a.length : Int) c _ A8.out).mono ?_); rintro e w' ⟨rfl, ⟨nd, rfl⟩⟩; refine ⟨_, rfl, ?_⟩; have D : 0 ≤ (c : Int) := od_; have E : c < (a.length : Int) := od_; obtain ⟨S, Q, i, j, l, y, m, z⟩ := at_T35 M.out c D E; (try rw [← B.out] at i); (try rw [← B.out] at j); (try rw [← B.out] at l); (try rw [← B.out] at m); cases Q; replace i := (HB.out.cell (bk_ w _ i)).trans i; replace j := (HB.out.cell (bk_ w _ j)).trans j; replace l := (HB.out.cell (bk_ w _ l)).trans l; replace y := (HB.out.cell (bk_ w _ y)).trans y; replace m := (HB.out.cell (bk_ w _ m)).trans m; replace z := (HB.out.cell (bk_ w _ z)).trans z; replace D := eq_true D; replace E := eq_true E) | ((with_reducible refine gate_builtin (b := .append) (xs := #[.tmp 32, .tmp 34]) rfl ?_); at_builtin; refine Kd.R_append (Kd.int .i64) (w0 := w) w.heap.size rfl (.tmp 32) (.tmp 34) 41 3 (.int .i64 0) 8 rfl Tryd.underlying41 info3 rfl (by decide) (by omega) u5 v c [.int .i64 c] (fun _ => True) (fun _ => False) rfl rfl ?aP (fun _ hk => hk.elim) ?aF ?aO ?aB ?aS ?aL ?_; (case aP => exact rfl); (case aB => exact bl_); (case aF => exact (fun _ _ => trivial)); (case aO => exact (by (with_reducible repeat apply pR); exact HO_5.out)); (case aS => exact (below_size bl_)); (case aL => have := ap.out; omega); intro bn br ho hb hg hat; rw [← aq.out] at ho; have I := Z (blk_grown (g := K) (o := .cells #[.int .i64 n, .int .i64 p, .slice (some S) a.length G, .int .i64 q, .bool s, .bool u] 24 (0, 0)) (by (with_reducible repeat apply pK); exact d.out) hg (Kd.R_ne HO_5.out d.out (by decide))); have J := Z (hb); have P := Z (ho); clear d HB HO_5; have d := I; have HB := J; have ao := P; clear I J P; clear ho hb hg hat))
        go_roundg k1
        case measure => have := av.out; omega
        case rel => exact ⟨(am), (wrap64 (x + 1)), (by first | rfl | (simp; done) | (simp [*]; done)), H', ⟨by have := av.out; omega⟩, ⟨by (with_reducible repeat apply pR); exact ao.out⟩, ⟨by (with_reducible repeat apply pK); exact d.out⟩, ⟨bl_⟩⟩
       ·rw [if_neg U] at H
        exact absurd H (by simp)
     ·rw [if_neg c10] at H
      exact absurd H (by simp)
    ·rw [if_neg c9] at H
     exact absurd H (by simp)
   ·rw [if_neg c7] at H
    have ay : decide (x ≤ (a.length : Int)) = false := decide_eq_false c7
    clear c7
    obtain rfl := Option.some.inj H
    obtain ⟨aQ, aR, aT, aU, aV, aW, ba, bb, bc, bd, be, bf⟩ := cells6 d.out
    go_wp2
    go_ret
    exact ⟨_, by first | rfl | (simp [errW_none, errW_some] <;> rfl) | (simp [*, errW_none, errW_some] <;> rfl), by (with_reducible repeat apply pR); exact HO_5.out, bl_⟩

end Go.Proofs.YtggecanpjkpkiaaDoor.P
