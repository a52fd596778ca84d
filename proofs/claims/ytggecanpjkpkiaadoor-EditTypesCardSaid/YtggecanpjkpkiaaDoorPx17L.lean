
/- The functions of the seat's laws as plain Lean functions, and that Go's code comes to just their answers. Written by pp.py (wip/tools), a program of this session, on the kit's print. -/
import Derived.Test.YtggecanpjkpkiaaDoorPx0
import Derived.Test.YtggecanpjkpkiaaDoorPx3
import Derived.Test.YtggecanpjkpkiaaDoorPx4
import Derived.Test.YtggecanpjkpkiaaDoorPx9
import Derived.Test.YtggecanpjkpkiaaDoorPx10
import Derived.Test.YtggecanpjkpkiaaDoorPx13
import Derived.Test.YtggecanpjkpkiaaDoorPx14
import Derived.Test.YtggecanpjkpkiaaDoorPx16
namespace Go.Proofs.YtggecanpjkpkiaaDoor.P
open Go.RowKit Go.Proofs.YtggecanpjkpkiaaDoorW.PrintWords Go.Proofs.YtggecanpjkpkiaaDoorW.PrintLast Go.Proofs.YtggecanpjkpkiaaDoorW.PrintMore
attribute [local go_sem] max2_int min2_int max_two min_two max_three min_three max_four min_four   -- for this text's walks alone
attribute [local go_sem] Instr.field asAgg
set_option linter.unusedVariables false
set_option linter.unusedSimpArgs false

/-! ### shutterlaw14_EditTypes: function 9 -/
def shutterlaw14_EditTypes.f (k : Nat) (c : Int) (d : Int) (i : List (S35)) (e : Int) (g : Bool) (h : Bool) (a1 : Int) : Option (Bool) := (shutterlaw14_awake.f k).bind fun j => (if j = true then ((shutterref10_Few.f k c d i e g h).bind fun l => (if l = true then ((edit_Type.f k c d i e g h a1).bind fun a => ((shutterref14_Type.f k c d i e g h a1).bind fun b => ((shutterref10_Same.f k a.1 a.2.1 a.2.2.1 a.2.2.2.1 a.2.2.2.2.1 a.2.2.2.2.2.1 b.1 b.2.1 b.2.2.1 b.2.2.2.1 b.2.2.2.2.1 b.2.2.2.2.2.1).bind fun n => (if n = true then ((api_Code.f a.2.2.2.2.2.2.1 a.2.2.2.2.2.2.2).bind fun o => (if o = b.2.2.2.2.2.2.1 then ((api_Where.f a.2.2.2.2.2.2.1 a.2.2.2.2.2.2.2).bind fun p => (some (p == b.2.2.2.2.2.2.2))) else (none))) else (none))))) else ((shutterlaw14_awake.f k).bind fun m => (some m)))) else (none))
theorem shutterlaw14_EditTypes.mono : ∀ a0 a1 a b a4 c d k, LeO (shutterlaw14_EditTypes.f k a0 a1 a b a4 c d) (shutterlaw14_EditTypes.f (k + 1) a0 a1 a b a4 c d) := by
 intro a0 a1 a b a4 c d k
 unfold shutterlaw14_EditTypes.f
 repeat' first
   | (with_reducible exact edit_Type.mono _ _ _ _ _ _ _ _)
   | (with_reducible exact shutterlaw14_awake.mono _)
   | (with_reducible exact shutterref10_Few.mono _ _ _ _ _ _ _)
   | (with_reducible exact shutterref10_Same.mono _ _ _ _ _ _ _ _ _ _ _ _ _)
   | (with_reducible exact shutterref14_Type.mono _ _ _ _ _ _ _ _)
   | (with_reducible exact LeO.refl _)
   | (with_reducible exact LeO.none _)
   | (with_reducible refine LeO.ite ?_ ?_)
   | (with_reducible refine LeO.bind ?_ (fun _ => ?_))
   | exact edit_Type.mono _ _ _ _ _ _ _ _
   | exact shutterlaw14_awake.mono _
   | exact shutterref10_Few.mono _ _ _ _ _ _ _
   | exact shutterref10_Same.mono _ _ _ _ _ _ _ _ _ _ _ _ _
   | exact shutterref14_Type.mono _ _ _ _ _ _ _ _
   | exact LeO.none _
   | refine LeO.ite ?_ ?_
   | refine LeO.bind ?_ (fun _ => ?_)
set_option maxHeartbeats 8000000 in
set_option maxRecDepth 100000 in
theorem shutterlaw14_EditTypes.calls (k : Nat) (x : Int) (y : Int) (ad : Option Addr) (ae : Nat) (u : List (S35)) (z : Int) (A : Bool) (B : Bool) (a1 : Int) (r : Bool) (w : World) (aK : Kd.C k35 w ad u.length u) (aJ : u.length ≤ ae) (hG : LaidG w) (h : shutterlaw14_EditTypes.f k x y u z A B a1 = some r) :
  Calls Tryd.prog 9 #[.agg #[.int .i64 x, .int .i64 y, .slice ad u.length ae, .int .i64 z, .bool A, .bool B], .int .u8 a1] w fun e w' => e = .returned (.bool r) ∧ Below w.heap.size w w' := by
 have HG := Z hG
 clear hG
 have cP := Tryd.underlying24
 have ay := Z aK
 have ax := Z aJ
 clear aK aJ
 have HB := Z (Below.refl w.heap.size w)
 have H : ((shutterlaw14_awake.f k).bind fun aA => (if aA = true then ((shutterref10_Few.f k x y u z A B).bind fun ag => (if ag = true then ((edit_Type.f k x y u z A B a1).bind fun a => ((shutterref14_Type.f k x y u z A B a1).bind fun b => ((shutterref10_Same.f k a.1 a.2.1 a.2.2.1 a.2.2.2.1 a.2.2.2.2.1 a.2.2.2.2.2.1 b.1 b.2.1 b.2.2.1 b.2.2.2.1 b.2.2.2.2.1 b.2.2.2.2.2.1).bind fun L => (if L = true then ((api_Code.f a.2.2.2.2.2.2.1 a.2.2.2.2.2.2.2).bind fun D => (if D = b.2.2.2.2.2.2.1 then ((api_Where.f a.2.2.2.2.2.2.1 a.2.2.2.2.2.2.2).bind fun E => (some (E == b.2.2.2.2.2.2.2))) else (none))) else (none))))) else ((shutterlaw14_awake.f k).bind fun Q => (some Q)))) else (none))) = some r := h
 clear h
 replace H := Option.bind_eq_some_iff.mp H
 obtain ⟨aA, aV, H⟩ := H
 replace H : (if aA = true then ((shutterref10_Few.f k x y u z A B).bind fun ag => (if ag = true then ((edit_Type.f k x y u z A B a1).bind fun a => ((shutterref14_Type.f k x y u z A B a1).bind fun b => ((shutterref10_Same.f k a.1 a.2.1 a.2.2.1 a.2.2.2.1 a.2.2.2.2.1 a.2.2.2.2.2.1 b.1 b.2.1 b.2.2.1 b.2.2.2.1 b.2.2.2.2.1 b.2.2.2.2.2.1).bind fun L => (if L = true then ((api_Code.f a.2.2.2.2.2.2.1 a.2.2.2.2.2.2.2).bind fun D => (if D = b.2.2.2.2.2.2.1 then ((api_Where.f a.2.2.2.2.2.2.1 a.2.2.2.2.2.2.2).bind fun E => (some (E == b.2.2.2.2.2.2.2))) else (none))) else (none))))) else ((shutterlaw14_awake.f k).bind fun Q => (some Q)))) else (none)) = some r := H
 have A3 := Z aV
 clear aV
 by_cases c4 : aA = true
 ·subst c4
  have H1 : ((shutterref10_Few.f k x y u z A B).bind fun ag => (if ag = true then ((edit_Type.f k x y u z A B a1).bind fun a => ((shutterref14_Type.f k x y u z A B a1).bind fun b => ((shutterref10_Same.f k a.1 a.2.1 a.2.2.1 a.2.2.2.1 a.2.2.2.2.1 a.2.2.2.2.2.1 b.1 b.2.1 b.2.2.1 b.2.2.2.1 b.2.2.2.2.1 b.2.2.2.2.2.1).bind fun L => (if L = true then ((api_Code.f a.2.2.2.2.2.2.1 a.2.2.2.2.2.2.2).bind fun D => (if D = b.2.2.2.2.2.2.1 then ((api_Where.f a.2.2.2.2.2.2.1 a.2.2.2.2.2.2.2).bind fun E => (some (E == b.2.2.2.2.2.2.2))) else (none))) else (none))))) else ((shutterlaw14_awake.f k).bind fun Q => (some Q)))) = some r := by rw [if_pos rfl] at H; exact H
  clear H
  have H := H1
  clear H1
  replace H := Option.bind_eq_some_iff.mp H
  obtain ⟨ag, aX, H⟩ := H
  replace H : (if ag = true then ((edit_Type.f k x y u z A B a1).bind fun a => ((shutterref14_Type.f k x y u z A B a1).bind fun b => ((shutterref10_Same.f k a.1 a.2.1 a.2.2.1 a.2.2.2.1 a.2.2.2.2.1 a.2.2.2.2.2.1 b.1 b.2.1 b.2.2.1 b.2.2.2.1 b.2.2.2.2.1 b.2.2.2.2.2.1).bind fun L => (if L = true then ((api_Code.f a.2.2.2.2.2.2.1 a.2.2.2.2.2.2.2).bind fun D => (if D = b.2.2.2.2.2.2.1 then ((api_Where.f a.2.2.2.2.2.2.1 a.2.2.2.2.2.2.2).bind fun E => (some (E == b.2.2.2.2.2.2.2))) else (none))) else (none))))) else ((shutterlaw14_awake.f k).bind fun Q => (some Q))) = some r := H
  have A5 := Z aX
  clear aX
  by_cases c6 : ag = true
  ·subst c6
   have H1 : ((edit_Type.f k x y u z A B a1).bind fun a => ((shutterref14_Type.f k x y u z A B a1).bind fun b => ((shutterref10_Same.f k a.1 a.2.1 a.2.2.1 a.2.2.2.1 a.2.2.2.2.1 a.2.2.2.2.2.1 b.1 b.2.1 b.2.2.1 b.2.2.2.1 b.2.2.2.2.1 b.2.2.2.2.2.1).bind fun L => (if L = true then ((api_Code.f a.2.2.2.2.2.2.1 a.2.2.2.2.2.2.2).bind fun D => (if D = b.2.2.2.2.2.2.1 then ((api_Where.f a.2.2.2.2.2.2.1 a.2.2.2.2.2.2.2).bind fun E => (some (E == b.2.2.2.2.2.2.2))) else (none))) else (none))))) = some r := by rw [if_pos rfl] at H; exact H
   clear H
   have H := H1
   clear H1
   replace H := Option.bind_eq_some_iff.mp H
   obtain ⟨⟨ah, ai, T, aj, ak, al, P, M⟩, aY, H⟩ := H
   replace H : ((shutterref14_Type.f k x y u z A B a1).bind fun b => ((shutterref10_Same.f k ah ai T aj ak al b.1 b.2.1 b.2.2.1 b.2.2.2.1 b.2.2.2.2.1 b.2.2.2.2.2.1).bind fun L => (if L = true then ((api_Code.f P M).bind fun D => (if D = b.2.2.2.2.2.2.1 then ((api_Where.f P M).bind fun E => (some (E == b.2.2.2.2.2.2.2))) else (none))) else (none)))) = some r := H
   have A7 := Z aY
   clear aY
   replace H := Option.bind_eq_some_iff.mp H
   obtain ⟨⟨X, Y, U, aa, ab, ac, am, aq⟩, aZ, H⟩ := H
   replace H : ((shutterref10_Same.f k ah ai T aj ak al X Y U aa ab ac).bind fun L => (if L = true then ((api_Code.f P M).bind fun D => (if D = am then ((api_Where.f P M).bind fun E => (some (E == aq))) else (none))) else (none))) = some r := H
   have A8 := Z aZ
   clear aZ
   replace H := Option.bind_eq_some_iff.mp H
   obtain ⟨L, a0, H⟩ := H
   replace H : (if L = true then ((api_Code.f P M).bind fun D => (if D = am then ((api_Where.f P M).bind fun E => (some (E == aq))) else (none))) else (none)) = some r := H
   have A9 := Z a0
   clear a0
   by_cases c10 : L = true
   ·subst c10
    have H1 : ((api_Code.f P M).bind fun D => (if D = am then ((api_Where.f P M).bind fun E => (some (E == aq))) else (none))) = some r := by rw [if_pos rfl] at H; exact H
    clear H
    have H := H1
    clear H1
    replace H := Option.bind_eq_some_iff.mp H
    obtain ⟨D, aL, H⟩ := H
    replace H : (if D = am then ((api_Where.f P M).bind fun E => (some (E == aq))) else (none)) = some r := H
    have cx := Z aL
    clear aL
    by_cases aE : D = am
    ·rw [if_pos aE] at H
     have cE : (D == am) = true := beq_iff_eq.mpr aE
     have cF : (D != am) = false := bne_eq_false_iff_eq.mpr aE
     clear aE
     replace H := Option.bind_eq_some_iff.mp H
     obtain ⟨E, aM, H⟩ := H
     replace H : (some (E == aq)) = some r := H
     have cy := Z aM
     clear aM
     obtain rfl := Option.some.inj H
     go_enter Tryd.func9, Tryd.ntmps9
     go_wp2_with (first | ((with_reducible refine gate_dst (N := 2) rfl ?_); refine box_event ?hg (N := 2) ?hd (cs := #[.int .i64 x, .int .i64 y, .slice ad u.length ae, .int .i64 z, .bool A, .bool B]) (t := 24) ?hr ?_; (case hd => rfl); (case hg => rfl); (case hr => first | (go_simp; done) | (go_simp; rfl)); intro K hg cS hbox hb; have l := Z (below_step bl_ hb); have m := Z (hbox); have F := Z ((le_new hg (below_size bl_) : w.heap.size ≤ K)); have G := Z ((le_new hg (below_size bl_) : w.heap.size ≤ K)); clear HB; have HB := l; have d := m; have aw := F; have aT := G; clear l m F G; clear hb hbox hg) | ((with_reducible refine gate_callee (f := 30) rfl ?_); refine goesL_ (some 10) rfl rfl Tryd.func30 (by kernel_rfl) rfl #[] rfl ag_ ?_; (with_reducible refine (shutterlaw14_awake.calls k  true _ ?sideG A3.out).mono ?_); (case sideG => exact laidG_below HG.out bl_ rfl); rintro e cT ⟨rfl, hb⟩; refine ⟨_, rfl, ?_⟩; have l := Z (kb d.out hb); have m := Z (below_step bl_ hb); clear d HB; have d := l; have HB := m; clear l m; (try clear hb); (try clear ao); (try clear hk); (try clear hi); obtain ⟨a9, ba, bb, bc, bd, be, bQ, bR, bS, bT, bU, bV⟩ := cells6 d.out) | (go_at_call 18; (with_reducible refine (shutterref10_Few.calls k x y _ _ u z A B true _ ?side1 ?side2 A5.out).mono ?_); (case side1 => repeat (first | exact (Kd.C_below ay.out HB.out) | (with_reducible apply pC))); (case side2 => exact ax.out); rintro e cU ⟨rfl, hb⟩; have l := Z (kb d.out hb); have m := Z (below_step bl_ hb); clear d HB; have d := l; have HB := m; clear l m; (try clear hb); (try clear ao); (try clear hk); (try clear hi); obtain ⟨bf, bg, bh, bi, bj, bk, bW, bX, bY, bZ, b0, b1⟩ := cells6 d.out) | ((with_reducible refine gate_callee (f := 31) rfl ?_); refine goesL_ (some 21) rfl rfl Tryd.func31 (by kernel_rfl) rfl #[.agg #[.int .i64 x, .int .i64 y, .slice ad u.length ae, .int .i64 z, .bool A, .bool B], .int .u8 a1] rfl ag_ ?_; (with_reducible refine (edit_Type.calls k x y (fun k_ => k_ < w.heap.size) _ _ u z A B a1 ah ai T aj ak al P M _ ?side1 A7.out).mono ?_); (case side1 => exact Kd.V_mk ax.out (Kd.F_below (Kd.C_F k35_heap ay.out) bl_)); rintro e cV ⟨cQ, a8, rfl, aF, a2, hb⟩; refine ⟨_, rfl, ?_⟩; have l := Z (Kd.V_lower (Kd.V_mono (ok' := fun k_ => k_ ≠ K) aF (fun k_ hk_ => Or.elim hk_ (fun hs_ => fun e_ => Nat.not_le.2 hs_ (by rw [e_]; exact aw.out)) (fun hn_ => (fb d.out k_ hn_)))) (below_size bl_)); have m := Z (Kd.V_lower (Kd.V_mono (ok' := fun k_ => k_ ≠ K) a2 (fun k_ hk_ => Or.elim hk_ (fun hs_ => fun e_ => Nat.not_le.2 hs_ (by rw [e_]; exact aw.out)) (fun hn_ => (fb d.out k_ hn_)))) (below_size bl_)); have F := Z (kb d.out hb); have G := Z (below_step bl_ hb); clear d HB; have q := l; have j := m; have d := F; have HB := G; clear l m F G; (try clear hb); (try clear ao); (try clear hk); (try clear hi); (try clear aF); (try clear a2); (try simp only [errW_none, errW_some])) | ((with_reducible refine gate_dst (N := 5) rfl ?_); refine box_event ?hg (N := 5) ?hd (cs := #[.int .i64 0, .int .i64 0, .slice none 0 0, .int .i64 0, .bool false, .bool false]) (t := 24) ?hr ?_; (case hd => rfl); (case hg => rfl); (case hr => first | (go_simp; done) | (go_simp; rfl)); intro J hg cA hbox hb; have l := Z (ve q.out hg hb); have m := Z (ve j.out hg hb); have F := Z (kb d.out hb); have G := Z (below_step bl_ hb); have O := Z (hbox); have S := Z ((le_new hg (below_size bl_) : w.heap.size ≤ J)); have W := Z ((le_new hg (below_size bl_) : w.heap.size ≤ J)); have aG := Z (nl d.out hg); have aH := Z (ng d.out hg); clear q j d HB; have q := l; have j := m; have d := F; have HB := G; have s := O; have aU := S; have cB := W; have ar := aG; have aB := aH; clear l m F G O S W aG aH; clear hb hbox hg; have cG := aB.out; have cJ := ar.out; obtain ⟨bl, bm, bn, bo, bp, bq, b2, b3, b4, b5, b6, b7⟩ := cells6 s.out; obtain ⟨az, ap, a5⟩ := Kd.V_slice q.out; subst a5) | ((with_reducible refine gate_store (t := 24) (p := 5) rfl ?_); refine store_event (t := 24) (p := 5) (v := ?vo_w24) (w1 := ((((((cA.setCell ⟨J, 0, none⟩ (.int .i64 ah)).setCell ⟨J, 1, none⟩ (.int .i64 ai)).setCell ⟨J, 2, none⟩ (.slice az T.length ap)).setCell ⟨J, 3, none⟩ (.int .i64 aj)).setCell ⟨J, 4, none⟩ (.bool ak)).setCell ⟨J, 5, none⟩ (.bool al))) ?hg ?ho ?hn ?hr ?_; (case ho => rfl); (case hg => rfl); (case hn => rfl); (case hr => first | (go_simp; done) | (go_simp; rfl)); intro aI hw; have l : Aside0 (Kd.V k35 35 aI w.heap.size (fun k_ => k_ ≠ K ∧ k_ ≠ J) (.slice az T.length ap) T) := ⟨(by rw [hw]; exact (by (with_reducible repeat apply pV); exact V_off q.out (fun k_ hk => hk.2) off2_ (fun _ hk => ⟨hk.1, hk.2⟩)))⟩; have m : Aside0 (Kd.V k164 164 aI w.heap.size (fun k_ => k_ ≠ K ∧ k_ ≠ J) a8 M) := ⟨(by rw [hw]; exact (by (with_reducible repeat apply pV); exact V_off j.out (fun k_ hk => hk.2) off2_ (fun _ hk => ⟨hk.1, hk.2⟩)))⟩; have F : Aside0 (aI.heap[K]? = some (.cells #[.int .i64 x, .int .i64 y, .slice ad u.length ae, .int .i64 z, .bool A, .bool B] 24 (0, 0))) := ⟨by rw [hw]; exact (blk_off d.out ar.out off2_)⟩; have G : Aside0 (aI.heap[J]? = some (.cells #[.int .i64 ah, .int .i64 ai, .slice az T.length ap, .int .i64 aj, .bool ak, .bool al] 24 (0, 0))) := ⟨by rw [hw]; exact (put6 s.out)⟩; have O : Aside0 (Below w.heap.size w aI) := ⟨by rw [hw]; exact bl_⟩; clear hw q j d s HB; have q := l; have j := m; have d := F; have s := G; have HB := O; clear l m F G O; obtain ⟨br, bs, bt, bu, bv, bw, b8, b9, ca, cb, cc, cd⟩ := cells6 d.out) | ((with_reducible refine gate_callee (f := 33) rfl ?_); refine goesL_ (some 27) rfl rfl Tryd.func33 (by kernel_rfl) rfl #[.agg #[.int .i64 x, .int .i64 y, .slice ad u.length ae, .int .i64 z, .bool A, .bool B], .int .u8 a1] rfl ag_ ?_; (with_reducible refine (shutterref14_Type.calls k x y (fun k_ => k_ < w.heap.size) _ _ u z A B a1 X Y U aa ab ac am aq _ ?side1 A8.out).mono ?_); (case side1 => exact Kd.V_mk ax.out (Kd.F_below (Kd.C_F k35_heap ay.out) bl_)); rintro e cW ⟨cR, rfl, aF, hb⟩; refine ⟨_, rfl, ?_⟩; have l := Z (vb q.out hb); have m := Z (vb j.out hb); have F := Z (Kd.V_lower (Kd.V_mono (ok' := fun k_ => k_ ≠ K ∧ k_ ≠ J) aF (fun k_ hk_ => ⟨Or.elim hk_ (fun hs_ => fun e_ => Nat.not_le.2 hs_ (by rw [e_]; exact aw.out)) (fun hn_ => (fb d.out k_ hn_)), Or.elim hk_ (fun hs_ => fun e_ => Nat.not_le.2 hs_ (by rw [e_]; exact aU.out)) (fun hn_ => (fb s.out k_ hn_))⟩)) (below_size bl_)); have G := Z (kb d.out hb); have O := Z (kb s.out hb); have S := Z (below_step bl_ hb); clear q j d s HB; have q := l; have j := m; have I := F; have d := G; have s := O; have HB := S; clear l m F G O S; (try clear hb); (try clear ao); (try clear hk); (try clear hi); (try clear aF)) | ((with_reducible refine gate_dst (N := 7) rfl ?_); refine box_event ?hg (N := 7) ?hd (cs := #[.int .i64 0, .int .i64 0, .slice none 0 0, .int .i64 0, .bool false, .bool false]) (t := 24) ?hr ?_; (case hd => rfl); (case hg => rfl); (case hr => first | (go_simp; done) | (go_simp; rfl)); intro i hg cX hbox hb; have l := Z (ve q.out hg hb); have m := Z (ve j.out hg hb); have F := Z (ve I.out hg hb); have G := Z (kb d.out hb); have O := Z (kb s.out hb); have S := Z (below_step bl_ hb); have W := Z (hbox); have aG := Z ((le_new hg (below_size bl_) : w.heap.size ≤ i)); have aH := Z ((le_new hg (below_size bl_) : w.heap.size ≤ i)); have a3 := Z (nl d.out hg); have aQ := Z (ng d.out hg); have aR := Z (nl s.out hg); have aS := Z (ng s.out hg); clear q j I d s HB; have q := l; have j := m; have I := F; have d := G; have s := O; have HB := S; have R := W; have cD := aG; have cC := aH; have au := a3; have aC := aQ; have av := aR; have aD := aS; clear l m F G O S W aG aH a3 aQ aR aS; clear hb hbox hg; have cH := aC.out; have cK := au.out; have cI := aD.out; have cL := av.out; obtain ⟨bx, bz, bA, bB, bC, bD, ce, cf, cg, ch, ci, cj⟩ := cells6 R.out; obtain ⟨an, af, a6⟩ := Kd.V_slice I.out; subst a6; obtain ⟨bE, bF, bG, bH, bI, bJ, ck, cl, cm, cn, co, cp⟩ := cells6 s.out) | ((with_reducible refine gate_callee (f := 24) rfl ?_); refine goesL_ (some 33) rfl rfl Tryd.func24 (by kernel_rfl) rfl #[.agg #[.int .i64 ah, .int .i64 ai, .slice az T.length ap, .int .i64 aj, .bool ak, .bool al], .agg #[.int .i64 X, .int .i64 Y, .slice an U.length af, .int .i64 aa, .bool ab, .bool ac]] rfl ag_ ?_; (with_reducible refine (shutterref10_Same.calls k ah ai _ _ T aj ak al X Y _ _ U aa ab ac true _ ?side1 ?side2 ?side3 ?side4 A9.out).mono ?_); (case side1 => refine (Kd.V_reads' (e := 35) (base := w.heap.size) (ok := fun k_ => ((k_ ≠ K ∧ k_ ≠ J) ∧ k_ ≠ i)) (n := T.length) (c := ap) ?_).2.2; exact (by (with_reducible repeat apply pV); exact (Kd.V_mono (Kd.V_far (p := ⟨i, 5, none⟩) (Kd.V_far (p := ⟨i, 4, none⟩) (Kd.V_far (p := ⟨i, 3, none⟩) (Kd.V_far (p := ⟨i, 2, none⟩) (Kd.V_far (p := ⟨i, 1, none⟩) (Kd.V_far (p := ⟨i, 0, none⟩) (Kd.V_mono q.out (fun k_ hk => (⟨hk, hk.2⟩ : _ ∧ k_ ≠ i))) (fun _ hk => hk.2) (.int .i64 X)) (fun _ hk => hk.2) (.int .i64 Y)) (fun _ hk => hk.2) (.slice an U.length af)) (fun _ hk => hk.2) (.int .i64 aa)) (fun _ hk => hk.2) (.bool ab)) (fun _ hk => hk.2) (.bool ac)) (fun _ h_ => h_.1)))); (case side2 => exact (Kd.V_reads' q.out).2.1); (case side3 => refine (Kd.V_reads' (e := 35) (base := w.heap.size) (ok := fun k_ => ((k_ ≠ K ∧ k_ ≠ J) ∧ k_ ≠ i)) (n := U.length) (c := af) ?_).2.2; exact (by (with_reducible repeat apply pV); exact (Kd.V_mono (Kd.V_far (p := ⟨i, 5, none⟩) (Kd.V_far (p := ⟨i, 4, none⟩) (Kd.V_far (p := ⟨i, 3, none⟩) (Kd.V_far (p := ⟨i, 2, none⟩) (Kd.V_far (p := ⟨i, 1, none⟩) (Kd.V_far (p := ⟨i, 0, none⟩) (Kd.V_mono I.out (fun k_ hk => (⟨hk, hk.2⟩ : _ ∧ k_ ≠ i))) (fun _ hk => hk.2) (.int .i64 X)) (fun _ hk => hk.2) (.int .i64 Y)) (fun _ hk => hk.2) (.slice an U.length af)) (fun _ hk => hk.2) (.int .i64 aa)) (fun _ hk => hk.2) (.bool ab)) (fun _ hk => hk.2) (.bool ac)) (fun _ h_ => h_.1)))); (case side4 => exact (Kd.V_reads' I.out).2.1); rintro e cY ⟨rfl, hb⟩; refine ⟨_, rfl, ?_⟩; have l := Z (Kd.V_below (by (with_reducible repeat apply pV); exact (Kd.V_mono (Kd.V_far (p := ⟨i, 5, none⟩) (Kd.V_far (p := ⟨i, 4, none⟩) (Kd.V_far (p := ⟨i, 3, none⟩) (Kd.V_far (p := ⟨i, 2, none⟩) (Kd.V_far (p := ⟨i, 1, none⟩) (Kd.V_far (p := ⟨i, 0, none⟩) (Kd.V_mono q.out (fun k_ hk => (⟨hk, hk.2⟩ : _ ∧ k_ ≠ i))) (fun _ hk => hk.2) (.int .i64 X)) (fun _ hk => hk.2) (.int .i64 Y)) (fun _ hk => hk.2) (.slice an U.length af)) (fun _ hk => hk.2) (.int .i64 aa)) (fun _ hk => hk.2) (.bool ab)) (fun _ hk => hk.2) (.bool ac)) (fun _ h_ => h_.1))) hb); have m := Z (Kd.V_below (by (with_reducible repeat apply pV); exact (Kd.V_mono (Kd.V_far (p := ⟨i, 5, none⟩) (Kd.V_far (p := ⟨i, 4, none⟩) (Kd.V_far (p := ⟨i, 3, none⟩) (Kd.V_far (p := ⟨i, 2, none⟩) (Kd.V_far (p := ⟨i, 1, none⟩) (Kd.V_far (p := ⟨i, 0, none⟩) (Kd.V_mono j.out (fun k_ hk => (⟨hk, hk.2⟩ : _ ∧ k_ ≠ i))) (fun _ hk => hk.2) (.int .i64 X)) (fun _ hk => hk.2) (.int .i64 Y)) (fun _ hk => hk.2) (.slice an U.length af)) (fun _ hk => hk.2) (.int .i64 aa)) (fun _ hk => hk.2) (.bool ab)) (fun _ hk => hk.2) (.bool ac)) (fun _ h_ => h_.1))) hb); have F := Z (Kd.V_below (by (with_reducible repeat apply pV); exact (Kd.V_mono (Kd.V_far (p := ⟨i, 5, none⟩) (Kd.V_far (p := ⟨i, 4, none⟩) (Kd.V_far (p := ⟨i, 3, none⟩) (Kd.V_far (p := ⟨i, 2, none⟩) (Kd.V_far (p := ⟨i, 1, none⟩) (Kd.V_far (p := ⟨i, 0, none⟩) (Kd.V_mono I.out (fun k_ hk => (⟨hk, hk.2⟩ : _ ∧ k_ ≠ i))) (fun _ hk => hk.2) (.int .i64 X)) (fun _ hk => hk.2) (.int .i64 Y)) (fun _ hk => hk.2) (.slice an U.length af)) (fun _ hk => hk.2) (.int .i64 aa)) (fun _ hk => hk.2) (.bool ab)) (fun _ hk => hk.2) (.bool ac)) (fun _ h_ => h_.1))) hb); have G := Z (blk_below (g := K) (o := .cells #[.int .i64 x, .int .i64 y, .slice ad u.length ae, .int .i64 z, .bool A, .bool B] 24 (0, 0)) (blk_off d.out au.out off2_) hb); have O := Z (blk_below (g := J) (o := .cells #[.int .i64 ah, .int .i64 ai, .slice az T.length ap, .int .i64 aj, .bool ak, .bool al] 24 (0, 0)) (blk_off s.out av.out off2_) hb); have S := Z (blk_below (g := i) (o := .cells #[.int .i64 X, .int .i64 Y, .slice an U.length af, .int .i64 aa, .bool ab, .bool ac] 24 (0, 0)) (put6 R.out) hb); have W := Z (below_step bl_ hb); clear q j I d s R HB; have q := l; have j := m; have I := F; have d := G; have s := O; have R := S; have HB := W; clear l m F G O S W; (try clear hb); (try clear ao); (try clear hk); (try clear hi); obtain ⟨aO, aP, a7⟩ := Kd.V_slice j.out; subst a7) | (go_at_call 25; refine calls_of_args (args' := #[errW (.slice aO M.length aP) P]) (by first | rfl | rfl) ?_; (with_reducible refine (api_Code.calls P _ _ M D _ ?side1 ?side2 ?sideG cx.out).mono ?_); (case sideG => exact laidG_below HG.out bl_ rfl); (case side1 => repeat (first | exact (Kd.V_reads' j.out).2.2 | (with_reducible apply pC))); (case side2 => exact (Kd.V_reads' j.out).2.1); rintro e cZ ⟨rfl, hb⟩; have l := Z (vb q.out hb); have m := Z (vb j.out hb); have F := Z (vb I.out hb); have G := Z (kb d.out hb); have O := Z (kb s.out hb); have S := Z (kb R.out hb); have W := Z (below_step bl_ hb); clear q j I d s R HB; have q := l; have j := m; have I := F; have d := G; have s := O; have R := S; have HB := W; clear l m F G O S W; (try clear hb); (try clear ao); (try clear hk); (try clear hi)) | (go_at_call 28; refine calls_of_args (args' := #[errW (.slice aO M.length aP) P]) (by first | rfl | rfl) ?_; (with_reducible refine (api_Where.calls P _ _ M E _ ?side1 ?side2 ?sideG cy.out).mono ?_); (case sideG => exact laidG_below HG.out bl_ rfl); (case side1 => repeat (first | exact (Kd.V_reads' j.out).2.2 | (with_reducible apply pC))); (case side2 => exact (Kd.V_reads' j.out).2.1); rintro e c0 ⟨rfl, hb⟩; have l := Z (vb q.out hb); have m := Z (vb j.out hb); have F := Z (vb I.out hb); have G := Z (kb d.out hb); have O := Z (kb s.out hb); have S := Z (kb R.out hb); have W := Z (below_step bl_ hb); clear q j I d s R HB; have q := l; have j := m; have I := F; have d := G; have s := O; have R := S; have HB := W; clear l m F G O S W; (try clear hb); (try clear ao); (try clear hk); (try clear hi)))
     go_ret
     exact ⟨by first | rfl | (simp [errW_none, errW_some] <;> rfl) | (simp [*, errW_none, errW_some] <;> rfl), bl_⟩
    ·rw [if_neg aE] at H
     exact absurd H (by simp)
   ·replace c10 := Bool.eq_false_iff.mpr c10
    subst c10
    have H1 : (none) = some r := by rw [if_neg (show ¬ (false = true) by decide)] at H; exact H
    clear H
    have H := H1
    clear H1
    exact absurd H (by simp)
  ·replace c6 := Bool.eq_false_iff.mpr c6
   subst c6
   have H1 : ((shutterlaw14_awake.f k).bind fun Q => (some Q)) = some r := by rw [if_neg (show ¬ (false = true) by decide)] at H; exact H
   clear H
   have H := H1
   clear H1
   replace H := Option.bind_eq_some_iff.mp H
   obtain ⟨Q, aN, H⟩ := H
   replace H : (some Q) = some r := H
   have aW := Z aN
   clear aN
   obtain rfl := Option.some.inj H
   go_enter Tryd.func9, Tryd.ntmps9
   go_wp2_with (first | ((with_reducible refine gate_dst (N := 2) rfl ?_); refine box_event ?hg (N := 2) ?hd (cs := #[.int .i64 x, .int .i64 y, .slice ad u.length ae, .int .i64 z, .bool A, .bool B]) (t := 24) ?hr ?_; (case hd => rfl); (case hg => rfl); (case hr => first | (go_simp; done) | (go_simp; rfl)); intro K hg c1 hbox hb; have l := Z (below_step bl_ hb); have m := Z (hbox); have F := Z ((le_new hg (below_size bl_) : w.heap.size ≤ K)); have G := Z ((le_new hg (below_size bl_) : w.heap.size ≤ K)); clear HB; have HB := l; have d := m; have aw := F; have aT := G; clear l m F G; clear hb hbox hg) | ((with_reducible refine gate_callee (f := 30) rfl ?_); refine goesL_ (some 10) rfl rfl Tryd.func30 (by kernel_rfl) rfl #[] rfl ag_ ?_; (with_reducible refine (shutterlaw14_awake.calls k  true _ ?sideG A3.out).mono ?_); (case sideG => exact laidG_below HG.out bl_ rfl); rintro e c2 ⟨rfl, hb⟩; refine ⟨_, rfl, ?_⟩; have l := Z (kb d.out hb); have m := Z (below_step bl_ hb); clear d HB; have d := l; have HB := m; clear l m; (try clear hb); (try clear ao); (try clear hk); (try clear hi); obtain ⟨bK, bL, bM, bN, bO, bP, cq, cr, ct, cu, cv, cw⟩ := cells6 d.out) | (go_at_call 18; (with_reducible refine (shutterref10_Few.calls k x y _ _ u z A B false _ ?side1 ?side2 A5.out).mono ?_); (case side1 => repeat (first | exact (Kd.C_below ay.out HB.out) | (with_reducible apply pC))); (case side2 => exact ax.out); rintro e c3 ⟨rfl, hb⟩; have l := Z (kb d.out hb); have m := Z (below_step bl_ hb); clear d HB; have d := l; have HB := m; clear l m; (try clear hb); (try clear ao); (try clear hk); (try clear hi)) | ((with_reducible refine gate_callee (f := 30) rfl ?_); refine goesL_ (some 17) rfl rfl Tryd.func30 (by kernel_rfl) rfl #[] rfl ag_ ?_; (with_reducible refine (shutterlaw14_awake.calls k  Q _ ?sideG aW.out).mono ?_); (case sideG => exact laidG_below HG.out bl_ rfl); rintro e c5 ⟨rfl, hb⟩; refine ⟨_, rfl, ?_⟩; have l := Z (kb d.out hb); have m := Z (below_step bl_ hb); clear d HB; have d := l; have HB := m; clear l m; (try clear hb); (try clear ao); (try clear hk); (try clear hi)))
   go_ret
   have e_ : Q = true := Option.some.inj (aW.out.symm.trans A3.out)
   exact ⟨by first | rfl | (simp [errW_none, errW_some] <;> rfl) | (simp [*, errW_none, errW_some] <;> rfl), bl_⟩
 ·replace c4 := Bool.eq_false_iff.mpr c4
  subst c4
  have H1 : (none) = some r := by rw [if_neg (show ¬ (false = true) by decide)] at H; exact H
  clear H
  have H := H1
  clear H1
  exact absurd H (by simp)

end Go.Proofs.YtggecanpjkpkiaaDoor.P
