/- pp.py and press2.py (wip/tools) wrote this text. -/
import Derived.Test.YtgboplhcjhlabaaDoorPx0
import Derived.Test.YtgboplhcjhlabaaDoorPxS
import Derived.Test.YtgboplhcjhlabaaDoorPx0L
import Derived.Test.YtgboplhcjhlabaaDoorPx4
import Derived.Test.YtgboplhcjhlabaaDoorPx10
import Derived.Test.YtgboplhcjhlabaaDoorPx13
import Derived.Test.YtgboplhcjhlabaaDoorPx15
import Derived.Test.YtgboplhcjhlabaaDoorPx16
import Derived.Test.YtgboplhcjhlabaaDoorUX
namespace Go.Proofs.YtgboplhcjhlabaaDoor.P
open Go.RowKit Go.Proofs.YtgboplhcjhlabaaDoorW.PrintWords Go.Proofs.YtgboplhcjhlabaaDoorW.PrintLast Go.Proofs.YtgboplhcjhlabaaDoorW.PrintMore
attribute [local go_sem] max2_int min2_int max_two min_two max_three min_three max_four min_four
attribute [local go_sem] Instr.field asAgg
set_option linter.unusedVariables false
set_option linter.unusedSimpArgs false

set_option maxHeartbeats 8000000 in
set_option maxRecDepth 100000 in
theorem host_Do.callsN (k : Nat) (Q : Int) (T : Int) (ax : Nat → Prop) (aL : Option Addr) (aM : Nat) (x : List (S44)) (U : Int) (W : Bool) (X : Bool) (u : Int) (am : Bool) (ak : Bool) (au : Bool) (aX : Option Addr) (aY : Nat) (ad : List (S30)) (r1 : Int) (r2 : Int) (r3 : List (S44)) (r4 : Int) (r5 : Bool) (r6 : Bool) (r8 : List (S184)) (w : World) (hD : Kd.V k44 44 w w.heap.size (fun k_ => ax k_) (.slice aL x.length aM) x) (fq : Kd.C k30 w aX ad.length ad) (fp : ad.length ≤ aY) (h : host_Do.f k Q T x U W X u am ak au ad = some (r1, r2, r3, r4, r5, r6, (none : Option Er), r8)) :
  Calls Tryd.prog 31 #[.agg #[.int .i64 Q, .int .i64 T, .slice aL x.length aM, .int .i64 U, .bool W, .bool X], .agg #[.int .i64 u, .bool am, .bool ak, .bool au, .slice aX ad.length aY]] w fun e w' => ∃ hv hJ : Value, e = .returned (.tuple #[.agg #[.int .i64 r1, .int .i64 r2, hv, .int .i64 r4, .bool r5, .bool r6], errW hJ (none : Option Er)]) ∧ Kd.R k44 44 w' w.heap.size (fun k_ => (w.heap.size ≤ k_)) hv r3 ∧ Kd.V k184 184 w' w.heap.size (fun k_ => (ax k_ ∨ w.heap.size ≤ k_) ∧ some k_ ≠ (hv : Value).ownBlock) hJ r8 ∧ Below w.heap.size w w' := by
 have mv := Tryd.underlying24
 have mx := Tryd.underlying60
 have mw := Tryd.underlying34
 have my := Tryd.underlying75
 have y := Z (show Kd.V k44 44 w w.heap.size (fun k_ => (ax k_ ∨ w.heap.size ≤ k_)) (.slice aL x.length aM) x from Kd.V_mono hD (fun k_ hk => .inl hk))
 have eD := Z fq
 have eC := Z fp
 clear fq fp
 have HB := Z (Below.refl w.heap.size w)
 have H : ((grid_Size.f Q T x U W X).bind fun b2 => ((stream_Write.f k u am ak au ad b2).bind fun bn => (if bn.2.1.isNone = true then ((grid_Copy.f Q T x U W X).bind fun j => (if u = 245 then (if 0 < (j.2.2.1.length : Int) then (host_Do.j0 k Q T x U W X u am ak au ad j.1 j.2.1 (List.replicate j.2.2.1.length z44) 0 j.2.2.2.2.1 j.2.2.2.2.2) else (none)) else (if u = 241 then (host_Do.j0 k Q T x U W X u am ak au ad j.1 j.2.1 j.2.2.1 j.2.2.2.1 j.2.2.2.2.1 j.2.2.2.2.2) else (if u = 111 then ((host_clean.f k j.1 j.2.1 j.2.2.1 j.2.2.2.1 j.2.2.2.2.1 j.2.2.2.2.2).bind fun Y => ((host_unlocked.f Y.1 Y.2.1 Y.2.2.1 Y.2.2.2.1 Y.2.2.2.2.1 Y.2.2.2.2.2).bind fun z => (some (z.1, z.2.1, z.2.2.1, z.2.2.2.1, z.2.2.2.2.1, z.2.2.2.2.2, none, ([] : List (S184)))))) else (some (j.1, j.2.1, j.2.2.1, j.2.2.2.1, j.2.2.2.2.1, j.2.2.2.2.2, none, ([] : List (S184)))))))) else (some (Q, T, x, U, W, X, some (bn.2.1.getD ez), bn.2.2))))) = some (r1, r2, r3, r4, r5, r6, (none : Option Er), r8) := h
 clear h
 replace H := Option.bind_eq_some_iff.mp H
 obtain ⟨b2, hE, H⟩ := H
 replace H : ((stream_Write.f k u am ak au ad b2).bind fun bn => (if bn.2.1.isNone = true then ((grid_Copy.f Q T x U W X).bind fun j => (if u = 245 then (if 0 < (j.2.2.1.length : Int) then (host_Do.j0 k Q T x U W X u am ak au ad j.1 j.2.1 (List.replicate j.2.2.1.length z44) 0 j.2.2.2.2.1 j.2.2.2.2.2) else (none)) else (if u = 241 then (host_Do.j0 k Q T x U W X u am ak au ad j.1 j.2.1 j.2.2.1 j.2.2.2.1 j.2.2.2.2.1 j.2.2.2.2.2) else (if u = 111 then ((host_clean.f k j.1 j.2.1 j.2.2.1 j.2.2.2.1 j.2.2.2.2.1 j.2.2.2.2.2).bind fun Y => ((host_unlocked.f Y.1 Y.2.1 Y.2.2.1 Y.2.2.2.1 Y.2.2.2.2.1 Y.2.2.2.2.2).bind fun z => (some (z.1, z.2.1, z.2.2.1, z.2.2.2.1, z.2.2.2.2.1, z.2.2.2.2.2, none, ([] : List (S184)))))) else (some (j.1, j.2.1, j.2.2.1, j.2.2.2.1, j.2.2.2.2.1, j.2.2.2.2.2, none, ([] : List (S184)))))))) else (some (Q, T, x, U, W, X, some (bn.2.1.getD ez), bn.2.2)))) = some (r1, r2, r3, r4, r5, r6, (none : Option Er), r8) := H
 have A3 := Z hE
 clear hE
 replace H := Option.bind_eq_some_iff.mp H
 obtain ⟨⟨ht, e3, eK⟩, fa, H⟩ := H
 replace H : (if e3.isNone = true then ((grid_Copy.f Q T x U W X).bind fun j => (if u = 245 then (if 0 < (j.2.2.1.length : Int) then (host_Do.j0 k Q T x U W X u am ak au ad j.1 j.2.1 (List.replicate j.2.2.1.length z44) 0 j.2.2.2.2.1 j.2.2.2.2.2) else (none)) else (if u = 241 then (host_Do.j0 k Q T x U W X u am ak au ad j.1 j.2.1 j.2.2.1 j.2.2.2.1 j.2.2.2.2.1 j.2.2.2.2.2) else (if u = 111 then ((host_clean.f k j.1 j.2.1 j.2.2.1 j.2.2.2.1 j.2.2.2.2.1 j.2.2.2.2.2).bind fun Y => ((host_unlocked.f Y.1 Y.2.1 Y.2.2.1 Y.2.2.2.1 Y.2.2.2.2.1 Y.2.2.2.2.2).bind fun z => (some (z.1, z.2.1, z.2.2.1, z.2.2.2.1, z.2.2.2.2.1, z.2.2.2.2.2, none, ([] : List (S184)))))) else (some (j.1, j.2.1, j.2.2.1, j.2.2.2.1, j.2.2.2.2.1, j.2.2.2.2.2, none, ([] : List (S184)))))))) else (some (Q, T, x, U, W, X, some (e3.getD ez), eK))) = some (r1, r2, r3, r4, r5, r6, (none : Option Er), r8) := H
 have A4 := Z fa
 clear fa
 rcases e3 with _ | eJ
 ·have H1 : ((grid_Copy.f Q T x U W X).bind fun j => (if u = 245 then (if 0 < (j.2.2.1.length : Int) then (host_Do.j0 k Q T x U W X u am ak au ad j.1 j.2.1 (List.replicate j.2.2.1.length z44) 0 j.2.2.2.2.1 j.2.2.2.2.2) else (none)) else (if u = 241 then (host_Do.j0 k Q T x U W X u am ak au ad j.1 j.2.1 j.2.2.1 j.2.2.2.1 j.2.2.2.2.1 j.2.2.2.2.2) else (if u = 111 then ((host_clean.f k j.1 j.2.1 j.2.2.1 j.2.2.2.1 j.2.2.2.2.1 j.2.2.2.2.2).bind fun Y => ((host_unlocked.f Y.1 Y.2.1 Y.2.2.1 Y.2.2.2.1 Y.2.2.2.2.1 Y.2.2.2.2.2).bind fun z => (some (z.1, z.2.1, z.2.2.1, z.2.2.2.1, z.2.2.2.2.1, z.2.2.2.2.2, none, ([] : List (S184)))))) else (some (j.1, j.2.1, j.2.2.1, j.2.2.2.1, j.2.2.2.2.1, j.2.2.2.2.2, none, ([] : List (S184)))))))) = some (r1, r2, r3, r4, r5, r6, (none : Option Er), r8) := by rw [if_pos (show (none : Option Er).isNone = true by rfl)] at H; exact H
  clear H
  have H := H1
  clear H1
  try simp only [errW_none, errW_some]
  replace H := Option.bind_eq_some_iff.mp H
  obtain ⟨⟨D, E, r, ah, F, P⟩, hF, H⟩ := H
  replace H : (if u = 245 then (if 0 < (r.length : Int) then (host_Do.j0 k Q T x U W X u am ak au ad D E (List.replicate r.length z44) 0 F P) else (none)) else (if u = 241 then (host_Do.j0 k Q T x U W X u am ak au ad D E r ah F P) else (if u = 111 then ((host_clean.f k D E r ah F P).bind fun Y => ((host_unlocked.f Y.1 Y.2.1 Y.2.2.1 Y.2.2.2.1 Y.2.2.2.2.1 Y.2.2.2.2.2).bind fun z => (some (z.1, z.2.1, z.2.2.1, z.2.2.2.1, z.2.2.2.2.1, z.2.2.2.2.2, none, ([] : List (S184)))))) else (some (D, E, r, ah, F, P, none, ([] : List (S184))))))) = some (r1, r2, r3, r4, r5, r6, (none : Option Er), r8) := H
  have A5 := Z hF
  clear hF
  have he := Z H
  clear H
  go_enter Tryd.func31, Tryd.ntmps31
  try go_wp2_with (first | ((with_reducible refine gate_dst (N := 2) rfl ?_); refine bx_ 2 24 #[.int .i64 Q, .int .i64 T, .slice aL x.length aM, .int .i64 U, .bool W, .bool X] ?_; intro aa hg w7 hbox hb; replace y := Z (ve y.out hg hb); have b := Z (hbox); have lb := Z (ln_ hg : w.heap.size ≤ aa); have fd := Z (ln_ hg : w.heap.size ≤ aa); replace HB := Z (below_step bl_ hb); clear hb hbox hg) | ((with_reducible refine gate_dst (N := 3) rfl ?_); refine bx_ 3 60 #[.int .i64 u, .bool am, .bool ak, .bool au, .slice aX ad.length aY] ?_; intro ab hg w8 hbox hb; replace y := Z (ve y.out hg hb); have d := Z (hbox); have lc := Z (ln_ hg : w.heap.size ≤ ab); have fe := Z (ln_ hg : w.heap.size ≤ ab); replace HB := Z (below_step bl_ hb); have be := Z (nl b.out hg); have bg := Z (ng b.out hg); replace b := Z (kb b.out hb); clear hb hbox hg) | ((with_reducible refine gate_dst (N := 4) rfl ?_); refine bx_ 4 24 #[.int .i64 0, .int .i64 0, .slice none 0 0, .int .i64 0, .bool false, .bool false] ?_; intro s hg w9 hbox hb; replace y := Z (ve y.out hg hb); have l := Z (hbox); have ld := Z (ln_ hg : w.heap.size ≤ s); have ff := Z (ln_ hg : w.heap.size ≤ s); replace HB := Z (below_step bl_ hb); have a1 := Z (nl b.out hg); have a2 := Z (ng b.out hg); replace b := Z (kb b.out hb); have aZ := Z (nl d.out hg); have a0 := Z (ng d.out hg); replace d := Z (kb d.out hb); clear hb hbox hg))
  have G := Z (Kd.V_drew y.out)
  have I := Z (blk_drew b.out)
  have J := Z (blk_drew d.out)
  have L := Z (blk_drew l.out)
  have O := Z (below_drew1 HB.out)
  clear y
  clear b
  clear d
  clear l
  clear HB
  have y := G
  have b := I
  have d := J
  have l := L
  have HB := O
  clear G I J L O
  refine start_ (n := 9) (S := fun w' => w'.cell? ⟨ab, 0, none⟩ = some (.int .i64 u) ∧ w'.cell? ⟨ab, 1, none⟩ = some (.bool am) ∧ w'.cell? ⟨ab, 2, none⟩ = some (.bool ak) ∧ w'.cell? ⟨ab, 3, none⟩ = some (.bool au) ∧ w'.cell? ⟨ab, 4, none⟩ = some (.slice aX ad.length aY) ∧ w'.cell? ⟨aa, 0, none⟩ = some (.int .i64 Q) ∧ w'.cell? ⟨aa, 1, none⟩ = some (.int .i64 T) ∧ w'.cell? ⟨aa, 2, none⟩ = some (.slice aL x.length aM) ∧ w'.cell? ⟨aa, 3, none⟩ = some (.int .i64 U) ∧ w'.cell? ⟨aa, 4, none⟩ = some (.bool W) ∧ w'.cell? ⟨aa, 5, none⟩ = some (.bool X)) (ds := []) (bv 9 0) (by kernel_rfl) rfl rfl ⟨(blk_cell d.out 0).trans rfl, (blk_cell d.out 1).trans rfl, (blk_cell d.out 2).trans rfl, (blk_cell d.out 3).trans rfl, (blk_cell d.out 4).trans rfl, (blk_cell b.out 0).trans rfl, (blk_cell b.out 1).trans rfl, (blk_cell b.out 2).trans rfl, (blk_cell b.out 3).trans rfl, (blk_cell b.out 4).trans rfl, (blk_cell b.out 5).trans rfl⟩ (fun hHeld => ?_); refine with_tabW host_Do.tab1 host_Do.bits1 (fun HT_ HW_ => ?_)
  generalize w9.drew = mW at y b d l HB hHeld ⊢
  refine take_ (i := 0) (N := some 13) (v := ?_) (a' := ?_) (bv 9 1) rfl rfl (take_ofW HT_.out HW_.out (by kernel_rfl)) (fun _ _ _ h => h) (Or.inl ⟨by rfl, ?_⟩) hHeld ?_ ?_
  rotate_left
  ·rintro w' ⟨s0, s1, s2, s3, s4, s5, s6, s7, s8, s9, kZ⟩
   go_simp
   with_reducible rfl
  rotate_left
  ·simp only [Act.put, sA, sB, sC, i64_w, i32_w]
   rfl
  refine take_ (i := 1) (N := some 14) (v := ?_) (a' := ?_) (bv 9 3) rfl rfl (take_ofW HT_.out HW_.out (by kernel_rfl)) (fun _ _ _ h => h) (Or.inl ⟨by rfl, ?_⟩) hHeld ?_ ?_
  rotate_left
  ·rintro w' ⟨s0, s1, s2, s3, s4, s5, s6, s7, s8, s9, kZ⟩
   go_simp
   with_reducible rfl
  rotate_left
  ·simp only [Act.put, sA, sB, sC, i64_w, i32_w]
   rfl
  refine one_ (i := 2) (N := some 15) (bv 9 7) rfl rfl (one_of HT_.out (by kernel_rfl)) (by decide) (fun K hK => ?_)
  refine goes_ Tryd.func37 (by kernel_rfl) rfl #[.agg #[.int .i64 Q, .int .i64 T, .slice aL x.length aM, .int .i64 U, .bool W, .bool X]] (by rfl) rfl rfl ag_ ?_
  with_reducible refine (grid_Size.calls Q T _ _ x U W X b2 _ ?side1 ?side2 A3.out).mono ?_
  (case side1 => repeat (first | exact (Kd.V_reads' y.out).2.2 | (with_reducible apply pC)))
  (case side2 => exact (Kd.V_reads' y.out).2.1)
  rintro e mX ⟨rfl, hb⟩
  refine ⟨_, rfl, ?_⟩
  have G := Z (vb y.out hb)
  have I := Z (kb b.out hb)
  have J := Z (kb d.out hb)
  have L := Z (kb l.out hb)
  have O := Z (below_step bl_ hb)
  clear y
  clear b
  clear d
  clear l
  clear HB
  have y := G
  have b := I
  have d := J
  have l := L
  have HB := O
  clear G I J L O
  (try clear hb)
  (try clear cl)
  (try clear hk)
  (try clear hi)
  refine hK.out _ _ ⟨(blk_cell d.out 0).trans rfl, (blk_cell d.out 1).trans rfl, (blk_cell d.out 2).trans rfl, (blk_cell d.out 3).trans rfl, (blk_cell d.out 4).trans rfl, (blk_cell b.out 0).trans rfl, (blk_cell b.out 1).trans rfl, (blk_cell b.out 2).trans rfl, (blk_cell b.out 3).trans rfl, (blk_cell b.out 4).trans rfl, (blk_cell b.out 5).trans rfl⟩ (fun hHeld => ?_)
  clear hK K
  refine norm_ (a' := ?_) ?_ ?_
  rotate_left
  ·show Act.put _ (some 15) _ = _
   simp only [Act.put, sA, sB, sC, i64_w, i32_w]
   rfl
  refine one_ (i := 3) (N := some 16) (bv 9 15) rfl rfl (one_of HT_.out (by kernel_rfl)) (by decide) (fun K hK => ?_)
  refine goes_ Tryd.func48 (by kernel_rfl) rfl #[.agg #[.int .i64 u, .bool am, .bool ak, .bool au, .slice aX ad.length aY], .int .i64 b2] (by rfl) rfl rfl ag_ ?_
  with_reducible refine (stream_Write.calls k u am ak au _ _ ad b2 ht none eK _ ?side1 ?side2 A4.out).mono ?_
  (case side1 => repeat (first | exact (Kd.C_below eD.out HB.out) | (with_reducible apply pC)))
  (case side2 => exact eC.out)
  rintro e mY ⟨bH, jH, rfl, aq, b8, hb⟩
  refine ⟨_, rfl, ?_⟩
  have G := Z (Kd.V_elder' (vV y.out) (Kd.R_base aq) hb)
  have I := Z (Kd.R_lower (Kd.R_newM (M := fun k_ => (w.heap.size ≤ k_)) (Kd.R_mono (ok' := fun k_ => True) aq (fun _ hk_ => trivial)) (below_size bl_) (fun k_ h_ => h_)) (below_size bl_))
  have J := Z (Kd.V_lower (Kd.V_mono (ok' := fun k_ => (ax k_ ∨ w.heap.size ≤ k_) ∧ some k_ ≠ (bH : Value).ownBlock ∧ k_ ≠ aa ∧ k_ ≠ ab ∧ k_ ≠ s) b8 (fun k_ hk_ => ⟨(.inr (Nat.le_trans (below_size bl_) hk_.1)), hk_.2, (Kd.freshB (g := aa) (o := .cells #[.int .i64 Q, .int .i64 T, .slice aL x.length aM, .int .i64 U, .bool W, .bool X] 24 (0, 0)) (vK b.out) k_ hk_.1), (Kd.freshB (g := ab) (o := .cells #[.int .i64 u, .bool am, .bool ak, .bool au, .slice aX ad.length aY] 60 (0, 0)) (vK d.out) k_ hk_.1), (Kd.freshB (g := s) (o := .cells #[.int .i64 0, .int .i64 0, .slice none 0 0, .int .i64 0, .bool false, .bool false] 24 (0, 0)) (vK l.out) k_ hk_.1)⟩)) (below_size bl_))
  have L := Z (kb b.out hb)
  have O := Z (kb d.out hb)
  have af := Z (kb l.out hb)
  have ag := Z (below_step bl_ hb)
  clear y
  clear b
  clear d
  clear l
  clear HB
  have y := G
  have aC := I
  have aD := J
  have b := L
  have d := O
  have l := af
  have HB := ag
  clear G I J L O af ag
  (try clear hb)
  (try clear cl)
  (try clear hk)
  (try clear hi)
  (try clear aq)
  (try clear b8)
  (try simp only [errW_none, errW_some])
  refine hK.out _ _ ⟨(blk_cell d.out 0).trans rfl, (blk_cell d.out 1).trans rfl, (blk_cell d.out 2).trans rfl, (blk_cell d.out 3).trans rfl, (blk_cell d.out 4).trans rfl, (blk_cell b.out 0).trans rfl, (blk_cell b.out 1).trans rfl, (blk_cell b.out 2).trans rfl, (blk_cell b.out 3).trans rfl, (blk_cell b.out 4).trans rfl, (blk_cell b.out 5).trans rfl⟩ (fun hHeld => ?_)
  clear hK K
  refine norm_ (a' := ?_) ?_ ?_
  rotate_left
  ·show Act.put _ (some 16) _ = _
   simp only [Act.put, sA, sB, sC, i64_w, i32_w]
   rfl
  refine pure_ (i := 4) (N := some 12) (v := ?_) (a' := ?_) (bv 9 31) rfl rfl (any_of HT_.out (by kernel_rfl)) (fun _ _ _ h => h) (Or.inl ⟨by rfl, ?_⟩) ?_ ?_
  rotate_left
  ·intro w'
   go_simp
   with_reducible rfl
  rotate_left
  ·simp only [Act.put, sA, sB, sC, i64_w, i32_w]
   rfl
  refine pure_ (i := 5) (N := some 17) (v := ?_) (a' := ?_) (bv 9 63) rfl rfl (any_of HT_.out (by kernel_rfl)) (fun _ _ _ h => h) (Or.inl ⟨by rfl, ?_⟩) ?_ ?_
  rotate_left
  ·intro w'
   go_simp
   with_reducible rfl
  rotate_left
  ·simp only [Act.put, sA, sB, sC, i64_w, i32_w]
   rfl
  refine pure_ (i := 6) (N := some 18) (v := ?_) (a' := ?_) (bv 9 127) rfl rfl (any_of HT_.out (by kernel_rfl)) (fun _ _ _ h => h) (Or.inl ⟨by rfl, ?_⟩) ?_ ?_
  rotate_left
  ·intro w'
   go_simp
   with_reducible rfl
  rotate_left
  ·simp only [Act.put, sA, sB, sC, i64_w, i32_w]
   rfl
  refine pure_ (i := 7) (N := some 6) (v := ?_) (a' := ?_) (bv 9 255) rfl rfl (any_of HT_.out (by kernel_rfl)) (fun _ _ _ h => h) (Or.inl ⟨by rfl, ?_⟩) ?_ ?_
  rotate_left
  ·intro w'
   go_simp
   with_reducible rfl
  rotate_left
  ·simp only [Act.put, sA, sB, sC, i64_w, i32_w]
   rfl
  refine pure_ (i := 8) (N := some 7) (v := ?_) (a' := ?_) (bv 9 511) rfl rfl (any_of HT_.out (by kernel_rfl)) (fun _ _ _ h => h) (Or.inl ⟨by rfl, ?_⟩) ?_ ?_
  rotate_left
  ·intro w'
   go_simp
   with_reducible rfl
  rotate_left
  ·simp only [Act.put, sA, sB, sC, i64_w, i32_w]
   rfl
  refine done_ (done_of HT_.out (by kernel_rfl)) ?_
  have lf := be.out
  have lN := bg.out
  have lg := a1.out
  have lO := a2.out
  obtain ⟨cm, cn, co, cp, cq, cr, dy, dz, dA, dB, dC, dD⟩ := cells6 b.out
  go_upto_block 2 with (first | ((with_reducible refine gate_callee (f := 38) rfl ?_); refine goesL_ (some 24) rfl rfl Tryd.func38 (by kernel_rfl) rfl #[.agg #[.int .i64 Q, .int .i64 T, .slice aL x.length aM, .int .i64 U, .bool W, .bool X]] rfl ag_ ?_; (with_reducible refine (grid_Copy.calls Q T _ _ x U W X D E r ah F P _ ?side1 ?side2 A5.out).mono ?_); (case side1 => repeat (first | exact (Kd.V_reads' y.out).2.2 | (with_reducible apply pC))); (case side2 => exact (Kd.V_reads' y.out).2.1); rintro e mZ ⟨mJ, rfl, aq, hb⟩; refine ⟨_, rfl, ?_⟩; replace y := Z (Kd.V_elder' (vV y.out) (Kd.R_base aq) hb); replace aC := Z (rb aC.out hb); replace aD := Z (Kd.V_elder' (vV aD.out) (Kd.R_base aq) hb); have ac := Z (Kd.R_lower (Kd.R_newM (M := fun k_ => (w.heap.size ≤ k_)) aq (below_size bl_) (fun k_ h_ => h_)) (below_size bl_)); replace b := Z (kb b.out hb); replace d := Z (kb d.out hb); replace l := Z (kb l.out hb); replace HB := Z (below_step bl_ hb); (try clear hb); (try clear cl); (try clear hk); (try clear hi); (try clear aq)) | ((with_reducible refine gate_dst (N := 8) rfl ?_); refine bx_ 8 24 #[.int .i64 0, .int .i64 0, .slice none 0 0, .int .i64 0, .bool false, .bool false] ?_; intro a hg bM hbox hb; replace y := Z (ve y.out hg hb); replace aC := Z (rb aC.out hb); replace aD := Z (ve aD.out hg hb); replace ac := Z (rb ac.out hb); have m := Z (hbox); have le := Z (ln_ hg : w.heap.size ≤ a); have fg := Z (ln_ hg : w.heap.size ≤ a); replace HB := Z (below_step bl_ hb); have ap := Z (nl b.out hg); have aT := Z (ng b.out hg); replace b := Z (kb b.out hb); have al := Z (nl d.out hg); have aO := Z (ng d.out hg); replace d := Z (kb d.out hb); have q := Z (nl l.out hg); have aU := Z (ng l.out hg); replace l := Z (kb l.out hb); clear hb hbox hg; have lh := aT.out; have lP := ap.out; have li := aO.out; have lQ := al.out; have lj := aU.out; have lR := q.out; obtain ⟨ct, cu, cv, cw, cx, cy, dE, dF, dG, dH, dI, dJ⟩ := cells6 m.out; obtain ⟨ae, B, hQ⟩ := Kd.R_slice ac.out; subst hQ; have lk := aZ.out; have lS := a0.out; obtain ⟨cz, cA, cB, cC, cD, dK, dL, dM, dN, dO⟩ := cells5 d.out))
  (try simp only [Act.put, sA, sB, sC])
  go_cut [] (fun wc => ∃ (kq : Nat) (aQ : List (S44)) (aR : Int) (u352002 : Value), Aside0 (host_Do.j0 kq Q T x U W X u am ak au ad D E aQ aR F P = some (r1, r2, r3, r4, r5, r6, (none : Option Er), r8)) ∧ Aside0 (kq ≤ k) ∧ Aside0 (Kd.V k44 44 wc w.heap.size (fun k_ => (ax k_ ∨ w.heap.size ≤ k_) ∧ some k_ ≠ (u352002 : Value).ownBlock ∧ k_ ≠ aa ∧ k_ ≠ ab ∧ k_ ≠ s ∧ k_ ≠ a) (.slice aL x.length aM) x) ∧ Aside0 (Kd.R k44 44 wc w.heap.size (fun k_ => (w.heap.size ≤ k_)) u352002 aQ) ∧ Aside0 (wc.heap[aa]? = some (.cells #[.int .i64 Q, .int .i64 T, (.slice aL x.length aM), .int .i64 U, .bool W, .bool X] 24 (0, 0))) ∧ Aside0 (wc.heap[ab]? = some (.cells #[.int .i64 u, .bool am, .bool ak, .bool au, (.slice aX ad.length aY)] 60 (0, 0))) ∧ Aside0 (wc.heap[s]? = some (.cells #[.int .i64 0, .int .i64 0, (.slice none 0 0), .int .i64 0, .bool false, .bool false] 24 (0, 0))) ∧ Aside0 (wc.heap[a]? = some (.cells #[.int .i64 D, .int .i64 E, u352002, .int .i64 aR, .bool F, .bool P] 24 (0, 0))) ∧ Aside0 (Below w.heap.size w wc))
  case first =>
   have H := he.out
   clear he
   by_cases bQ : u = 245
   ·rw [if_pos bQ] at H
    have bo : (u == 245) = true := beq_iff_eq.mpr bQ
    have eE : (u != 245) = false := bne_eq_false_iff_eq.mpr bQ
    clear bQ
    (first | rw [bo] | (simp only [i64_w, i32_w]; rw [bo]) | skip)
    by_cases ck : 0 < (r.length : Int)
    ·rw [if_pos ck] at H
     have fl : decide (0 < (r.length : Int)) = true := decide_eq_true ck
     have fm : decide (0 < r.length) = true := decide_eq_true (by omega)
     clear ck
     obtain ⟨e9, bZ⟩ : ∃ y_ : List (S44), y_ = (List.replicate r.length z44) := ⟨_, rfl⟩
     replace H : (host_Do.j0 k Q T x U W X u am ak au ad D E e9 0 F P) = some (r1, r2, r3, r4, r5, r6, (none : Option Er), r8) := by first | (rw [bZ]; with_reducible exact H) | (have hc := (Option.bind_some _ _).symm.trans H; rw [bZ]; with_reducible exact hc) | (have hc := (Option.bind_some _ _).symm.trans H; with_reducible exact hc) | with_reducible exact H | (rw [bZ]; exact H) | exact H
     have hy := Z bZ
     clear bZ
     have H' := Z H
     clear H
     have ll := aT.out
     have lT := ap.out
     have lm := aO.out
     have lU := al.out
     have ln := aU.out
     have lV := q.out
     obtain ⟨cE, cF, cG, cH, cI, cJ, dP, dQ, dR, dS, dT, dU⟩ := cells6 m.out
     have G : Aside0 (Kd.V k44 44 ((((((bM.setCell ⟨a, 0, none⟩ (.int .i64 D)).setCell ⟨a, 1, none⟩ (.int .i64 E)).setCell ⟨a, 2, none⟩ (.slice ae r.length B)).setCell ⟨a, 3, none⟩ (.int .i64 ah)).setCell ⟨a, 4, none⟩ (.bool F)).setCell ⟨a, 5, none⟩ (.bool P)) w.heap.size (fun k_ => (ax k_ ∨ w.heap.size ≤ k_) ∧ some k_ ≠ (bH : Value).ownBlock ∧ some k_ ≠ (.slice ae r.length B : Value).ownBlock ∧ k_ ≠ aa ∧ k_ ≠ ab ∧ k_ ≠ s ∧ k_ ≠ a) (.slice aL x.length aM) x) := ⟨by (with_reducible repeat apply pV); exact Kd.V_mono (f6V a (Kd.V_mono y.out (fun k_ hk => (⟨hk, hk.2⟩ : _ ∧ k_ ≠ a))) (fun _ hk => hk.2)) (fun _ hk => ⟨hk.1.1.1.1.1.1.1, ⟨hk.1.1.1.2, ⟨hk.1.1.2, ⟨hk.1.1.1.1.1.1.2, ⟨hk.1.1.1.1.1.2, ⟨hk.1.1.1.1.2, hk.1.2⟩⟩⟩⟩⟩⟩)⟩
     have I : Aside0 (Kd.R (Kd.int .u8) 5 ((((((bM.setCell ⟨a, 0, none⟩ (.int .i64 D)).setCell ⟨a, 1, none⟩ (.int .i64 E)).setCell ⟨a, 2, none⟩ (.slice ae r.length B)).setCell ⟨a, 3, none⟩ (.int .i64 ah)).setCell ⟨a, 4, none⟩ (.bool F)).setCell ⟨a, 5, none⟩ (.bool P)) w.heap.size (fun k_ => (w.heap.size ≤ k_)) bH ht) := ⟨by (with_reducible repeat apply pR); exact Kd.R_mono (f6R a (Kd.R_types aC.out m.out (by decide)) (fun _ hk => hk.2)) (fun _ hk => hk.1.1)⟩
     have J : Aside0 (Kd.V k184 184 ((((((bM.setCell ⟨a, 0, none⟩ (.int .i64 D)).setCell ⟨a, 1, none⟩ (.int .i64 E)).setCell ⟨a, 2, none⟩ (.slice ae r.length B)).setCell ⟨a, 3, none⟩ (.int .i64 ah)).setCell ⟨a, 4, none⟩ (.bool F)).setCell ⟨a, 5, none⟩ (.bool P)) w.heap.size (fun k_ => (ax k_ ∨ w.heap.size ≤ k_) ∧ some k_ ≠ (bH : Value).ownBlock ∧ some k_ ≠ (.slice ae r.length B : Value).ownBlock ∧ k_ ≠ aa ∧ k_ ≠ ab ∧ k_ ≠ s ∧ k_ ≠ a) jH eK) := ⟨by (with_reducible repeat apply pV); exact Kd.V_mono (f6V a (Kd.V_mono aD.out (fun k_ hk => (⟨hk, hk.2⟩ : _ ∧ k_ ≠ a))) (fun _ hk => hk.2)) (fun _ hk => ⟨hk.1.1.1.1, ⟨hk.1.1.1.2.1, ⟨hk.1.1.2, ⟨hk.1.1.1.2.2.1, ⟨hk.1.1.1.2.2.2.1, ⟨hk.1.1.1.2.2.2.2, hk.1.2⟩⟩⟩⟩⟩⟩)⟩
     have L : Aside0 (Kd.R k44 44 ((((((bM.setCell ⟨a, 0, none⟩ (.int .i64 D)).setCell ⟨a, 1, none⟩ (.int .i64 E)).setCell ⟨a, 2, none⟩ (.slice ae r.length B)).setCell ⟨a, 3, none⟩ (.int .i64 ah)).setCell ⟨a, 4, none⟩ (.bool F)).setCell ⟨a, 5, none⟩ (.bool P)) w.heap.size (fun k_ => (w.heap.size ≤ k_)) (.slice ae r.length B) r) := ⟨by (with_reducible repeat apply pR); exact Kd.R_mono (f6R a (Kd.R_types ac.out m.out (by decide)) (fun _ hk => hk.2)) (fun _ hk => hk.1.1)⟩
     have O : Aside0 (((((((bM.setCell ⟨a, 0, none⟩ (.int .i64 D)).setCell ⟨a, 1, none⟩ (.int .i64 E)).setCell ⟨a, 2, none⟩ (.slice ae r.length B)).setCell ⟨a, 3, none⟩ (.int .i64 ah)).setCell ⟨a, 4, none⟩ (.bool F)).setCell ⟨a, 5, none⟩ (.bool P)).heap[aa]? = some (.cells #[.int .i64 Q, .int .i64 T, .slice aL x.length aM, .int .i64 U, .bool W, .bool X] 24 (0, 0))) := ⟨blk_off b.out ap.out off2_⟩
     have af : Aside0 (((((((bM.setCell ⟨a, 0, none⟩ (.int .i64 D)).setCell ⟨a, 1, none⟩ (.int .i64 E)).setCell ⟨a, 2, none⟩ (.slice ae r.length B)).setCell ⟨a, 3, none⟩ (.int .i64 ah)).setCell ⟨a, 4, none⟩ (.bool F)).setCell ⟨a, 5, none⟩ (.bool P)).heap[ab]? = some (.cells #[.int .i64 u, .bool am, .bool ak, .bool au, .slice aX ad.length aY] 60 (0, 0))) := ⟨blk_off d.out al.out off2_⟩
     have ag : Aside0 (((((((bM.setCell ⟨a, 0, none⟩ (.int .i64 D)).setCell ⟨a, 1, none⟩ (.int .i64 E)).setCell ⟨a, 2, none⟩ (.slice ae r.length B)).setCell ⟨a, 3, none⟩ (.int .i64 ah)).setCell ⟨a, 4, none⟩ (.bool F)).setCell ⟨a, 5, none⟩ (.bool P)).heap[s]? = some (.cells #[.int .i64 0, .int .i64 0, .slice none 0 0, .int .i64 0, .bool false, .bool false] 24 (0, 0))) := ⟨blk_off l.out q.out off2_⟩
     have ai : Aside0 (((((((bM.setCell ⟨a, 0, none⟩ (.int .i64 D)).setCell ⟨a, 1, none⟩ (.int .i64 E)).setCell ⟨a, 2, none⟩ (.slice ae r.length B)).setCell ⟨a, 3, none⟩ (.int .i64 ah)).setCell ⟨a, 4, none⟩ (.bool F)).setCell ⟨a, 5, none⟩ (.bool P)).heap[a]? = some (.cells #[.int .i64 D, .int .i64 E, .slice ae r.length B, .int .i64 ah, .bool F, .bool P] 24 (0, 0))) := ⟨put6 m.out⟩
     have av : Aside0 (Below w.heap.size w ((((((bM.setCell ⟨a, 0, none⟩ (.int .i64 D)).setCell ⟨a, 1, none⟩ (.int .i64 E)).setCell ⟨a, 2, none⟩ (.slice ae r.length B)).setCell ⟨a, 3, none⟩ (.int .i64 ah)).setCell ⟨a, 4, none⟩ (.bool F)).setCell ⟨a, 5, none⟩ (.bool P))) := ⟨bl_⟩
     (try clear y)
     (try clear aC)
     (try clear aD)
     (try clear ac)
     (try clear b)
     (try clear d)
     (try clear l)
     (try clear m)
     (try clear HB)
     generalize ((((((bM.setCell ⟨a, 0, none⟩ (.int .i64 D)).setCell ⟨a, 1, none⟩ (.int .i64 E)).setCell ⟨a, 2, none⟩ (.slice ae r.length B)).setCell ⟨a, 3, none⟩ (.int .i64 ah)).setCell ⟨a, 4, none⟩ (.bool F)).setCell ⟨a, 5, none⟩ (.bool P)) = a3 at G I J L O af ag ai av ⊢
     have y := G
     have aC := I
     have aD := J
     have ac := L
     have b := O
     have d := af
     have l := ag
     have m := ai
     have HB := av
     clear G I J L O af ag ai av
     obtain ⟨cK, cL, cM, cN, cO, cP, dV, dW, dX, dY, dZ, d0⟩ := cells6 m.out
     have p27 : 0 ≤ (0 : Int) := (by omega)
     have cc : (0 : Int) < ((r.length : Int) : Int) := od_
     have hs : (0 < r.length) = True := eq_true (by omega)
     obtain ⟨aw, mu, hj, hl, hX, mt, hf⟩ := Kd.R_form ac.out (by omega)
     (first | cases hj | (injection hj with ea_ en_ ec_; (first | subst ea_ | (injection ea_ with ea_; subst ea_)); subst ec_; clear en_))
     have hN := Z hl
     have mq := Z hf
     clear hl hX hf
     obtain ⟨ms, hC, hm, bq, br⟩ := Kd.R_elem ac.out z44 (0 : Int) p27 cc
     obtain rfl := k44_openM hm
     have bT : a3.cell? ⟨aw, (0 : Int).toNat * 6, none⟩ = some (.bool ((rd_T44 r 0).f0)) := bq 0 _ rfl
     have bU : a3.cell? ⟨aw, (0 : Int).toNat * 6 + 1, none⟩ = some (.bool ((rd_T44 r 0).f1.f0)) := bq 1 _ rfl
     have bV : a3.cell? ⟨aw, (0 : Int).toNat * 6 + 2, none⟩ = some (.bool ((rd_T44 r 0).f1.f1)) := bq 2 _ rfl
     have bW : a3.cell? ⟨aw, (0 : Int).toNat * 6 + 3, none⟩ = some (.int .i64 ((rd_T44 r 0).f1.f2)) := bq 3 _ rfl
     have bX : a3.cell? ⟨aw, (0 : Int).toNat * 6 + 4, none⟩ = some (.bool ((rd_T44 r 0).f1.f3)) := bq 4 _ rfl
     have bY : a3.cell? ⟨aw, (0 : Int).toNat * 6 + 5, none⟩ = some (.int .u8 ((rd_T44 r 0).f2)) := bq 5 _ rfl
     have eR : a3.frozen? ⟨aw, (0 : Int).toNat * 6, none⟩ = false := br 0
     have eS : a3.frozen? ⟨aw, (0 : Int).toNat * 6 + 1, none⟩ = false := br 1
     have eT : a3.frozen? ⟨aw, (0 : Int).toNat * 6 + 2, none⟩ = false := br 2
     have eU : a3.frozen? ⟨aw, (0 : Int).toNat * 6 + 3, none⟩ = false := br 3
     have eV : a3.frozen? ⟨aw, (0 : Int).toNat * 6 + 4, none⟩ = false := br 4
     have eW : a3.frozen? ⟨aw, (0 : Int).toNat * 6 + 5, none⟩ = false := br 5
     clear hC bq br hm
     (try rw [show ((0 : Int)).toNat = 0 from rfl] at bT)
     (try simp only [Nat.reduceMul, Nat.zero_mul, Nat.zero_add, Nat.reduceAdd] at bT)
     (try rw [show ((0 : Int)).toNat = 0 from rfl] at eR)
     (try simp only [Nat.reduceMul, Nat.zero_mul, Nat.zero_add, Nat.reduceAdd] at eR)
     (try rw [show ((0 : Int)).toNat = 0 from rfl] at bU)
     (try simp only [Nat.reduceMul, Nat.zero_mul, Nat.zero_add, Nat.reduceAdd] at bU)
     (try rw [show ((0 : Int)).toNat = 0 from rfl] at eS)
     (try simp only [Nat.reduceMul, Nat.zero_mul, Nat.zero_add, Nat.reduceAdd] at eS)
     (try rw [show ((0 : Int)).toNat = 0 from rfl] at bV)
     (try simp only [Nat.reduceMul, Nat.zero_mul, Nat.zero_add, Nat.reduceAdd] at bV)
     (try rw [show ((0 : Int)).toNat = 0 from rfl] at eT)
     (try simp only [Nat.reduceMul, Nat.zero_mul, Nat.zero_add, Nat.reduceAdd] at eT)
     (try rw [show ((0 : Int)).toNat = 0 from rfl] at bW)
     (try simp only [Nat.reduceMul, Nat.zero_mul, Nat.zero_add, Nat.reduceAdd] at bW)
     (try rw [show ((0 : Int)).toNat = 0 from rfl] at eU)
     (try simp only [Nat.reduceMul, Nat.zero_mul, Nat.zero_add, Nat.reduceAdd] at eU)
     (try rw [show ((0 : Int)).toNat = 0 from rfl] at bX)
     (try simp only [Nat.reduceMul, Nat.zero_mul, Nat.zero_add, Nat.reduceAdd] at bX)
     (try rw [show ((0 : Int)).toNat = 0 from rfl] at eV)
     (try simp only [Nat.reduceMul, Nat.zero_mul, Nat.zero_add, Nat.reduceAdd] at eV)
     (try rw [show ((0 : Int)).toNat = 0 from rfl] at bY)
     (try simp only [Nat.reduceMul, Nat.zero_mul, Nat.zero_add, Nat.reduceAdd] at bY)
     (try rw [show ((0 : Int)).toNat = 0 from rfl] at eW)
     (try simp only [Nat.reduceMul, Nat.zero_mul, Nat.zero_add, Nat.reduceAdd] at eW)
     replace p27 := eq_true p27
     replace cc := eq_true cc
     have hh := Z (show Kd.R k44 44 a3 w.heap.size (fun k_ => (w.heap.size ≤ k_)) (.slice (some ⟨aw, 0, none⟩) r.length B) r from (by (with_reducible repeat apply pR); exact ac.out))
     have e0 := clear_all hh.out
     have hO := Z (clear_run hh.out)
     go_wp2_with (first | ((with_reducible refine gate_dst (N := 34) rfl ?_); refine Kd.event_run (v := .slice (some ⟨aw, 0, none⟩) r.length B) (w1 := a3) rfl ?hr ?_; (case hr => go_simp; first | done | rfl); refine Kd.event_run (v := .tuple #[]) (w1 := a3.setCells aw 0 (zl r.length)) rfl ?hr ?_; (case hr => (have hz_ := hO.out; go_simp; first | done | rfl)); obtain ⟨hL, hw⟩ : ∃ w_ : World, w_ = a3.setCells aw 0 (zl r.length) := ⟨_, rfl⟩; rw [← hw]; have hg : a3.grownBy hL (some aw) := (by rw [hw]; exact e0.2); have hp_ : Kd.R k44 44 hL w.heap.size (fun k_ => (w.heap.size ≤ k_)) (.slice (some ⟨aw, 0, none⟩) r.length B) e9 := (by rw [hw, hy.out]; exact e0.1); clear e0; replace y := Z (Kd.V_afterv (v := (.slice (some ⟨aw, 0, none⟩) r.length B)) (v1 := (.slice (some ⟨aw, 0, none⟩) r.length B)) (ok := (fun k_ => (ax k_ ∨ w.heap.size ≤ k_) ∧ some k_ ≠ (bH : Value).ownBlock ∧ k_ ≠ aa ∧ k_ ≠ ab ∧ k_ ≠ s ∧ k_ ≠ a)) (by (with_reducible repeat apply pV); exact Kd.V_mono y.out (fun _ hk => ⟨⟨hk.1, ⟨hk.2.1, ⟨hk.2.2.2.1, ⟨hk.2.2.2.2.1, ⟨hk.2.2.2.2.2.1, hk.2.2.2.2.2.2⟩⟩⟩⟩⟩, hk.2.2.1⟩)) hg (.inl rfl)); replace b := Z (blk_grown (g := aa) (o := .cells #[.int .i64 Q, .int .i64 T, .slice aL x.length aM, .int .i64 U, .bool W, .bool X] 24 (0, 0)) (vK b.out) hg (Kd.R_ne ac.out b.out (by decide))); replace d := Z (blk_grown (g := ab) (o := .cells #[.int .i64 u, .bool am, .bool ak, .bool au, .slice aX ad.length aY] 60 (0, 0)) (vK d.out) hg (Kd.R_ne ac.out d.out (by decide))); replace l := Z (blk_grown (g := s) (o := .cells #[.int .i64 0, .int .i64 0, .slice none 0 0, .int .i64 0, .bool false, .bool false] 24 (0, 0)) (vK l.out) hg (Kd.R_ne ac.out l.out (by decide))); replace aC := Z (Kd.R_over' (v := (.slice (some ⟨aw, 0, none⟩) r.length B)) (by (with_reducible repeat apply pR); exact aC.out) (Kd.R_typed ac.out) (by decide) hg); replace aD := Z (Kd.V_afterv (v := (.slice (some ⟨aw, 0, none⟩) r.length B)) (v1 := (.slice (some ⟨aw, 0, none⟩) r.length B)) (ok := (fun k_ => (ax k_ ∨ w.heap.size ≤ k_) ∧ some k_ ≠ (bH : Value).ownBlock ∧ k_ ≠ aa ∧ k_ ≠ ab ∧ k_ ≠ s ∧ k_ ≠ a)) (by (with_reducible repeat apply pV); exact Kd.V_mono aD.out (fun _ hk => ⟨⟨hk.1, ⟨hk.2.1, ⟨hk.2.2.2.1, ⟨hk.2.2.2.2.1, ⟨hk.2.2.2.2.2.1, hk.2.2.2.2.2.2⟩⟩⟩⟩⟩, hk.2.2.1⟩)) hg (.inl rfl)); replace m := Z (blk_grown (g := a) (o := .cells #[.int .i64 D, .int .i64 E, .slice (some ⟨aw, 0, none⟩) r.length B, .int .i64 ah, .bool F, .bool P] 24 (0, 0)) (vK m.out) hg (Kd.R_ne ac.out m.out (by decide))); replace ac := Z (hp_); replace HB := Z (HB.out.grown hg HB.out.size (fun k_ e_ => by injection e_ with e_; rw [← e_]; exact hN.out)); clear hg hw hp_; obtain ⟨cQ, cR, cS, cT, cU, cV, d1, d2, d3, d4, d5, d6⟩ := cells6 m.out))
     go_meet
     case rel => exact ⟨_, (e9), (0), (.slice (some ⟨aw, 0, none⟩) r.length B), H', ⟨by first | omega | exact Nat.le_refl _⟩, ⟨by (with_reducible repeat apply pV); exact Kd.V_mono (Kd.V_far (p := ⟨a, 3, none⟩) (Kd.V_mono y.out (fun k_ hk => (⟨hk, hk.1.2.2.2.2.2⟩ : _ ∧ k_ ≠ a))) (fun _ hk => hk.2) (.int .i64 0)) (fun _ hk => ⟨hk.1.1.1, ⟨hk.1.2, ⟨hk.1.1.2.2.1, ⟨hk.1.1.2.2.2.1, ⟨hk.1.1.2.2.2.2.1, hk.1.1.2.2.2.2.2⟩⟩⟩⟩⟩)⟩, ⟨by (with_reducible repeat apply pR); exact Kd.R_mono (Kd.R_far (p := ⟨a, 3, none⟩) (Kd.R_types ac.out m.out (by decide)) (fun _ hk => hk.2) (.int .i64 0)) (fun _ hk => hk.1)⟩, ⟨blk_off b.out ap.out off2_⟩, ⟨blk_off d.out al.out off2_⟩, ⟨blk_off l.out q.out off2_⟩, ⟨by (with_reducible repeat apply pK); refine blk_put (cs := #[.int .i64 D, .int .i64 E, .slice (some ⟨aw, 0, none⟩) r.length B, .int .i64 ah, .bool F, .bool P]) ?_ 3 _ rfl; (with_reducible repeat apply pK); exact m.out⟩, ⟨bl_⟩⟩
    ·rw [if_neg ck] at H
     exact absurd H (by simp)
   ·rw [if_neg bQ] at H
    have bo : (u == 245) = false := beq_eq_false_iff_ne.mpr bQ
    have eE : (u != 245) = true := bne_iff_ne.mpr bQ
    (first | rw [bo] | (simp only [i64_w, i32_w]; rw [bo]) | skip)
    by_cases bR : u = 241
    ·rw [if_pos bR] at H
     have eF : (u == 241) = true := beq_iff_eq.mpr bR
     have eG : (u != 241) = false := bne_eq_false_iff_eq.mpr bR
     clear bR
     have H' := Z H
     clear H
     go_wp2
     go_meet
     case rel => exact ⟨_, (r), (ah), (.slice ae r.length B), H', ⟨by first | omega | exact Nat.le_refl _⟩, ⟨by (with_reducible repeat apply pV); exact Kd.V_mono (f6V a (Kd.V_mono y.out (fun k_ hk => (⟨hk, hk.2⟩ : _ ∧ k_ ≠ a))) (fun _ hk => hk.2)) (fun _ hk => ⟨hk.1.1.1.1.1.1.1, ⟨hk.1.1.2, ⟨hk.1.1.1.1.1.1.2, ⟨hk.1.1.1.1.1.2, ⟨hk.1.1.1.1.2, hk.1.2⟩⟩⟩⟩⟩)⟩, ⟨by (with_reducible repeat apply pR); exact Kd.R_mono (f6R a (Kd.R_types ac.out m.out (by decide)) (fun _ hk => hk.2)) (fun _ hk => hk.1.1)⟩, ⟨blk_off b.out ap.out off2_⟩, ⟨blk_off d.out al.out off2_⟩, ⟨blk_off l.out q.out off2_⟩, ⟨put6 m.out⟩, ⟨bl_⟩⟩
    ·rw [if_neg bR] at H
     have eF : (u == 241) = false := beq_eq_false_iff_ne.mpr bR
     have eG : (u != 241) = true := bne_iff_ne.mpr bR
     by_cases bS : u = 111
     ·rw [if_pos bS] at H
      have eH : (u == 111) = true := beq_iff_eq.mpr bS
      have eI : (u != 111) = false := bne_eq_false_iff_eq.mpr bS
      clear bS
      replace H := Option.bind_eq_some_iff.mp H
      obtain ⟨⟨eL, eM, b3, eN, eO, eP⟩, g6, H⟩ := H
      replace H : ((host_unlocked.f eL eM b3 eN eO eP).bind fun z => (some (z.1, z.2.1, z.2.2.1, z.2.2.2.1, z.2.2.2.2.1, z.2.2.2.2.2, none, ([] : List (S184))))) = some (r1, r2, r3, r4, r5, r6, (none : Option Er), r8) := H
      have j6 := Z g6
      clear g6
      replace H := Option.bind_eq_some_iff.mp H
      obtain ⟨⟨bk, bs, bF, bO, b4, cd⟩, g7, H⟩ := H
      replace H : (some (bk, bs, bF, bO, b4, cd, none, ([] : List (S184)))) = some (r1, r2, r3, r4, r5, r6, (none : Option Er), r8) := H
      have fa := Z g7
      clear g7
      simp only [Option.some.injEq, Prod.mk.injEq] at H
      (first | obtain ⟨rfl, rfl, rfl, rfl, rfl, rfl, _, rfl⟩ := H | obtain ⟨rfl, rfl, rfl, rfl, rfl, rfl, rfl⟩ := H)
      have lo := aT.out
      have lW := ap.out
      have lp := aO.out
      have lX := al.out
      have lq := aU.out
      have lY := q.out
      obtain ⟨cW, cX, cY, cZ, c0, c7, d7, d8, d9, ea, eb, ec⟩ := cells6 m.out
      go_wp2_with (first | ((with_reducible refine gate_callee (f := 50) rfl ?_); refine goesL_ (some 62) rfl rfl Tryd.func50 (by kernel_rfl) rfl #[.agg #[.int .i64 D, .int .i64 E, .slice ae r.length B, .int .i64 ah, .bool F, .bool P]] rfl ag_ ?_; (with_reducible refine (host_clean.calls k D E _ _ r ah F P eL eM b3 eN eO eP _ ?side1 ?side2 j6.out).mono ?_); (case side1 => refine (Kd.R_reads' (e := 44) (base := w.heap.size) (ok := fun k_ => (((w.heap.size ≤ k_)) ∧ True)) (n := r.length) (c := B) ?_).2.2; exact (by (with_reducible repeat apply pR); exact (Kd.R_mono (f6R a (Kd.R_types ac.out m.out (by decide)) (fun _ hk => hk.2)) (fun _ h_ => h_.1)))); (case side2 => exact (Kd.R_reads' ac.out).2.1); rintro e m0 ⟨mK, rfl, aq, hb⟩; refine ⟨_, rfl, ?_⟩; replace y := Z (Kd.V_elder' (by (with_reducible repeat apply pV); exact (Kd.V_mono (f6V a (Kd.V_mono y.out (fun k_ hk => (⟨hk, hk.2⟩ : _ ∧ k_ ≠ a))) (fun _ hk => hk.2)) (fun _ h_ => h_.1))) (Kd.R_base aq) hb); replace aC := Z (Kd.R_below (by (with_reducible repeat apply pR); exact (Kd.R_mono (f6R a (Kd.R_types aC.out m.out (by decide)) (fun _ hk => hk.2)) (fun _ h_ => h_.1))) hb); replace aD := Z (Kd.V_elder' (by (with_reducible repeat apply pV); exact (Kd.V_mono (f6V a (Kd.V_mono aD.out (fun k_ hk => (⟨hk, hk.2⟩ : _ ∧ k_ ≠ a))) (fun _ hk => hk.2)) (fun _ h_ => h_.1))) (Kd.R_base aq) hb); have a4 := Z (Kd.R_lower (Kd.R_new' (Kd.R_newM (M := fun k_ => (w.heap.size ≤ k_)) aq (below_size bl_) (fun k_ h_ => h_)) (Kd.R_lt (by (with_reducible repeat apply pR); exact (Kd.R_mono (f6R a (Kd.R_types ac.out m.out (by decide)) (fun _ hk => hk.2)) (fun _ h_ => h_.1))))) (below_size bl_)); replace ac := Z (Kd.R_elder' (by (with_reducible repeat apply pR); exact (Kd.R_mono (f6R a (Kd.R_types ac.out m.out (by decide)) (fun _ hk => hk.2)) (fun _ h_ => h_.1))) (Kd.R_base aq) hb); replace b := Z (blk_below (g := aa) (o := .cells #[.int .i64 Q, .int .i64 T, .slice aL x.length aM, .int .i64 U, .bool W, .bool X] 24 (0, 0)) (blk_off b.out ap.out off2_) hb); replace d := Z (blk_below (g := ab) (o := .cells #[.int .i64 u, .bool am, .bool ak, .bool au, .slice aX ad.length aY] 60 (0, 0)) (blk_off d.out al.out off2_) hb); replace l := Z (blk_below (g := s) (o := .cells #[.int .i64 0, .int .i64 0, .slice none 0 0, .int .i64 0, .bool false, .bool false] 24 (0, 0)) (blk_off l.out q.out off2_) hb); replace m := Z (blk_below (g := a) (o := .cells #[.int .i64 D, .int .i64 E, .slice ae r.length B, .int .i64 ah, .bool F, .bool P] 24 (0, 0)) (put6 m.out) hb); replace HB := Z (below_step bl_ hb); (try clear hb); (try clear cl); (try clear hk); (try clear hi); (try clear aq); obtain ⟨eX, e1, hR⟩ := Kd.R_slice a4.out; subst hR) | ((with_reducible refine gate_callee (f := 49) rfl ?_); refine goesL_ (some 63) rfl rfl Tryd.func49 (by kernel_rfl) rfl #[.agg #[.int .i64 eL, .int .i64 eM, .slice eX b3.length e1, .int .i64 eN, .bool eO, .bool eP]] rfl ag_ ?_; (with_reducible refine (host_unlocked.callsO eL eM (fun k_ => some k_ = (.slice eX b3.length e1 : Value).ownBlock) (.slice eX b3.length e1) b3 eN eO eP bk bs bF bO b4 cd w _ ?side1 ?side2 fa.out).mono ?_); (case side1 => repeat (first | (with_reducible first | exact HB.out | apply below_alloc | apply pw_below_drewN | apply below_drew1 | refine below_set ?_ fd.out | refine below_set ?_ fe.out | refine below_set ?_ ff.out | refine below_set ?_ fg.out) | exact HB.out)); (case side2 => exact Kd.R_tight rfl a4.out); rintro e m1 ⟨e5, rfl, aq, hb, hkp⟩; refine ⟨_, rfl, ?_⟩; replace y := Z (Kd.V_mono (ok' := fun k_ => (ax k_ ∨ w.heap.size ≤ k_) ∧ some k_ ≠ (bH : Value).ownBlock ∧ some k_ ≠ (.slice ae r.length B : Value).ownBlock ∧ k_ ≠ aa ∧ k_ ≠ ab ∧ k_ ≠ s ∧ k_ ≠ a ∧ some k_ ≠ (e5 : Value).ownBlock) (Kd.V_keptB (y.out) hkp (fun k_ hk_ hs_ => (hk_.2) hs_)) (fun k_ hk_ => ⟨hk_.1.1.1.1.1.1.1.1, hk_.1.1.1.1.2, hk_.1.1.1.2, hk_.1.1.1.1.1.1.1.2, hk_.1.1.1.1.1.1.2, hk_.1.1.1.1.1.2, hk_.1.1.2, fun e_ => Or.elim (aq.1 k_ e_.symm) (fun hs_ => hk_.2.1 hs_) (fun hn_ => Nat.not_le.2 hk_.2.2 hn_)⟩)); replace b := Z (blk_kept (vK b.out) hkp (fun hs_ => (fun e_ => (Kd.R_ne a4.out b.out (by decide)) e_) hs_)); replace d := Z (blk_kept (vK d.out) hkp (fun hs_ => (fun e_ => (Kd.R_ne a4.out d.out (by decide)) e_) hs_)); replace l := Z (blk_kept (vK l.out) hkp (fun hs_ => (fun e_ => (Kd.R_ne a4.out l.out (by decide)) e_) hs_)); replace aC := Z (Kd.R_mono (ok' := fun k_ => (w.heap.size ≤ k_)) (Kd.R_keptB ((Kd.R_apart' aC.out (Kd.R_typed a4.out) (by decide))) hkp (fun k_ hk_ hs_ => (hk_.2) hs_)) (fun k_ hk_ => hk_.1.1.1)); replace aD := Z (Kd.V_mono (ok' := fun k_ => (ax k_ ∨ w.heap.size ≤ k_) ∧ some k_ ≠ (bH : Value).ownBlock ∧ some k_ ≠ (.slice ae r.length B : Value).ownBlock ∧ k_ ≠ aa ∧ k_ ≠ ab ∧ k_ ≠ s ∧ k_ ≠ a ∧ some k_ ≠ (e5 : Value).ownBlock) (Kd.V_keptB (aD.out) hkp (fun k_ hk_ hs_ => (hk_.2) hs_)) (fun k_ hk_ => ⟨hk_.1.1.1.1.1, hk_.1.1.1.1.2.1, hk_.1.1.1.2, hk_.1.1.1.1.2.2.1, hk_.1.1.1.1.2.2.2.1, hk_.1.1.1.1.2.2.2.2, hk_.1.1.2, fun e_ => Or.elim (aq.1 k_ e_.symm) (fun hs_ => hk_.2.1 hs_) (fun hn_ => Nat.not_le.2 hk_.2.2 hn_)⟩)); replace m := Z (blk_kept (vK m.out) hkp (fun hs_ => (fun e_ => (Kd.R_ne a4.out m.out (by decide)) e_) hs_)); have fi := Z (Kd.R_mono (ok' := fun k_ => (w.heap.size ≤ k_) ∧ some k_ ≠ (.slice ae r.length B : Value).ownBlock) aq (fun k_ hk_ => ⟨Or.elim hk_ (fun hs_ => (a4.out.1 k_ (hs_).symm).1.1) (fun hn_ => (Nat.le_trans (below_size bl_) hn_)), Or.elim hk_ (fun hs_ => fun e_ => (((ac.out).1 k_ e_.symm).2) hs_) (fun hn_ => (Kd.fresh' (Kd.R_lt (by (with_reducible repeat apply pR); exact ac.out)) k_ hn_))⟩)); replace ac := Z (Kd.R_mono (ok' := fun k_ => (w.heap.size ≤ k_) ∧ some k_ ≠ (e5 : Value).ownBlock) (Kd.R_keptB (ac.out) hkp (fun k_ hk_ hs_ => (hk_.2) hs_)) (fun k_ hk_ => ⟨hk_.1.1.1, fun e_ => Or.elim (aq.1 k_ e_.symm) (fun hs_ => hk_.2.1 hs_) (fun hn_ => Nat.not_le.2 hk_.2.2 hn_)⟩)); replace HB := Z (hb); clear a4; (try clear hb); (try clear hkp); (try clear aq); obtain ⟨c8, c9, da, db, dc, dd, ed, ee, ef, eg, eh, ei⟩ := cells6 m.out; obtain ⟨b0, b1, hS⟩ := Kd.R_slice fi.out; subst hS; have lr := a2.out; have lZ := a1.out; have ls := a0.out; have l0 := aZ.out; obtain ⟨de, df, dg, dh, di, dj, ej, ek, el, em, en, eo⟩ := cells6 l.out))
      refine bodyPost_ret (results_ct rfl _ _ s 24 #[.int .i64 bk, .int .i64 bs, .slice b0 bF.length b1, .int .i64 bO, .bool b4, .bool cd] (0, 0) _ rfl (by (with_reducible repeat apply pK); refine blk_put (cs := #[.int .i64 bk, .int .i64 bs, .slice b0 bF.length b1, .int .i64 bO, .bool b4, .bool false]) ?_ 5 _ rfl; (with_reducible repeat apply pK); refine blk_put (cs := #[.int .i64 bk, .int .i64 bs, .slice b0 bF.length b1, .int .i64 bO, .bool false, .bool false]) ?_ 4 _ rfl; (with_reducible repeat apply pK); refine blk_put (cs := #[.int .i64 bk, .int .i64 bs, .slice b0 bF.length b1, .int .i64 0, .bool false, .bool false]) ?_ 3 _ rfl; (with_reducible repeat apply pK); refine blk_put (cs := #[.int .i64 bk, .int .i64 bs, .slice none 0 0, .int .i64 0, .bool false, .bool false]) ?_ 2 _ rfl; (with_reducible repeat apply pK); refine blk_put (cs := #[.int .i64 bk, .int .i64 0, .slice none 0 0, .int .i64 0, .bool false, .bool false]) ?_ 1 _ rfl; (with_reducible repeat apply pK); refine blk_put (cs := #[.int .i64 0, .int .i64 0, .slice none 0 0, .int .i64 0, .bool false, .bool false]) ?_ 0 _ rfl; (with_reducible repeat apply pK); refine blk_far ?_ q.out _; (with_reducible repeat apply pK); refine blk_far ?_ q.out _; (with_reducible repeat apply pK); refine blk_far ?_ q.out _; (with_reducible repeat apply pK); refine blk_far ?_ q.out _; (with_reducible repeat apply pK); refine blk_far ?_ q.out _; (with_reducible repeat apply pK); refine blk_far ?_ q.out _; (with_reducible repeat apply pK); exact l.out) Tryd.underlying24 rfl (by kernel_rfl)) rfl ?_
      exact ⟨_, _, er_, by (with_reducible repeat apply pR); exact Kd.R_mono (f6R s (f6R a (Kd.R_types (Kd.R_types fi.out m.out (by decide)) l.out (by decide)) (fun _ hk => hk.1.2)) (fun _ hk => hk.2)) (fun _ hk => hk.1.1.1), Kd.R_V (Kd.R_nil _ _ _ 0 _), bl_⟩
     ·rw [if_neg bS] at H
      have eH : (u == 111) = false := beq_eq_false_iff_ne.mpr bS
      have eI : (u != 111) = true := bne_iff_ne.mpr bS
      simp only [Option.some.injEq, Prod.mk.injEq] at H
      (first | obtain ⟨rfl, rfl, rfl, rfl, rfl, rfl, _, rfl⟩ := H | obtain ⟨rfl, rfl, rfl, rfl, rfl, rfl, rfl⟩ := H)
      have lt := aT.out
      have l1 := ap.out
      have lu := aO.out
      have l2 := al.out
      have lv := aU.out
      have l3 := q.out
      obtain ⟨dk, dl, dm, dn, dp, dq, ep, eq, er, es, et, eu⟩ := cells6 m.out
      have lw := a2.out
      have l4 := a1.out
      have lx := a0.out
      have l5 := aZ.out
      obtain ⟨dr, dt, du, dv, dw, dx, ev, ew, ex, ey, eA, eB⟩ := cells6 l.out
      go_wp2
      refine bodyPost_ret (results_ct rfl _ _ s 24 #[.int .i64 D, .int .i64 E, .slice ae r.length B, .int .i64 ah, .bool F, .bool P] (0, 0) _ rfl (by (with_reducible repeat apply pK); refine blk_put (cs := #[.int .i64 D, .int .i64 E, .slice ae r.length B, .int .i64 ah, .bool F, .bool false]) ?_ 5 _ rfl; (with_reducible repeat apply pK); refine blk_put (cs := #[.int .i64 D, .int .i64 E, .slice ae r.length B, .int .i64 ah, .bool false, .bool false]) ?_ 4 _ rfl; (with_reducible repeat apply pK); refine blk_put (cs := #[.int .i64 D, .int .i64 E, .slice ae r.length B, .int .i64 0, .bool false, .bool false]) ?_ 3 _ rfl; (with_reducible repeat apply pK); refine blk_put (cs := #[.int .i64 D, .int .i64 E, .slice none 0 0, .int .i64 0, .bool false, .bool false]) ?_ 2 _ rfl; (with_reducible repeat apply pK); refine blk_put (cs := #[.int .i64 D, .int .i64 0, .slice none 0 0, .int .i64 0, .bool false, .bool false]) ?_ 1 _ rfl; (with_reducible repeat apply pK); refine blk_put (cs := #[.int .i64 0, .int .i64 0, .slice none 0 0, .int .i64 0, .bool false, .bool false]) ?_ 0 _ rfl; (with_reducible repeat apply pK); refine blk_far ?_ q.out _; (with_reducible repeat apply pK); refine blk_far ?_ q.out _; (with_reducible repeat apply pK); refine blk_far ?_ q.out _; (with_reducible repeat apply pK); refine blk_far ?_ q.out _; (with_reducible repeat apply pK); refine blk_far ?_ q.out _; (with_reducible repeat apply pK); refine blk_far ?_ q.out _; (with_reducible repeat apply pK); exact l.out) Tryd.underlying24 rfl (by kernel_rfl)) rfl ?_
      exact ⟨_, _, er_, by (with_reducible repeat apply pR); exact Kd.R_mono (f6R s (f6R a (Kd.R_types (Kd.R_types ac.out m.out (by decide)) l.out (by decide)) (fun _ hk => hk.1.2)) (fun _ hk => hk.2)) (fun _ hk => hk.1.1.1), Kd.R_V (Kd.R_nil _ _ _ 0 _), bl_⟩
  case rest =>
   clear he
   try clear c1
   try clear c2
   try clear p2
   try clear q2
   try clear kV
   try clear kY
   try clear ky
   try clear c3
   try clear q3
   try clear c4
   try clear c5
   try clear j9
   try clear ka
   try clear kc
   try clear kd
   try clear ke
   try clear kf
   try clear bQ
   try clear bo
   try clear eE
   try clear ck
   try clear fl
   try clear fm
   try clear kg
   try clear p27
   try clear cc
   try clear jG
   try clear hs
   try clear iL
   try clear kh
   try clear ki
   try clear kj
   try clear kk
   try clear hI
   try clear bR
   try clear eF
   try clear eG
   try clear bS
   try clear eH
   try clear eI
   try clear kl
   try clear km
   try clear kn
   try clear ko
   try clear kp
   try clear kr
   try clear ks
   try clear kt
   try clear ku
   try clear kv
   try clear kw
   try clear kx
   try clear cm
   try clear cn
   try clear co
   try clear cp
   try clear cq
   try clear cr
   try clear ct
   try clear cu
   try clear cv
   try clear cw
   try clear cx
   try clear cy
   try clear cz
   try clear cA
   try clear cB
   try clear cC
   try clear cD
   try clear cE
   try clear cF
   try clear cG
   try clear cH
   try clear cI
   try clear cJ
   try clear cK
   try clear cL
   try clear cM
   try clear cN
   try clear cO
   try clear cP
   try clear cQ
   try clear cR
   try clear cS
   try clear cT
   try clear cU
   try clear cV
   try clear cW
   try clear cX
   try clear cY
   try clear cZ
   try clear c0
   try clear c7
   try clear c8
   try clear c9
   try clear da
   try clear db
   try clear dc
   try clear dd
   try clear de
   try clear df
   try clear dg
   try clear dh
   try clear di
   try clear dj
   try clear dk
   try clear dl
   try clear dm
   try clear dn
   try clear dp
   try clear dq
   try clear dr
   try clear dt
   try clear du
   try clear dv
   try clear dw
   try clear dx
   try clear dy
   try clear dz
   try clear dA
   try clear dB
   try clear dC
   try clear dD
   try clear dE
   try clear dF
   try clear dG
   try clear dH
   try clear dI
   try clear dJ
   try clear dK
   try clear dL
   try clear dM
   try clear dN
   try clear dO
   try clear dP
   try clear dQ
   try clear dR
   try clear dS
   try clear dT
   try clear dU
   try clear dV
   try clear dW
   try clear dX
   try clear dY
   try clear dZ
   try clear d0
   try clear d1
   try clear d2
   try clear d3
   try clear d4
   try clear d5
   try clear d6
   try clear d7
   try clear d8
   try clear d9
   try clear ea
   try clear eb
   try clear ec
   try clear ed
   try clear ee
   try clear ef
   try clear eg
   try clear eh
   try clear ei
   try clear ej
   try clear ek
   try clear el
   try clear em
   try clear en
   try clear eo
   try clear ep
   try clear eq
   try clear er
   try clear es
   try clear et
   try clear eu
   try clear ev
   try clear ew
   try clear ex
   try clear ey
   try clear eA
   try clear eB
   try clear bT
   try clear bU
   try clear bV
   try clear bW
   try clear bX
   try clear bY
   try clear p27
   try clear cc
   try clear eJ
   obtain ⟨kq, aQ, aR, u352002, HA, hH, HO_332002, HO_352002, b, d, l, m, HB⟩ := hcut
   cases kq with
   | zero => exact absurd HA.out (by simp [host_Do.j0])
   | succ fr =>
    have H := HA.out
    clear HA
    simp only [host_Do.j0] at H
    have eZ := Z H
    clear H
    have ly := bg.out
    have l6 := be.out
    have lz := aZ.out
    have l7 := a0.out
    have lA := al.out
    have l8 := aO.out
    obtain ⟨fs, ft, fu, fv, fw, gm, gn, go, gp, gq⟩ := cells5 d.out
    go_upto_if 38 with (fail)
    go_cut [] (fun wc => ∃ (kq : Nat) (aF : Int) (aG : Int) (A : List (S44)) (ao : Int) (aH : Bool) (aI : Bool) (u352002 : Value), Aside0 (host_Do.j1 kq Q T x U W X u am ak au ad aF aG A ao aH aI = some (r1, r2, r3, r4, r5, r6, (none : Option Er), r8)) ∧ Aside0 (kq ≤ fr) ∧ Aside0 (Kd.V k44 44 wc w.heap.size (fun k_ => (ax k_ ∨ w.heap.size ≤ k_) ∧ some k_ ≠ (u352002 : Value).ownBlock ∧ k_ ≠ aa ∧ k_ ≠ ab ∧ k_ ≠ s ∧ k_ ≠ a) (.slice aL x.length aM) x) ∧ Aside0 (Kd.R k44 44 wc w.heap.size (fun k_ => (w.heap.size ≤ k_)) u352002 A) ∧ Aside0 (wc.heap[aa]? = some (.cells #[.int .i64 Q, .int .i64 T, (.slice aL x.length aM), .int .i64 U, .bool W, .bool X] 24 (0, 0))) ∧ Aside0 (wc.heap[ab]? = some (.cells #[.int .i64 u, .bool am, .bool ak, .bool au, (.slice aX ad.length aY)] 60 (0, 0))) ∧ Aside0 (wc.heap[s]? = some (.cells #[.int .i64 0, .int .i64 0, (.slice none 0 0), .int .i64 0, .bool false, .bool false] 24 (0, 0))) ∧ Aside0 (wc.heap[a]? = some (.cells #[.int .i64 aF, .int .i64 aG, u352002, .int .i64 ao, .bool aH, .bool aI] 24 (0, 0))) ∧ Aside0 (Below w.heap.size w wc))
    case first =>
     have H := eZ.out
     clear eZ
     by_cases eQ : au = true
     ·subst eQ
      have H1 : ((host_Reset.f D E aQ aR F P true).bind fun bK => (host_Do.j1 fr Q T x U W X u am ak true ad bK.1 bK.2.1 bK.2.2.1 bK.2.2.2.1 bK.2.2.2.2.1 bK.2.2.2.2.2)) = some (r1, r2, r3, r4, r5, r6, (none : Option Er), r8) := by rw [if_pos rfl] at H; exact H
      clear H
      have H := H1
      clear H1
      replace H := Option.bind_eq_some_iff.mp H
      obtain ⟨⟨ce, cf, b5, cg, ch, ci⟩, g8, H⟩ := H
      replace H : (host_Do.j1 fr Q T x U W X u am ak true ad ce cf b5 cg ch ci) = some (r1, r2, r3, r4, r5, r6, (none : Option Er), r8) := H
      have j7 := Z g8
      clear g8
      have H' := Z H
      clear H
      have lB := aT.out
      have l9 := ap.out
      have lC := aO.out
      have ma := al.out
      have lD := aU.out
      have mb := q.out
      obtain ⟨fx, fy, fz, fA, fB, fC, gr, gs, gt, gu, gv, gw⟩ := cells6 m.out
      obtain ⟨hM, hP, hT⟩ := Kd.R_slice HO_352002.out
      subst hT
      go_wp2_with (first | ((with_reducible refine gate_callee (f := 29) rfl ?_); refine goesL_ (some 40) rfl rfl Tryd.func29 (by kernel_rfl) rfl #[.agg #[.int .i64 D, .int .i64 E, .slice hM aQ.length hP, .int .i64 aR, .bool F, .bool P], .bool true] rfl ag_ ?_; (with_reducible refine (host_Reset.calls D E _ _ aQ aR F P true ce cf b5 cg ch ci _ ?side1 ?side2 j7.out).mono ?_); (case side1 => repeat (first | exact (Kd.R_reads' HO_352002.out).2.2 | (with_reducible apply pC))); (case side2 => exact (Kd.R_reads' HO_352002.out).2.1); rintro e m2 ⟨mL, rfl, aq, hb⟩; refine ⟨_, rfl, ?_⟩; replace HO_332002 := Z (Kd.V_elder' (vV HO_332002.out) (Kd.R_base aq) hb); have fj := Z (Kd.R_lower (Kd.R_new' (Kd.R_newM (M := fun k_ => (w.heap.size ≤ k_)) aq (below_size bl_) (fun k_ h_ => h_)) (Kd.R_lt (by (with_reducible repeat apply pR); exact HO_352002.out))) (below_size bl_)); replace HO_352002 := Z (Kd.R_elder' (by (with_reducible repeat apply pR); exact HO_352002.out) (Kd.R_base aq) hb); replace b := Z (kb b.out hb); replace d := Z (kb d.out hb); replace l := Z (kb l.out hb); replace m := Z (kb m.out hb); replace HB := Z (below_step bl_ hb); (try clear hb); (try clear cl); (try clear hk); (try clear hi); (try clear aq); obtain ⟨fD, fE, fF, fG, fH, fI, gx, gy, gz, gA, gB, gC⟩ := cells6 m.out; obtain ⟨eY, e2, hU⟩ := Kd.R_slice fj.out; subst hU))
      go_meet
      case rel => exact ⟨_, (ce), (cf), (b5), (cg), (ch), (ci), (.slice eY b5.length e2), H', ⟨by have := hH.out; first | omega | exact Nat.le_refl _⟩, ⟨by (with_reducible repeat apply pV); exact Kd.V_mono (f6V a (Kd.V_mono HO_332002.out (fun k_ hk => (⟨hk, hk.1.2.2.2.2.2⟩ : _ ∧ k_ ≠ a))) (fun _ hk => hk.2)) (fun _ hk => ⟨hk.1.1.1, ⟨hk.1.2, ⟨hk.1.1.2.2.1, ⟨hk.1.1.2.2.2.1, ⟨hk.1.1.2.2.2.2.1, hk.1.1.2.2.2.2.2⟩⟩⟩⟩⟩)⟩, ⟨by (with_reducible repeat apply pR); exact Kd.R_mono (f6R a (Kd.R_types fj.out m.out (by decide)) (fun _ hk => hk.2)) (fun _ hk => hk.1.1.1)⟩, ⟨blk_off b.out ap.out off2_⟩, ⟨blk_off d.out al.out off2_⟩, ⟨blk_off l.out q.out off2_⟩, ⟨put6 m.out⟩, ⟨bl_⟩⟩
     ·replace eQ := Bool.eq_false_iff.mpr eQ
      subst eQ
      have H1 : (host_Do.j1 fr Q T x U W X u am ak false ad D E aQ aR F P) = some (r1, r2, r3, r4, r5, r6, (none : Option Er), r8) := by rw [if_neg (show ¬ (false = true) by decide)] at H; exact H
      clear H
      have H := H1
      clear H1
      have H' := Z H
      clear H
      go_wp2
      go_meet
      case rel => exact ⟨_, (D), (E), (aQ), (aR), (F), (P), (u352002), H', ⟨by have := hH.out; first | omega | exact Nat.le_refl _⟩, ⟨vV HO_332002.out⟩, ⟨by (with_reducible repeat apply pR); exact HO_352002.out⟩, ⟨vK b.out⟩, ⟨vK d.out⟩, ⟨vK l.out⟩, ⟨vK m.out⟩, ⟨bl_⟩⟩
    case rest =>
     clear eZ
     try clear c1
     try clear c2
     try clear p2
     try clear q2
     try clear kV
     try clear kY
     try clear ky
     try clear c3
     try clear q3
     try clear c4
     try clear c5
     try clear c6
     try clear j9
     try clear ka
     try clear kc
     try clear kd
     try clear ke
     try clear kf
     try clear bQ
     try clear bo
     try clear eE
     try clear ck
     try clear fl
     try clear fm
     try clear kg
     try clear p27
     try clear cc
     try clear jG
     try clear hs
     try clear iL
     try clear kh
     try clear ki
     try clear kj
     try clear kk
     try clear hI
     try clear bR
     try clear eF
     try clear eG
     try clear bS
     try clear eH
     try clear eI
     try clear kl
     try clear km
     try clear kn
     try clear ko
     try clear kp
     try clear kr
     try clear ks
     try clear kt
     try clear ku
     try clear kv
     try clear kw
     try clear kx
     try clear mQ
     try clear mR
     try clear mS
     try clear eQ
     try clear mT
     try clear mU
     try clear mV
     try clear cm
     try clear cn
     try clear co
     try clear cp
     try clear cq
     try clear cr
     try clear ct
     try clear cu
     try clear cv
     try clear cw
     try clear cx
     try clear cy
     try clear cz
     try clear cA
     try clear cB
     try clear cC
     try clear cD
     try clear cE
     try clear cF
     try clear cG
     try clear cH
     try clear cI
     try clear cJ
     try clear cK
     try clear cL
     try clear cM
     try clear cN
     try clear cO
     try clear cP
     try clear cQ
     try clear cR
     try clear cS
     try clear cT
     try clear cU
     try clear cV
     try clear cW
     try clear cX
     try clear cY
     try clear cZ
     try clear c0
     try clear c7
     try clear c8
     try clear c9
     try clear da
     try clear db
     try clear dc
     try clear dd
     try clear de
     try clear df
     try clear dg
     try clear dh
     try clear di
     try clear dj
     try clear dk
     try clear dl
     try clear dm
     try clear dn
     try clear dp
     try clear dq
     try clear dr
     try clear dt
     try clear du
     try clear dv
     try clear dw
     try clear dx
     try clear fs
     try clear ft
     try clear fu
     try clear fv
     try clear fw
     try clear fx
     try clear fy
     try clear fz
     try clear fA
     try clear fB
     try clear fC
     try clear fD
     try clear fE
     try clear fF
     try clear fG
     try clear fH
     try clear fI
     try clear dy
     try clear dz
     try clear dA
     try clear dB
     try clear dC
     try clear dD
     try clear dE
     try clear dF
     try clear dG
     try clear dH
     try clear dI
     try clear dJ
     try clear dK
     try clear dL
     try clear dM
     try clear dN
     try clear dO
     try clear dP
     try clear dQ
     try clear dR
     try clear dS
     try clear dT
     try clear dU
     try clear dV
     try clear dW
     try clear dX
     try clear dY
     try clear dZ
     try clear d0
     try clear d1
     try clear d2
     try clear d3
     try clear d4
     try clear d5
     try clear d6
     try clear d7
     try clear d8
     try clear d9
     try clear ea
     try clear eb
     try clear ec
     try clear ed
     try clear ee
     try clear ef
     try clear eg
     try clear eh
     try clear ei
     try clear ej
     try clear ek
     try clear el
     try clear em
     try clear en
     try clear eo
     try clear ep
     try clear eq
     try clear er
     try clear es
     try clear et
     try clear eu
     try clear ev
     try clear ew
     try clear ex
     try clear ey
     try clear eA
     try clear eB
     try clear gm
     try clear gn
     try clear go
     try clear gp
     try clear gq
     try clear gr
     try clear gs
     try clear gt
     try clear gu
     try clear gv
     try clear gw
     try clear gx
     try clear gy
     try clear gz
     try clear gA
     try clear gB
     try clear gC
     try clear bT
     try clear bU
     try clear bV
     try clear bW
     try clear bX
     try clear bY
     try clear p2
     try clear p27
     try clear q2
     try clear cc
     try clear q3
     try clear hI
     try clear eJ
     obtain ⟨kq, aF, aG, A, ao, aH, aI, u352002, HA, mr, HO_332002, HO_352002, b, d, l, m, HB⟩ := hcut
     cases kq with
     | zero => exact absurd HA.out (by simp [host_Do.j1])
     | succ hp =>
      have H := HA.out
      clear HA
      simp only [host_Do.j1] at H
      replace H := Option.bind_eq_some_iff.mp H
      obtain ⟨⟨az, aB, aj, aJ, aN, aS, hu, e4, b6⟩, g9, H⟩ := H
      replace H : (if e4.isNone = true then (if ak = true then ((host_unlocked.f az aB aj aJ aN aS).bind fun ay => (some (ay.1, ay.2.1, ay.2.2.1, ay.2.2.2.1, ay.2.2.2.2.1, ay.2.2.2.2.2, none, ([] : List (S184))))) else (some (az, aB, aj, aJ, aN, aS, none, ([] : List (S184))))) else (some (Q, T, x, U, W, X, some (e4.getD ez), b6))) = some (r1, r2, r3, r4, r5, r6, (none : Option Er), r8) := H
      have hG := Z g9
      clear g9
      rcases e4 with _ | hq
      ·have H1 : (if ak = true then ((host_unlocked.f az aB aj aJ aN aS).bind fun ay => (some (ay.1, ay.2.1, ay.2.2.1, ay.2.2.2.1, ay.2.2.2.2.1, ay.2.2.2.2.2, none, ([] : List (S184))))) else (some (az, aB, aj, aJ, aN, aS, none, ([] : List (S184))))) = some (r1, r2, r3, r4, r5, r6, (none : Option Er), r8) := by rw [if_pos (show (none : Option Er).isNone = true by rfl)] at H; exact H
       clear H
       have H := H1
       clear H1
       try simp only [errW_none, errW_some]
       by_cases fn : ak = true
       ·subst fn
        have H1 : ((host_unlocked.f az aB aj aJ aN aS).bind fun ay => (some (ay.1, ay.2.1, ay.2.2.1, ay.2.2.2.1, ay.2.2.2.2.1, ay.2.2.2.2.2, none, ([] : List (S184))))) = some (r1, r2, r3, r4, r5, r6, (none : Option Er), r8) := by rw [if_pos rfl] at H; exact H
        clear H
        have H := H1
        clear H1
        replace H := Option.bind_eq_some_iff.mp H
        obtain ⟨⟨bl, bt, bG, bP, b7, cj⟩, ha, H⟩ := H
        replace H : (some (bl, bt, bG, bP, b7, cj, none, ([] : List (S184)))) = some (r1, r2, r3, r4, r5, r6, (none : Option Er), r8) := H
        have j8 := Z ha
        clear ha
        simp only [Option.some.injEq, Prod.mk.injEq] at H
        (first | obtain ⟨rfl, rfl, rfl, rfl, rfl, rfl, _, rfl⟩ := H | obtain ⟨rfl, rfl, rfl, rfl, rfl, rfl, rfl⟩ := H)
        have lE := aT.out
        have mc := ap.out
        have lF := aO.out
        have md := al.out
        have lG := aU.out
        have me := q.out
        obtain ⟨jI, jJ, jK, jL, jM, jN, jT, jU, jV, jW, jX, jY⟩ := cells6 m.out
        have lH := bg.out
        have mf := be.out
        have lI := aZ.out
        have mg := a0.out
        obtain ⟨jO, jP, jQ, jR, jS, jZ, j2, j3, j4, j5⟩ := cells5 d.out
        obtain ⟨a5, a6, hV⟩ := Kd.R_slice HO_352002.out
        subst hV
        go_wp2_with (first | ((with_reducible refine gate_callee (f := 24) rfl ?_); refine goesL_ (some 47) rfl rfl Tryd.func24 (by kernel_rfl) rfl #[.agg #[.int .i64 aF, .int .i64 aG, .slice a5 A.length a6, .int .i64 ao, .bool aH, .bool aI], .int .i64 ao, .slice aX ad.length aY] rfl ag_ ?_; (with_reducible refine (paint_All.callsN hp aF aG (fun k_ => some k_ = (.slice a5 A.length a6 : Value).ownBlock) _ _ A ao aH aI ao _ _ ad az aB aj aJ aN aS hu b6 _ ?side1 ?side2 ?side3 hG.out).mono ?_); (case side1 => exact Kd.R_V (Kd.R_tight rfl (Kd.R_types (Kd.R_types (Kd.R_types (Kd.R_types (HO_352002.out) b.out (by decide)) d.out (by decide)) l.out (by decide)) m.out (by decide)))); (case side2 => repeat (first | exact (Kd.C_below eD.out HB.out) | (with_reducible apply pC))); (case side3 => exact eC.out); rintro e m3 ⟨e6, e7, rfl, aq, b8, hb⟩; refine ⟨_, rfl, ?_⟩; replace HO_332002 := Z (Kd.V_elder' (vV HO_332002.out) (Kd.R_base aq) hb); have ar := Z (Kd.R_lower (Kd.R_new' (Kd.R_newM (M := fun k_ => (w.heap.size ≤ k_)) (Kd.R_mono (ok' := fun k_ => True) aq (fun _ hk_ => trivial)) (below_size bl_) (fun k_ h_ => h_)) (Kd.R_lt (by (with_reducible repeat apply pR); exact HO_352002.out))) (below_size bl_)); have aK := Z (Kd.V_lower (Kd.V_mono (ok' := fun k_ => (ax k_ ∨ w.heap.size ≤ k_) ∧ some k_ ≠ (e6 : Value).ownBlock ∧ k_ ≠ aa ∧ k_ ≠ ab ∧ k_ ≠ s ∧ k_ ≠ a) b8 (fun k_ hk_ => ⟨Or.elim hk_.1 (fun hs_ => (.inr (((Kd.R_types (Kd.R_types (Kd.R_types (Kd.R_types (HO_352002.out) b.out (by decide)) d.out (by decide)) l.out (by decide)) m.out (by decide)).1 k_ hs_.symm).1.1.1.1))) (fun hn_ => (ir_ hn_)), hk_.2, Or.elim hk_.1 (fun hs_ => ((Kd.R_types (Kd.R_types (Kd.R_types (Kd.R_types (HO_352002.out) b.out (by decide)) d.out (by decide)) l.out (by decide)) m.out (by decide)).1 k_ hs_.symm).1.1.1.2) (fun hn_ => (fb b.out k_ hn_)), Or.elim hk_.1 (fun hs_ => ((Kd.R_types (Kd.R_types (Kd.R_types (Kd.R_types (HO_352002.out) b.out (by decide)) d.out (by decide)) l.out (by decide)) m.out (by decide)).1 k_ hs_.symm).1.1.2) (fun hn_ => (fb d.out k_ hn_)), Or.elim hk_.1 (fun hs_ => ((Kd.R_types (Kd.R_types (Kd.R_types (Kd.R_types (HO_352002.out) b.out (by decide)) d.out (by decide)) l.out (by decide)) m.out (by decide)).1 k_ hs_.symm).1.2) (fun hn_ => (fb l.out k_ hn_)), Or.elim hk_.1 (fun hs_ => ((Kd.R_types (Kd.R_types (Kd.R_types (Kd.R_types (HO_352002.out) b.out (by decide)) d.out (by decide)) l.out (by decide)) m.out (by decide)).1 k_ hs_.symm).2) (fun hn_ => (fb m.out k_ hn_))⟩)) (below_size bl_)); replace HO_352002 := Z (Kd.R_elder' (by (with_reducible repeat apply pR); exact HO_352002.out) (Kd.R_base aq) hb); replace b := Z (kb b.out hb); replace d := Z (kb d.out hb); replace l := Z (kb l.out hb); replace m := Z (kb m.out hb); replace HB := Z (below_step bl_ hb); (try clear hb); (try clear cl); (try clear hk); (try clear hi); (try clear aq); (try clear b8); (try simp only [errW_none, errW_some])) | ((with_reducible refine gate_dst (N := 9) rfl ?_); refine bx_ 9 24 #[.int .i64 0, .int .i64 0, .slice none 0 0, .int .i64 0, .bool false, .bool false] ?_; intro an hg la hbox hb; replace HO_332002 := Z (ve HO_332002.out hg hb); replace HO_352002 := Z (rb HO_352002.out hb); replace ar := Z (rb ar.out hb); replace aK := Z (ve aK.out hg hb); have aE := Z (hbox); have hx := Z (ln_ hg : w.heap.size ≤ an); have fh := Z (ln_ hg : w.heap.size ≤ an); replace HB := Z (below_step bl_ hb); have bf := Z (nl b.out hg); have bu := Z (ng b.out hg); replace b := Z (kb b.out hb); have bh := Z (nl d.out hg); have bw := Z (ng d.out hg); replace d := Z (kb d.out hb); have aA := Z (nl l.out hg); have bx := Z (ng l.out hg); replace l := Z (kb l.out hb); have bi := Z (nl m.out hg); have bj := Z (ng m.out hg); replace m := Z (kb m.out hb); clear hb hbox hg; have lJ := bu.out; have mh := bf.out; have lK := bw.out; have mi := bh.out; have lL := bx.out; have mj := aA.out; have lM := bj.out; have ml := bi.out; obtain ⟨fJ, fK, fL, fM, fN, fO, gD, gE, gF, gG, gH, gI⟩ := cells6 aE.out; obtain ⟨aV, aW, hW⟩ := Kd.R_slice ar.out; subst hW) | ((with_reducible refine gate_store (t := 24) (p := 9) rfl ?_); (with_reducible refine gateW_ la ?_); refine sx_ 24 9 ((((((la.setCell ⟨an, 0, none⟩ (.int .i64 az)).setCell ⟨an, 1, none⟩ (.int .i64 aB)).setCell ⟨an, 2, none⟩ (.slice aV aj.length aW)).setCell ⟨an, 3, none⟩ (.int .i64 aJ)).setCell ⟨an, 4, none⟩ (.bool aN)).setCell ⟨an, 5, none⟩ (.bool aS)) ?_ rfl rfl rfl (by refine stS_ rfl ?_ ?_ aE.out <;> rfl); intro bI hw; have G : Aside0 (Kd.V k44 44 bI w.heap.size (fun k_ => (ax k_ ∨ w.heap.size ≤ k_) ∧ some k_ ≠ (.slice a5 A.length a6 : Value).ownBlock ∧ some k_ ≠ (.slice aV aj.length aW : Value).ownBlock ∧ k_ ≠ aa ∧ k_ ≠ ab ∧ k_ ≠ s ∧ k_ ≠ a ∧ k_ ≠ an) (.slice aL x.length aM) x) := ⟨(by rw [hw]; exact (by (with_reducible repeat apply pV); exact V_off HO_332002.out (fun k_ hk => hk.2) off2_ (fun _ hk => ⟨hk.1.1.1, ⟨hk.1.1.2.1, ⟨hk.1.2, ⟨hk.1.1.2.2.1, ⟨hk.1.1.2.2.2.1, ⟨hk.1.1.2.2.2.2.1, ⟨hk.1.1.2.2.2.2.2, hk.2⟩⟩⟩⟩⟩⟩⟩)))⟩; have I : Aside0 (Kd.R k44 44 bI w.heap.size (fun k_ => (w.heap.size ≤ k_) ∧ some k_ ≠ (.slice aV aj.length aW : Value).ownBlock) (.slice a5 A.length a6) A) := ⟨(by rw [hw]; exact (by (with_reducible repeat apply pR); exact Kd.R_mono (R_off HO_352002.out aE.out (by decide) off2_) (fun _ hk => ⟨hk.1, hk.2⟩)))⟩; have J : Aside0 (Kd.R k44 44 bI w.heap.size (fun k_ => (w.heap.size ≤ k_) ∧ some k_ ≠ (.slice a5 A.length a6 : Value).ownBlock) (.slice aV aj.length aW) aj) := ⟨(by rw [hw]; exact (by (with_reducible repeat apply pR); exact Kd.R_mono (R_off ar.out aE.out (by decide) off2_) (fun _ hk => ⟨hk.1.1, hk.2⟩)))⟩; have L : Aside0 (Kd.V k184 184 bI w.heap.size (fun k_ => (ax k_ ∨ w.heap.size ≤ k_) ∧ some k_ ≠ (.slice aV aj.length aW : Value).ownBlock ∧ k_ ≠ aa ∧ k_ ≠ ab ∧ k_ ≠ s ∧ k_ ≠ a ∧ k_ ≠ an) e7 b6) := ⟨(by rw [hw]; exact (by (with_reducible repeat apply pV); exact V_off aK.out (fun k_ hk => hk.2) off2_ (fun _ hk => ⟨hk.1.1, ⟨hk.1.2.1, ⟨hk.1.2.2.1, ⟨hk.1.2.2.2.1, ⟨hk.1.2.2.2.2.1, ⟨hk.1.2.2.2.2.2, hk.2⟩⟩⟩⟩⟩⟩)))⟩; have O : Aside0 (bI.heap[aa]? = some (.cells #[.int .i64 Q, .int .i64 T, .slice aL x.length aM, .int .i64 U, .bool W, .bool X] 24 (0, 0))) := ⟨by rw [hw]; exact (blk_off b.out bf.out off2_)⟩; have af : Aside0 (bI.heap[ab]? = some (.cells #[.int .i64 u, .bool am, .bool true, .bool au, .slice aX ad.length aY] 60 (0, 0))) := ⟨by rw [hw]; exact (blk_off d.out bh.out off2_)⟩; have ag : Aside0 (bI.heap[s]? = some (.cells #[.int .i64 0, .int .i64 0, .slice none 0 0, .int .i64 0, .bool false, .bool false] 24 (0, 0))) := ⟨by rw [hw]; exact (blk_off l.out aA.out off2_)⟩; have ai : Aside0 (bI.heap[a]? = some (.cells #[.int .i64 aF, .int .i64 aG, .slice a5 A.length a6, .int .i64 ao, .bool aH, .bool aI] 24 (0, 0))) := ⟨by rw [hw]; exact (blk_off m.out bi.out off2_)⟩; have av : Aside0 (bI.heap[an]? = some (.cells #[.int .i64 az, .int .i64 aB, .slice aV aj.length aW, .int .i64 aJ, .bool aN, .bool aS] 24 (0, 0))) := ⟨by rw [hw]; exact (put6 aE.out)⟩; have aP : Aside0 (Below w.heap.size w bI) := ⟨by rw [hw]; exact bl_⟩; clear hw HO_332002 HO_352002 ar aK b d l m aE HB; have HO_332002 := G; have HO_352002 := I; have ar := J; have aK := L; have b := O; have d := af; have l := ag; have m := ai; have aE := av; have HB := aP; clear G I J L O af ag ai av aP; (try clear fJ); (try clear gD); (try clear fK); (try clear gE); (try clear fL); (try clear gF); (try clear fM); (try clear gG); (try clear fN); (try clear gH); (try clear fO); (try clear gI); obtain ⟨fP, fQ, fR, fS, fT, fU, gJ, gK, gL, gM, gN, gO⟩ := cells6 aE.out; obtain ⟨fV, fW, fX, fY, fZ, ga, gP, gQ, gR, gS, gT, gU⟩ := cells6 m.out) | ((with_reducible refine gate_store (t := 24) (p := 8) rfl ?_); (with_reducible refine gateW_ bI ?_); refine sx_ 24 8 ((((((bI.setCell ⟨a, 0, none⟩ (.int .i64 az)).setCell ⟨a, 1, none⟩ (.int .i64 aB)).setCell ⟨a, 2, none⟩ (.slice aV aj.length aW)).setCell ⟨a, 3, none⟩ (.int .i64 aJ)).setCell ⟨a, 4, none⟩ (.bool aN)).setCell ⟨a, 5, none⟩ (.bool aS)) ?_ rfl rfl rfl (by refine stS_ rfl ?_ ?_ m.out <;> rfl); intro bN hw; have G : Aside0 (Kd.V k44 44 bN w.heap.size (fun k_ => (ax k_ ∨ w.heap.size ≤ k_) ∧ some k_ ≠ (.slice a5 A.length a6 : Value).ownBlock ∧ some k_ ≠ (.slice aV aj.length aW : Value).ownBlock ∧ k_ ≠ aa ∧ k_ ≠ ab ∧ k_ ≠ s ∧ k_ ≠ a ∧ k_ ≠ an) (.slice aL x.length aM) x) := ⟨(by rw [hw]; exact (by (with_reducible repeat apply pV); exact V_off HO_332002.out (fun k_ hk => hk.2.2.2.2.2.2.1) off2_ (fun _ hk => ⟨hk.1, ⟨hk.2.1, ⟨hk.2.2.1, ⟨hk.2.2.2.1, ⟨hk.2.2.2.2.1, ⟨hk.2.2.2.2.2.1, ⟨hk.2.2.2.2.2.2.1, hk.2.2.2.2.2.2.2⟩⟩⟩⟩⟩⟩⟩)))⟩; have I : Aside0 (Kd.R k44 44 bN w.heap.size (fun k_ => (w.heap.size ≤ k_) ∧ some k_ ≠ (.slice aV aj.length aW : Value).ownBlock) (.slice a5 A.length a6) A) := ⟨(by rw [hw]; exact (by (with_reducible repeat apply pR); exact Kd.R_mono (R_off HO_352002.out m.out (by decide) off2_) (fun _ hk => ⟨hk.1, hk.2⟩)))⟩; have J : Aside0 (Kd.R k44 44 bN w.heap.size (fun k_ => (w.heap.size ≤ k_) ∧ some k_ ≠ (.slice a5 A.length a6 : Value).ownBlock) (.slice aV aj.length aW) aj) := ⟨(by rw [hw]; exact (by (with_reducible repeat apply pR); exact Kd.R_mono (R_off ar.out m.out (by decide) off2_) (fun _ hk => ⟨hk.1, hk.2⟩)))⟩; have L : Aside0 (Kd.V k184 184 bN w.heap.size (fun k_ => (ax k_ ∨ w.heap.size ≤ k_) ∧ some k_ ≠ (.slice aV aj.length aW : Value).ownBlock ∧ k_ ≠ aa ∧ k_ ≠ ab ∧ k_ ≠ s ∧ k_ ≠ a ∧ k_ ≠ an) e7 b6) := ⟨(by rw [hw]; exact (by (with_reducible repeat apply pV); exact V_off aK.out (fun k_ hk => hk.2.2.2.2.2.1) off2_ (fun _ hk => ⟨hk.1, ⟨hk.2.1, ⟨hk.2.2.1, ⟨hk.2.2.2.1, ⟨hk.2.2.2.2.1, ⟨hk.2.2.2.2.2.1, hk.2.2.2.2.2.2⟩⟩⟩⟩⟩⟩)))⟩; have O : Aside0 (bN.heap[aa]? = some (.cells #[.int .i64 Q, .int .i64 T, .slice aL x.length aM, .int .i64 U, .bool W, .bool X] 24 (0, 0))) := ⟨by rw [hw]; exact (blk_off b.out ap.out off2_)⟩; have af : Aside0 (bN.heap[ab]? = some (.cells #[.int .i64 u, .bool am, .bool true, .bool au, .slice aX ad.length aY] 60 (0, 0))) := ⟨by rw [hw]; exact (blk_off d.out al.out off2_)⟩; have ag : Aside0 (bN.heap[s]? = some (.cells #[.int .i64 0, .int .i64 0, .slice none 0 0, .int .i64 0, .bool false, .bool false] 24 (0, 0))) := ⟨by rw [hw]; exact (blk_off l.out q.out off2_)⟩; have ai : Aside0 (bN.heap[a]? = some (.cells #[.int .i64 az, .int .i64 aB, .slice aV aj.length aW, .int .i64 aJ, .bool aN, .bool aS] 24 (0, 0))) := ⟨by rw [hw]; exact (put6 m.out)⟩; have av : Aside0 (bN.heap[an]? = some (.cells #[.int .i64 az, .int .i64 aB, .slice aV aj.length aW, .int .i64 aJ, .bool aN, .bool aS] 24 (0, 0))) := ⟨by rw [hw]; exact (blk_off aE.out bj.out off2_)⟩; have aP : Aside0 (Below w.heap.size w bN) := ⟨by rw [hw]; exact bl_⟩; clear hw HO_332002 HO_352002 ar aK b d l m aE HB; have HO_332002 := G; have HO_352002 := I; have ar := J; have aK := L; have b := O; have d := af; have l := ag; have m := ai; have aE := av; have HB := aP; clear G I J L O af ag ai av aP; (try clear fP); (try clear gJ); (try clear fQ); (try clear gK); (try clear fR); (try clear gL); (try clear fS); (try clear gM); (try clear fT); (try clear gN); (try clear fU); (try clear gO); (try clear fV); (try clear gP); (try clear fW); (try clear gQ); (try clear fX); (try clear gR); (try clear fY); (try clear gS); (try clear fZ); (try clear gT); (try clear ga); (try clear gU); obtain ⟨gb, gc, gd, ge, gf, gV, gW, gX, gY, gZ⟩ := cells5 d.out; obtain ⟨gg, gh, gi, gj, gk, gl, g0, g1, g2, g3, g4, g5⟩ := cells6 m.out) | ((with_reducible refine gate_callee (f := 49) rfl ?_); refine goesL_ (some 60) rfl rfl Tryd.func49 (by kernel_rfl) rfl #[.agg #[.int .i64 az, .int .i64 aB, .slice aV aj.length aW, .int .i64 aJ, .bool aN, .bool aS]] rfl ag_ ?_; (with_reducible refine (host_unlocked.callsO az aB (fun k_ => some k_ = (.slice aV aj.length aW : Value).ownBlock) (.slice aV aj.length aW) aj aJ aN aS bl bt bG bP b7 cj w _ ?side1 ?side2 j8.out).mono ?_); (case side1 => repeat (first | (with_reducible first | exact HB.out | apply below_alloc | apply pw_below_drewN | apply below_drew1 | refine below_set ?_ fd.out | refine below_set ?_ fe.out | refine below_set ?_ ff.out | refine below_set ?_ fg.out | refine below_set ?_ fh.out) | exact HB.out)); (case side2 => exact Kd.R_tight rfl ar.out); rintro e mM ⟨e8, rfl, aq, hb, hkp⟩; refine ⟨_, rfl, ?_⟩; replace HO_332002 := Z (Kd.V_mono (ok' := fun k_ => (ax k_ ∨ w.heap.size ≤ k_) ∧ some k_ ≠ (.slice a5 A.length a6 : Value).ownBlock ∧ k_ ≠ aa ∧ k_ ≠ ab ∧ k_ ≠ s ∧ k_ ≠ a ∧ k_ ≠ an ∧ some k_ ≠ (e8 : Value).ownBlock) (Kd.V_keptB (HO_332002.out) hkp (fun k_ hk_ hs_ => (hk_.2.2.1) hs_)) (fun k_ hk_ => ⟨hk_.1.1, hk_.1.2.1, hk_.1.2.2.2.1, hk_.1.2.2.2.2.1, hk_.1.2.2.2.2.2.1, hk_.1.2.2.2.2.2.2.1, hk_.1.2.2.2.2.2.2.2, fun e_ => Or.elim (aq.1 k_ e_.symm) (fun hs_ => hk_.2.1 hs_) (fun hn_ => Nat.not_le.2 hk_.2.2 hn_)⟩)); replace b := Z (blk_kept (vK b.out) hkp (fun hs_ => (fun e_ => (Kd.R_ne ar.out b.out (by decide)) e_) hs_)); replace d := Z (blk_kept (vK d.out) hkp (fun hs_ => (fun e_ => (Kd.R_ne ar.out d.out (by decide)) e_) hs_)); replace l := Z (blk_kept (vK l.out) hkp (fun hs_ => (fun e_ => (Kd.R_ne ar.out l.out (by decide)) e_) hs_)); replace m := Z (blk_kept (vK m.out) hkp (fun hs_ => (fun e_ => (Kd.R_ne ar.out m.out (by decide)) e_) hs_)); replace aK := Z (Kd.V_mono (ok' := fun k_ => (ax k_ ∨ w.heap.size ≤ k_) ∧ k_ ≠ aa ∧ k_ ≠ ab ∧ k_ ≠ s ∧ k_ ≠ a ∧ k_ ≠ an ∧ some k_ ≠ (e8 : Value).ownBlock) (Kd.V_keptB (aK.out) hkp (fun k_ hk_ hs_ => (hk_.2.1) hs_)) (fun k_ hk_ => ⟨hk_.1.1, hk_.1.2.2.1, hk_.1.2.2.2.1, hk_.1.2.2.2.2.1, hk_.1.2.2.2.2.2.1, hk_.1.2.2.2.2.2.2, fun e_ => Or.elim (aq.1 k_ e_.symm) (fun hs_ => hk_.2.1 hs_) (fun hn_ => Nat.not_le.2 hk_.2.2 hn_)⟩)); replace aE := Z (blk_kept (vK aE.out) hkp (fun hs_ => (fun e_ => (Kd.R_ne ar.out aE.out (by decide)) e_) hs_)); have fk := Z (Kd.R_mono (ok' := fun k_ => (w.heap.size ≤ k_) ∧ some k_ ≠ (.slice a5 A.length a6 : Value).ownBlock) aq (fun k_ hk_ => ⟨Or.elim hk_ (fun hs_ => (ar.out.1 k_ (hs_).symm).1) (fun hn_ => (Nat.le_trans (below_size bl_) hn_)), Or.elim hk_ (fun hs_ => fun e_ => (((HO_352002.out).1 k_ e_.symm).2) hs_) (fun hn_ => (Kd.fresh' (Kd.R_lt (by (with_reducible repeat apply pR); exact HO_352002.out)) k_ hn_))⟩)); replace HO_352002 := Z (Kd.R_mono (ok' := fun k_ => (w.heap.size ≤ k_) ∧ some k_ ≠ (e8 : Value).ownBlock) (Kd.R_keptB (HO_352002.out) hkp (fun k_ hk_ hs_ => (hk_.2) hs_)) (fun k_ hk_ => ⟨hk_.1.1, fun e_ => Or.elim (aq.1 k_ e_.symm) (fun hs_ => hk_.2.1 hs_) (fun hn_ => Nat.not_le.2 hk_.2.2 hn_)⟩)); replace HB := Z (hb); clear ar; (try clear hb); (try clear hkp); (try clear aq); (try clear gb); (try clear gV); (try clear gc); (try clear gW); (try clear gd); (try clear gX); (try clear ge); (try clear gY); (try clear gf); (try clear gZ); (try clear gg); (try clear g0); (try clear gh); (try clear g1); (try clear gi); (try clear g2); (try clear gj); (try clear g3); (try clear gk); (try clear g4); (try clear gl); (try clear g5); obtain ⟨hY, hZ, h0, h1, h2, h3, iM, iN, iO, iP, iQ, iR⟩ := cells6 m.out; obtain ⟨bJ, bL, hz⟩ := Kd.R_slice fk.out; subst hz; have kz := a2.out; have kK := a1.out; obtain ⟨h4, h5, h6, h7, h8, h9, iS, iT, iU, iV, iW, iX⟩ := cells6 l.out))
        refine bodyPost_ret (results_ct rfl _ _ s 24 #[.int .i64 bl, .int .i64 bt, .slice bJ bG.length bL, .int .i64 bP, .bool b7, .bool cj] (0, 0) _ rfl (by (with_reducible repeat apply pK); refine blk_put (cs := #[.int .i64 bl, .int .i64 bt, .slice bJ bG.length bL, .int .i64 bP, .bool b7, .bool false]) ?_ 5 _ rfl; (with_reducible repeat apply pK); refine blk_put (cs := #[.int .i64 bl, .int .i64 bt, .slice bJ bG.length bL, .int .i64 bP, .bool false, .bool false]) ?_ 4 _ rfl; (with_reducible repeat apply pK); refine blk_put (cs := #[.int .i64 bl, .int .i64 bt, .slice bJ bG.length bL, .int .i64 0, .bool false, .bool false]) ?_ 3 _ rfl; (with_reducible repeat apply pK); refine blk_put (cs := #[.int .i64 bl, .int .i64 bt, .slice none 0 0, .int .i64 0, .bool false, .bool false]) ?_ 2 _ rfl; (with_reducible repeat apply pK); refine blk_put (cs := #[.int .i64 bl, .int .i64 0, .slice none 0 0, .int .i64 0, .bool false, .bool false]) ?_ 1 _ rfl; (with_reducible repeat apply pK); refine blk_put (cs := #[.int .i64 0, .int .i64 0, .slice none 0 0, .int .i64 0, .bool false, .bool false]) ?_ 0 _ rfl; (with_reducible repeat apply pK); refine blk_far ?_ q.out _; (with_reducible repeat apply pK); refine blk_far ?_ q.out _; (with_reducible repeat apply pK); refine blk_far ?_ q.out _; (with_reducible repeat apply pK); refine blk_far ?_ q.out _; (with_reducible repeat apply pK); refine blk_far ?_ q.out _; (with_reducible repeat apply pK); refine blk_far ?_ q.out _; (with_reducible repeat apply pK); exact l.out) Tryd.underlying24 rfl (by kernel_rfl)) rfl ?_
        exact ⟨_, _, er_, by (with_reducible repeat apply pR); exact Kd.R_mono (f6R s (f6R a (Kd.R_types (Kd.R_types fk.out m.out (by decide)) l.out (by decide)) (fun _ hk => hk.1.2)) (fun _ hk => hk.2)) (fun _ hk => hk.1.1.1), Kd.R_V (Kd.R_nil _ _ _ 0 _), bl_⟩
       ·replace fn := Bool.eq_false_iff.mpr fn
        subst fn
        have H1 : (some (az, aB, aj, aJ, aN, aS, none, ([] : List (S184)))) = some (r1, r2, r3, r4, r5, r6, (none : Option Er), r8) := by rw [if_neg (show ¬ (false = true) by decide)] at H; exact H
        clear H
        have H := H1
        clear H1
        simp only [Option.some.injEq, Prod.mk.injEq] at H
        (first | obtain ⟨rfl, rfl, rfl, rfl, rfl, rfl, _, rfl⟩ := H | obtain ⟨rfl, rfl, rfl, rfl, rfl, rfl, rfl⟩ := H)
        have kA := aT.out
        have kL := ap.out
        have kB := aO.out
        have kM := al.out
        have kC := aU.out
        have kN := q.out
        obtain ⟨ia, ib, ic, id, ie, ig, iY, iZ, ja, jb, jc, jd⟩ := cells6 m.out
        have kD := bg.out
        have kO := be.out
        have kE := aZ.out
        have kP := a0.out
        obtain ⟨ih, ii, ij, ik, il, je, jf, jg, jh, ji⟩ := cells5 d.out
        obtain ⟨fc, fo, hA⟩ := Kd.R_slice HO_352002.out
        subst hA
        go_wp2_with (first | ((with_reducible refine gate_callee (f := 24) rfl ?_); refine goesL_ (some 47) rfl rfl Tryd.func24 (by kernel_rfl) rfl #[.agg #[.int .i64 aF, .int .i64 aG, .slice fc A.length fo, .int .i64 ao, .bool aH, .bool aI], .int .i64 ao, .slice aX ad.length aY] rfl ag_ ?_; (with_reducible refine (paint_All.callsN hp aF aG (fun k_ => some k_ = (.slice fc A.length fo : Value).ownBlock) _ _ A ao aH aI ao _ _ ad az aB aj aJ aN aS hu b6 _ ?side1 ?side2 ?side3 hG.out).mono ?_); (case side1 => exact Kd.R_V (Kd.R_tight rfl (Kd.R_types (Kd.R_types (Kd.R_types (Kd.R_types (HO_352002.out) b.out (by decide)) d.out (by decide)) l.out (by decide)) m.out (by decide)))); (case side2 => repeat (first | exact (Kd.C_below eD.out HB.out) | (with_reducible apply pC))); (case side3 => exact eC.out); rintro e mN ⟨e6, e7, rfl, aq, b8, hb⟩; refine ⟨_, rfl, ?_⟩; replace HO_332002 := Z (Kd.V_elder' (vV HO_332002.out) (Kd.R_base aq) hb); have ar := Z (Kd.R_lower (Kd.R_new' (Kd.R_newM (M := fun k_ => (w.heap.size ≤ k_)) (Kd.R_mono (ok' := fun k_ => True) aq (fun _ hk_ => trivial)) (below_size bl_) (fun k_ h_ => h_)) (Kd.R_lt (by (with_reducible repeat apply pR); exact HO_352002.out))) (below_size bl_)); have aK := Z (Kd.V_lower (Kd.V_mono (ok' := fun k_ => (ax k_ ∨ w.heap.size ≤ k_) ∧ some k_ ≠ (e6 : Value).ownBlock ∧ k_ ≠ aa ∧ k_ ≠ ab ∧ k_ ≠ s ∧ k_ ≠ a) b8 (fun k_ hk_ => ⟨Or.elim hk_.1 (fun hs_ => (.inr (((Kd.R_types (Kd.R_types (Kd.R_types (Kd.R_types (HO_352002.out) b.out (by decide)) d.out (by decide)) l.out (by decide)) m.out (by decide)).1 k_ hs_.symm).1.1.1.1))) (fun hn_ => (ir_ hn_)), hk_.2, Or.elim hk_.1 (fun hs_ => ((Kd.R_types (Kd.R_types (Kd.R_types (Kd.R_types (HO_352002.out) b.out (by decide)) d.out (by decide)) l.out (by decide)) m.out (by decide)).1 k_ hs_.symm).1.1.1.2) (fun hn_ => (fb b.out k_ hn_)), Or.elim hk_.1 (fun hs_ => ((Kd.R_types (Kd.R_types (Kd.R_types (Kd.R_types (HO_352002.out) b.out (by decide)) d.out (by decide)) l.out (by decide)) m.out (by decide)).1 k_ hs_.symm).1.1.2) (fun hn_ => (fb d.out k_ hn_)), Or.elim hk_.1 (fun hs_ => ((Kd.R_types (Kd.R_types (Kd.R_types (Kd.R_types (HO_352002.out) b.out (by decide)) d.out (by decide)) l.out (by decide)) m.out (by decide)).1 k_ hs_.symm).1.2) (fun hn_ => (fb l.out k_ hn_)), Or.elim hk_.1 (fun hs_ => ((Kd.R_types (Kd.R_types (Kd.R_types (Kd.R_types (HO_352002.out) b.out (by decide)) d.out (by decide)) l.out (by decide)) m.out (by decide)).1 k_ hs_.symm).2) (fun hn_ => (fb m.out k_ hn_))⟩)) (below_size bl_)); replace HO_352002 := Z (Kd.R_elder' (by (with_reducible repeat apply pR); exact HO_352002.out) (Kd.R_base aq) hb); replace b := Z (kb b.out hb); replace d := Z (kb d.out hb); replace l := Z (kb l.out hb); replace m := Z (kb m.out hb); replace HB := Z (below_step bl_ hb); (try clear hb); (try clear cl); (try clear hk); (try clear hi); (try clear aq); (try clear b8); (try simp only [errW_none, errW_some])) | ((with_reducible refine gate_dst (N := 9) rfl ?_); refine bx_ 9 24 #[.int .i64 0, .int .i64 0, .slice none 0 0, .int .i64 0, .bool false, .bool false] ?_; intro an hg mO hbox hb; replace HO_332002 := Z (ve HO_332002.out hg hb); replace HO_352002 := Z (rb HO_352002.out hb); replace ar := Z (rb ar.out hb); replace aK := Z (ve aK.out hg hb); have aE := Z (hbox); have hx := Z (ln_ hg : w.heap.size ≤ an); have fh := Z (ln_ hg : w.heap.size ≤ an); replace HB := Z (below_step bl_ hb); have bf := Z (nl b.out hg); have bu := Z (ng b.out hg); replace b := Z (kb b.out hb); have bh := Z (nl d.out hg); have bw := Z (ng d.out hg); replace d := Z (kb d.out hb); have aA := Z (nl l.out hg); have bx := Z (ng l.out hg); replace l := Z (kb l.out hb); have bi := Z (nl m.out hg); have bj := Z (ng m.out hg); replace m := Z (kb m.out hb); clear hb hbox hg; have kF := bu.out; have kQ := bf.out; have kG := bw.out; have kR := bh.out; have kH := bx.out; have kS := aA.out; have kI := bj.out; have kT := bi.out; obtain ⟨im, io, ip, iq, ir, it, jj, jk, jl, jm, jn, jo⟩ := cells6 aE.out; obtain ⟨bm, bp, hB⟩ := Kd.R_slice ar.out; subst hB; obtain ⟨iu, iv, iw, ix, iy, iz, jp, jq, jr, js, jt, ju⟩ := cells6 m.out; obtain ⟨iA, iB, iC, iD, iE, jv, jw, jx, jy, jz⟩ := cells5 d.out; have kJ := a2.out; have kU := a1.out; obtain ⟨iF, iG, iH, iI, iJ, iK, jA, jB, jC, jD, jE, jF⟩ := cells6 l.out))
        refine bodyPost_ret (results_ct rfl _ _ s 24 #[.int .i64 az, .int .i64 aB, .slice bm aj.length bp, .int .i64 aJ, .bool aN, .bool aS] (0, 0) _ rfl (by (with_reducible repeat apply pK); refine blk_put (cs := #[.int .i64 az, .int .i64 aB, .slice bm aj.length bp, .int .i64 aJ, .bool aN, .bool false]) ?_ 5 _ rfl; (with_reducible repeat apply pK); refine blk_put (cs := #[.int .i64 az, .int .i64 aB, .slice bm aj.length bp, .int .i64 aJ, .bool false, .bool false]) ?_ 4 _ rfl; (with_reducible repeat apply pK); refine blk_put (cs := #[.int .i64 az, .int .i64 aB, .slice bm aj.length bp, .int .i64 0, .bool false, .bool false]) ?_ 3 _ rfl; (with_reducible repeat apply pK); refine blk_put (cs := #[.int .i64 az, .int .i64 aB, .slice none 0 0, .int .i64 0, .bool false, .bool false]) ?_ 2 _ rfl; (with_reducible repeat apply pK); refine blk_put (cs := #[.int .i64 az, .int .i64 0, .slice none 0 0, .int .i64 0, .bool false, .bool false]) ?_ 1 _ rfl; (with_reducible repeat apply pK); refine blk_put (cs := #[.int .i64 0, .int .i64 0, .slice none 0 0, .int .i64 0, .bool false, .bool false]) ?_ 0 _ rfl; (with_reducible repeat apply pK); refine blk_far ?_ q.out _; (with_reducible repeat apply pK); refine blk_far ?_ q.out _; (with_reducible repeat apply pK); refine blk_far ?_ q.out _; (with_reducible repeat apply pK); refine blk_far ?_ q.out _; (with_reducible repeat apply pK); refine blk_far ?_ q.out _; (with_reducible repeat apply pK); refine blk_far ?_ q.out _; (with_reducible repeat apply pK); refine blk_far ?_ aA.out _; (with_reducible repeat apply pK); refine blk_far ?_ aA.out _; (with_reducible repeat apply pK); refine blk_far ?_ aA.out _; (with_reducible repeat apply pK); refine blk_far ?_ aA.out _; (with_reducible repeat apply pK); refine blk_far ?_ aA.out _; (with_reducible repeat apply pK); refine blk_far ?_ aA.out _; (with_reducible repeat apply pK); exact l.out) Tryd.underlying24 rfl (by kernel_rfl)) rfl ?_
        exact ⟨_, _, er_, by (with_reducible repeat apply pR); exact Kd.R_mono (f6R s (f6R a (f6R an (Kd.R_types (Kd.R_types (Kd.R_types ar.out aE.out (by decide)) m.out (by decide)) l.out (by decide)) (fun _ hk => hk.1.1.2)) (fun _ hk => hk.1.2)) (fun _ hk => hk.2)) (fun _ hk => hk.1.1.1.1.1), Kd.R_V (Kd.R_nil _ _ _ 0 _), bl_⟩
      ·have H1 : (some (Q, T, x, U, W, X, some hq, b6)) = some (r1, r2, r3, r4, r5, r6, (none : Option Er), r8) := by rw [if_neg (show ¬ (some hq).isNone = true by simp)] at H; exact H
       clear H
       have H := H1
       clear H1
       try simp only [errW_none, errW_some]
       exact absurd H (by simp)
 ·have H1 : (some (Q, T, x, U, W, X, some eJ, eK)) = some (r1, r2, r3, r4, r5, r6, (none : Option Er), r8) := by rw [if_neg (show ¬ (some eJ).isNone = true by simp)] at H; exact H
  clear H
  have H := H1
  clear H1
  try simp only [errW_none, errW_some]
  exact absurd H (by simp)

end Go.Proofs.YtgboplhcjhlabaaDoor.P
