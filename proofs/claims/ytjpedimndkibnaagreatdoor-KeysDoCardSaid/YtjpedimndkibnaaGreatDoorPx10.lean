/- pp.py and press2.py (wip/tools) wrote this text. -/
import Derived.Test.YtjpedimndkibnaaGreatDoorPx0
import Derived.Test.YtjpedimndkibnaaGreatDoorPxS
import Derived.Test.YtjpedimndkibnaaGreatDoorPxT
import Derived.Test.YtjpedimndkibnaaGreatDoorPx6
import Derived.Test.YtjpedimndkibnaaGreatDoorPx7
import Derived.Test.YtjpedimndkibnaaGreatDoorPx9
namespace Go.Proofs.YtjpedimndkibnaaGreatDoor.P
open Go.RowKit Go.Proofs.YtjpedimndkibnaaGreatDoorW.PrintWords Go.Proofs.YtjpedimndkibnaaGreatDoorW.PrintLast Go.Proofs.YtjpedimndkibnaaGreatDoorW.PrintMore
attribute [local go_sem] max2_int min2_int max_two min_two max_three min_three max_four min_four
attribute [local go_sem] Instr.field asAgg
set_option linter.unusedVariables false
set_option linter.unusedSimpArgs false
set_option maxHeartbeats 8000000
set_option maxRecDepth 100000

/-! ### edit_Line: function 112 -/
def edit_Line.f (k : Nat) (c d : Int) (i : List (S55)) (e : Int) (g h : Bool) (a1 : Int) : Option (List Int) := (field_Open.f c d i e g h a1).bind fun j => (if j = true then ((field_Cells.f c d i e g h a1).bind fun a => ((slices_Index_int_int.f k a a1).bind fun b => (if 0 ≤ b then (if b ≤ (a.length : Int) then (some (a.drop (b : Int).toNat)) else (none)) else (none)))) else (some ([] : List Int)))
theorem edit_Line.mono : ∀ a0 a1 a b a4 c d k, LeO (edit_Line.f k a0 a1 a b a4 c d) (edit_Line.f (k + 1) a0 a1 a b a4 c d) := by
 intro a0 a1 a b a4 c d k
 unfold edit_Line.f
 repeat' first
   | (with_reducible exact slices_Index_int_int.mono _ _ _)
   | (with_reducible exact LeO.refl _)
   | (with_reducible exact LeO.none _)
   | (with_reducible refine LeO.ite ?_ ?_)
   | (with_reducible refine LeO.bind ?_ (fun _ => ?_))
   | exact slices_Index_int_int.mono _ _ _
   | exact LeO.none _
   | refine LeO.ite ?_ ?_
   | refine LeO.bind ?_ (fun _ => ?_)
theorem edit_Line.calls (k : Nat) (g i : Int) (p : Option Addr) (q : Nat) (c : List (S55)) (j : Int) (l m : Bool) (a1 : Int) (r : List Int) (w : World) (R : Kd.C k55 w p c.length c) (M : c.length ≤ q) (h : edit_Line.f k g i c j l m a1 = some r) :
  Calls Tryz.prog 112 #[.agg #[.int .i64 g, .int .i64 i, .slice p c.length q, .int .i64 j, .bool l, .bool m], .int .i64 a1] w fun e w' => ∃ ah : Value, e = .returned (ah) ∧ Kd.Q (Kd.int .i64) 3 w' w.heap.size (fun _ => True) ah r ∧ Below w.heap.size w w' := by
 have a6 := Tryz.underlying24
 have E := Z R
 have D := Z M
 clear R M
 have HB := Z (Below.refl w.heap.size w)
 unfold edit_Line.f at h
 have H := h
 clear h
 replace H := bn_ H
 obtain ⟨G, A3, H⟩ := H
 cases G
 ·rw [iF_] at H
  obtain rfl := Option.some.inj H
  go_enter Tryz.func112, Tryz.ntmps112
  go_wp2_with (first | ((with_reducible refine gD_ 2 rfl ?_); refine bx_ 2 24 #[.int .i64 g, .int .i64 i, .slice p c.length q, .int .i64 j, .bool l, .bool m] ?_; intro u hg a9 hbox hb; have d := Z hbox; have X := ln' w hg; replace HB := bs_ hb; clear hb hbox hg; have ax := cells6 d.out) | ((with_reducible refine gF_ 53 rfl ?_); refine gd_ (some 8) Tryz.func53 (field_Open.calls g i _ _ c j l m a1 false _ (cB_ E HB) D.out A3.out) ?_; rintro e ba ⟨rfl, hb⟩; refine ⟨_, rfl, ?_⟩; replace d := kb' d hb; replace HB := bs_ hb; (try clear hb)))
  go_ret
  exact ⟨_, er_, Kd.Q_of_R (by first | exact Kd.R_nil _ _ _ _ _ | exact Kd.N_nil _ _ _ _ _ | exact Kd.V_nil _ _ _ _ _ | exact Kd.Q_nil _ _ _ _ _ | exact Kd.S_nil _ _ _ _ _), bl_⟩
 rw [if_pos rfl] at H
 replace H := bn_ H
 obtain ⟨b, A5, H⟩ := H
 replace H := bn_ H
 obtain ⟨a, A6, H⟩ := H
 obtain ⟨c7, H⟩ := gt_ H
 have a2 := eq_true c7
 have a3 := decide_eq_true c7
 clear c7
 by_cases c8 : a ≤ (b.length : Int)
 ·rw [if_pos c8] at H
  have a4 := eq_true c8
  have a5 := decide_eq_true c8
  clear c8
  obtain ⟨B, v⟩ : ∃ y_ : List Int, y_ = (b.drop (a : Int).toNat) := ⟨_, rfl⟩
  replace H : (some B) = some r := by first | (rw [v]; with_reducible exact H) | (have T := (Option.bind_some _ _).symm.trans H; rw [v]; with_reducible exact T) | (have T := (Option.bind_some _ _).symm.trans H; with_reducible exact T) | with_reducible exact H | (rw [v]; exact H) | exact H
  have L := Z v
  clear v
  obtain rfl := Option.some.inj H
  go_enter Tryz.func112, Tryz.ntmps112
  go_wp2_with (first | ((with_reducible refine gD_ 2 rfl ?_); refine bx_ 2 24 #[.int .i64 g, .int .i64 i, .slice p c.length q, .int .i64 j, .bool l, .bool m] ?_; intro u hg w9 hbox hb; have d := Z hbox; have X := ln' w hg; replace HB := bs_ hb; clear hb hbox hg; have aj := cells6 d.out) | ((with_reducible refine gF_ 53 rfl ?_); refine gd_ (some 8) Tryz.func53 (field_Open.calls g i _ _ c j l m a1 true _ (cB_ E HB) D.out A3.out) ?_; rintro e a8 ⟨rfl, hb⟩; refine ⟨_, rfl, ?_⟩; replace d := kb' d hb; replace HB := bs_ hb; (try clear hb); have ap := cells6 d.out) | ((with_reducible refine gF_ 132 rfl ?_); refine gd_ (some 12) Tryz.func132 (field_Cells.calls g i _ _ c j l m a1 b _ (cB_ E HB) D.out A5.out) ?_; rintro e aW ⟨a7, rfl, ag, hb⟩; refine ⟨_, rfl, ?_⟩; have s := Z (Kd.R_lower ag (below_size bl_)); replace d := kb' d hb; replace HB := bs_ hb; (try clear hb); (try clear ag); obtain ⟨x, z, ai⟩ := Kd.R_slice s.out; subst ai) | ((with_reducible refine gF_ 133 rfl ?_); refine gd_ (some 16) Tryz.func133 (slices_Index_int_int.calls k _ _ b a1 a _ (rC_ s) (rL_ s) A6.out) ?_; rintro e w' ⟨rfl, ⟨nd, rfl⟩⟩; refine ⟨_, rfl, ?_⟩; have V : (a : Int) ≤ ((b.length : Int) : Int) := od_; obtain ⟨i015, O, _, S, _⟩ := info_parts info3; have U := cut_from (P := Tryz.prog) 121 3 .i64 Tryz.underlying121 O 1 S x b.length z a (od_) V; have A := Kd.Q_drop (k := (a : Int).toNat) (Kd.Q_of_R s.out) (by omega); obtain ⟨aa, F⟩ : ∃ A1, A1 = (if z = (a : Int).toNat then x else (x : Option Addr).map (·.add ((a : Int).toNat * 1))) := ⟨_, rfl⟩; obtain ⟨ae, J⟩ : ∃ c1, c1 = z - (a : Int).toNat := ⟨_, rfl⟩; have K : B.length = b.length - (a : Int).toNat := (by rw [L.out, List.length_drop]); rw [← L.out] at A; rw [← K, ← F, ← J] at U; replace A : Kd.Q (Kd.int .i64) 3 aW w.heap.size (fun _ => True) (.slice aa B.length ae) B := (by rw [F, J, K]; exact A); have a0 : Aside0 ((Value.slice aa B.length ae).ownBlock = (.slice x b.length z : Value).ownBlock) := ⟨by rw [F]; split <;> (cases (x : Option Addr) <;> first | rfl | (simp [Value.ownBlock, add_block]; done))⟩; clear K O S s F J; have Y := Z A; clear A; replace V := eq_true V))
  go_ret
  exact ⟨_, er_, by (with_reducible repeat (first | apply Kd.Q_alloc | apply Kd.Q_drewN | apply Kd.Q_drew)); exact Y.out, bl_⟩
 rw [if_neg c8] at H
 exact absurd H (by simp)

/-! ### edit_Modify: function 113 -/
def edit_Modify.f (c d : Int) (i : List (S55)) (e : Int) (g h : Bool) (a1 : Int) : Option (Int × Int × (List (S55)) × Int × Bool × Bool) := (grid_Copy.f c d i e g h).bind fun a => ((field_Begin.f a.1 a.2.1 a.2.2.1 a.2.2.2.1 a.2.2.2.2.1 a.2.2.2.2.2 a1).bind fun b => (if b ≥ 0 then (if 0 ≤ b then (if b < (a.2.2.1.length : Int) then (some (a.1, a.2.1, (a.2.2.1.set (b : Int).toNat (⟨(rd_T55 a.2.2.1 b).f0, (⟨(rd_T55 a.2.2.1 b).f1.f0, (rd_T55 a.2.2.1 b).f1.f1, (rd_T55 a.2.2.1 b).f1.f2, true⟩ : S53), (rd_T55 a.2.2.1 b).f2⟩ : S55)), a.2.2.2.1, a.2.2.2.2.1, a.2.2.2.2.2)) else (none)) else (none)) else (some (a.1, a.2.1, a.2.2.1, a.2.2.2.1, a.2.2.2.2.1, a.2.2.2.2.2))))
theorem edit_Modify.calls (K L : Int) (W : Option Addr) (Y : Nat) (G : List (S55)) (M : Int) (O P : Bool) (a1 r1 r2 : Int) (r3 : List (S55)) (r4 : Int) (r5 r6 : Bool) (w : World) (am : Kd.C k55 w W G.length G) (aj : G.length ≤ Y) (h : edit_Modify.f K L G M O P a1 = some (r1, r2, r3, r4, r5, r6)) :
  Calls Tryz.prog 113 #[.agg #[.int .i64 K, .int .i64 L, .slice W G.length Y, .int .i64 M, .bool O, .bool P], .int .i64 a1] w fun e w' => ∃ aO : Value, e = .returned (.agg #[.int .i64 r1, .int .i64 r2, aO, .int .i64 r4, .bool r5, .bool r6]) ∧ Kd.R k55 55 w' w.heap.size (fun _ => True) aO r3 ∧ Below w.heap.size w w' := by
 have c8 := Tryz.underlying24
 have ai := Z am
 have ah := Z aj
 clear am aj
 have HB := Z (Below.refl w.heap.size w)
 unfold edit_Modify.f at h
 have H := h
 clear h
 replace H := bn_ H
 obtain ⟨⟨r, s, b, u, x, y⟩, A3, H⟩ := H
 try dsimp only at H
 replace H := bn_ H
 obtain ⟨a, A4, H⟩ := H
 by_cases c5 : a ≥ 0
 rotate_left
 ·rw [if_neg c5] at H
  have aP : decide (0 ≤ a) = false := decide_eq_false c5
  clear c5
  obtain ⟨rfl, rfl, rfl, rfl, rfl, rfl⟩ := ij6_ H
  go_enter Tryz.func113, Tryz.ntmps113
  go_wp2_with (first | ((with_reducible refine gD_ 2 rfl ?_); refine bx_ 2 24 #[.int .i64 K, .int .i64 L, .slice W G.length Y, .int .i64 M, .bool O, .bool P] ?_; intro i hg df hbox hb; have d := Z hbox; have aF := ln' w hg; replace HB := bs_ hb; clear hb hbox hg) | ((with_reducible refine gD_ 4 rfl ?_); refine bx_ 4 24 zS_ ?_; intro q hg dg hbox hb; have m := Z hbox; have aG := ln' w hg; replace HB := bs_ hb; have Q := nl' d hg; replace d := kb' d hb; clear hb hbox hg; have cT := ns_ Q; have bq := cells6 d.out) | ((with_reducible refine gF_ 21 rfl ?_); refine gd_ (some 7) Tryz.func21 (grid_Copy.calls K L _ _ G M O P r s b u x y _ (cB_ ai HB) ah.out A3.out) ?_; rintro e dh ⟨aU, rfl, ac, hb⟩; refine ⟨_, rfl, ?_⟩; have k := Z (Kd.R_lower ac (below_size bl_)); replace d := kb' d hb; replace m := kb' m hb; replace HB := bs_ hb; (try clear hb); (try clear hk); (try clear ac); have bw := cells6 d.out; obtain ⟨X, S, aR⟩ := Kd.R_slice k.out; subst aR) | ((with_reducible refine gF_ 126 rfl ?_); refine gd_ (some 10) Tryz.func126 (field_Begin.calls r s _ _ b u x y a1 a _ ?side1 (rL_ k) A4.out) ?_; (case side1 => refine (Kd.R_reads' (e := 55) (base := w.heap.size) (ok := fun k_ => True) (n := b.length) (c := S) ?_).2.2; exact (by (with_reducible repeat apply pR); exact (Kd.R_mono (f6R i (Kd.R_types k.out d.out (by decide)) (fun _ hk => hk.2)) (fun _ h_ => h_.1)))); rintro e di ⟨rfl, hb⟩; refine ⟨_, rfl, ?_⟩; replace k := Z (Kd.R_below (by (with_reducible repeat apply pR); exact (Kd.R_mono (f6R i (Kd.R_types k.out d.out (by decide)) (fun _ hk => hk.2)) (fun _ h_ => h_.1))) hb); replace d := Z (blk_below (g := i) (o := .cells #[.int .i64 r, .int .i64 s, .slice X b.length S, .int .i64 u, .bool x, .bool y] 24 (0, 0)) (put6 d.out) hb); replace m := Z (blk_below (g := q) (o := .cells zS_ 24 (0, 0)) (blk_off m.out Q.out.symm off2_) hb); replace HB := bs_ hb; (try clear hb); (try clear hk); have bD := cells6 d.out; have bJ := cells6 m.out))
  refine rc1_ (put6 m.out) Tryz.underlying24 ?_
  exact ⟨_, er_, by (with_reducible repeat apply pR); exact Kd.R_mono (f6R q (Kd.R_types k.out m.out (by decide)) im_) im_, bl_⟩
 rw [if_pos c5] at H
 have aP : decide (0 ≤ a) = true := decide_eq_true c5
 clear c5
 obtain ⟨c6, H⟩ := gt_ H
 have c2 := decide_eq_true c6
 clear c6
 by_cases c7 : a < (b.length : Int)
 ·rw [if_pos c7] at H
  have c3 := decide_eq_true c7
  clear c7
  obtain ⟨aC, V⟩ : ∃ y_ : List (S55), y_ = (b.set (a : Int).toNat (⟨(rd_T55 b a).f0, (⟨(rd_T55 b a).f1.f0, (rd_T55 b a).f1.f1, (rd_T55 b a).f1.f2, true⟩ : S53), (rd_T55 b a).f2⟩ : S55)) := ⟨_, rfl⟩
  replace H : (some (r, s, aC, u, x, y)) = some (r1, r2, r3, r4, r5, r6) := by first | (rw [V]; with_reducible exact H) | (have av := (Option.bind_some _ _).symm.trans H; rw [V]; with_reducible exact av) | (have av := (Option.bind_some _ _).symm.trans H; with_reducible exact av) | with_reducible exact H | (rw [V]; exact H) | exact H
  have aH := Z V
  clear V
  obtain ⟨rfl, rfl, rfl, rfl, rfl, rfl⟩ := ij6_ H
  go_enter Tryz.func113, Tryz.ntmps113
  go_wp2_with (first | ((with_reducible refine gD_ 2 rfl ?_); refine bx_ 2 24 #[.int .i64 K, .int .i64 L, .slice W G.length Y, .int .i64 M, .bool O, .bool P] ?_; intro i hg w9 hbox hb; have d := Z hbox; have aF := ln' w hg; replace HB := bs_ hb; clear hb hbox hg) | ((with_reducible refine gD_ 4 rfl ?_); refine bx_ 4 24 zS_ ?_; intro q hg dd hbox hb; have m := Z hbox; have aG := ln' w hg; replace HB := bs_ hb; have Q := nl' d hg; replace d := kb' d hb; clear hb hbox hg; have cS := ns_ Q; have aV := cells6 d.out) | ((with_reducible refine gF_ 21 rfl ?_); refine gd_ (some 7) Tryz.func21 (grid_Copy.calls K L _ _ G M O P r s b u x y _ (cB_ ai HB) ah.out A3.out) ?_; rintro e de ⟨aU, rfl, ac, hb⟩; refine ⟨_, rfl, ?_⟩; have k := Z (Kd.R_lower ac (below_size bl_)); replace d := kb' d hb; replace m := kb' m hb; replace HB := bs_ hb; (try clear hb); (try clear hk); (try clear ac); have a2 := cells6 d.out; obtain ⟨aa, J, aQ⟩ := Kd.R_slice k.out; subst aQ) | ((with_reducible refine gF_ 126 rfl ?_); refine gd_ (some 10) Tryz.func126 (field_Begin.calls r s _ _ b u x y a1 a _ ?side1 (rL_ k) A4.out) ?_; (case side1 => refine (Kd.R_reads' (e := 55) (base := w.heap.size) (ok := fun k_ => True) (n := b.length) (c := J) ?_).2.2; exact (by (with_reducible repeat apply pR); exact (Kd.R_mono (f6R i (Kd.R_types k.out d.out (by decide)) (fun _ hk => hk.2)) (fun _ h_ => h_.1)))); rintro e I ⟨rfl, hb⟩; refine ⟨_, rfl, ?_⟩; replace k := Z (Kd.R_below (by (with_reducible repeat apply pR); exact (Kd.R_mono (f6R i (Kd.R_types k.out d.out (by decide)) (fun _ hk => hk.2)) (fun _ h_ => h_.1))) hb); replace d := Z (blk_below (g := i) (o := .cells #[.int .i64 r, .int .i64 s, .slice aa b.length J, .int .i64 u, .bool x, .bool y] 24 (0, 0)) (put6 d.out) hb); replace m := Z (blk_below (g := q) (o := .cells zS_ 24 (0, 0)) (blk_off m.out Q.out.symm off2_) hb); replace HB := bs_ hb; (try clear hb); (try clear hk); have a8 := cells6 d.out; have p8 : 0 ≤ (a : Int) := od_; have q8 : (a : Int) < ((b.length : Int) : Int) := od_; obtain ⟨E, dc, aL, aM, cL, db, aK⟩ := Kd.R_form k.out (by omega); (first | cases aL | (injection aL with ea_ en_ ec_; (first | subst ea_ | (injection ea_ with ea_; subst ea_)); subst ec_; clear en_)); have cK := Z aM; have c9 := Z aK; clear aM cL aK; obtain ⟨da, aS, aN, T, U⟩ := Kd.R_elem k.out z55 (a : Int) p8 q8; obtain rfl := k55_openM aN; have cW := ce_ T; have cM := cf_ U; clear aS T U aN; replace p8 := eq_true p8; replace q8 := eq_true q8; have aw := Z (show Kd.R k55 55 I w.heap.size (fun _ => True) (.slice (some ⟨E, 0, none⟩) b.length J) b from (by (with_reducible repeat apply pR); exact k.out)); obtain ⟨c4, ak, ax, ab, al⟩ := Kd.R_elem aw.out z55 (a : Int) (od_) (by have h_ : (a : Int) < ((b.length : Int) : Int) := od_; first | exact h_ | (have e_ := (Kd.R_reads' k.out).1; omega) | simpa using h_); obtain rfl := k55_openM ax; have ag := Kd.R_seg aw.out (a : Int) (od_) (by have h_ : (a : Int) < ((b.length : Int) : Int) := od_; first | exact h_ | (have e_ := (Kd.R_reads' k.out).1; omega) | simpa using h_) (seg := [.bool true]) (j := 4) ak ab (show 5 ≤ 6 from by decide) (x' := (⟨(rd_T55 b a).f0, (⟨(rd_T55 b a).f1.f0, (rd_T55 b a).f1.f1, (rd_T55 b a).f1.f2, true⟩ : S53), (rd_T55 b a).f2⟩ : S55)) (k55_mkM _ _ _ (⟨(rd_T55 b a).f0, (⟨(rd_T55 b a).f1.f0, (rd_T55 b a).f1.f1, (rd_T55 b a).f1.f2, true⟩ : S53), (rd_T55 b a).f2⟩ : S55) ) (fun _ hk => hk); have aA := ab 4 _ rfl; (try simp only [show (k55).sz = 6 from rfl, Nat.mul_one, Nat.add_zero] at aA); have az := al 4; (try simp only [show (k55).sz = 6 from rfl, Nat.mul_one, Nat.add_zero] at az); clear ak ab al ax) | ((with_reducible refine gate_store (t := 4) (p := 18) rfl ?_); refine sx_ 4 18 (I.setCell ⟨E, (a : Int).toNat * 6 + 4, none⟩ (.bool true)) ?_; intro aB hw; have hg : I.grownBy aB (some E) := (by rw [hw]; exact ag.2); have hp_ : Kd.R k55 55 aB w.heap.size (fun _ => True) (.slice (some ⟨E, 0, none⟩) b.length J) aC := (by rw [hw, aH.out]; exact ag.1); clear ag; replace d := gw_ ⟨vK d.out⟩ hg (Kd.R_ne k.out d.out (by decide)); replace m := gw_ ⟨vK m.out⟩ hg (Kd.R_ne k.out m.out (by decide)); replace k := Z (hp_); replace HB := Z ((by rw [hw]; exact below_set (HB.out) cK.out : Below w.heap.size w aB)); clear hg hw hp_; have be := cells6 d.out; have bk := cells6 m.out))
  refine rc1_ (put6 m.out) Tryz.underlying24 ?_
  exact ⟨_, er_, by (with_reducible repeat apply pR); exact Kd.R_mono (f6R q (Kd.R_types k.out m.out (by decide)) im_) im_, bl_⟩
 rw [if_neg c7] at H
 exact absurd H (by simp)

end Go.Proofs.YtjpedimndkibnaaGreatDoor.P
