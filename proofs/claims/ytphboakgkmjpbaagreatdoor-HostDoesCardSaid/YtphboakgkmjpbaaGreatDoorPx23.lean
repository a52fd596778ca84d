/- pp.py and press2.py (wip/tools) wrote this text. -/
import Derived.Test.YtphboakgkmjpbaaGreatDoorJHostDoes1
namespace Go.Proofs.YtphboakgkmjpbaaGreatDoor.P
open Go.RowKit Go.Proofs.YtphboakgkmjpbaaGreatDoorW.PrintWords Go.Proofs.YtphboakgkmjpbaaGreatDoorW.PrintLast Go.Proofs.YtphboakgkmjpbaaGreatDoorW.PrintMore
attribute [local go_sem] max2_int min2_int max_two min_two max_three min_three max_four min_four
attribute [local go_sem] Instr.field asAgg
set_option linter.unusedVariables false
set_option linter.unusedSimpArgs false
set_option maxHeartbeats 8000000
set_option maxRecDepth 100000

/-! ### shutterref10_Copy: function 27 -/
def shutterref10_Copy.f (c d : Int) (a : List (S47)) (e : Int) (g h : Bool) : Option (Int × Int × (List (S47)) × Int × Bool × Bool) := (some (([] : List (S47)) : List (S47))).bind fun b => (if b.length + a.length < 3518437208883 then (some (c, d, (b ++ a), e, g, h)) else (none))
theorem shutterref10_Copy.calls (c i : Int) (I : Option Addr) (J : Nat) (d : List (S47)) (l : Int) (m n : Bool) (S T : Int) (U : List (S47)) (V : Int) (W X : Bool) (w : World) (Q : Kd.C k47 w I d.length d) (P : d.length ≤ J) (h : shutterref10_Copy.f c i d l m n = some (S, T, U, V, W, X)) :
  Calls Tryz.prog 27 #[.agg #[.int .i64 c, .int .i64 i, .slice I d.length J, .int .i64 l, .bool m, .bool n]] w fun e w' => ∃ ae : Value, e = .returned (.agg #[.int .i64 S, .int .i64 T, ae, .int .i64 V, .bool W, .bool X]) ∧ Kd.R k47 47 w' w.heap.size (fun _ => True) ae U ∧ Below w.heap.size w w' := by
 have a7 := Tryz.underlying24
 have Y := Z Q
 have a4 := Z P
 clear Q P
 have HB := Z (Below.refl w.heap.size w)
 unfold shutterref10_Copy.f at h
 have H := h
 clear h
 obtain ⟨v, y⟩ : ∃ y_ : List (S47), y_ = (([] : List (S47))) := ⟨_, rfl⟩
 rw [← y] at H
 try replace H := sb_ H
 have O := Z y
 clear y
 by_cases c2 : v.length + d.length < 3518437208883
 ·rw [if_pos c2] at H
  have af := Z c2
  clear c2
  obtain ⟨x, z⟩ : ∃ y_ : List (S47), y_ = (v ++ d) := ⟨_, rfl⟩
  rw [← z] at H
  try replace H := sb_ H
  have aa := Z z
  clear z
  obtain ⟨rfl, rfl, rfl, rfl, rfl, rfl⟩ := ij6_ H
  go_enter Tryz.func27, Tryz.ntmps27
  go_wp2_with (first | ((with_reducible refine gD_ 1 rfl ?_); refine bx_ 1 24 #[.int .i64 c, .int .i64 i, .slice I d.length J, .int .i64 l, .bool m, .bool n] ?_; intro F hg w3 hbox hb; have a := Z hbox; have a2 := ln' w hg; replace HB := bs_ hb; clear hb hbox hg) | ((with_reducible refine gD_ 2 rfl ?_); refine bx_ 2 24 zS_ ?_; intro k hg w4 hbox hb; have j := Z hbox; have a3 := ln' w hg; replace HB := bs_ hb; have K := nl' a hg; replace a := kb' a hb; clear hb hbox hg) | ((with_reducible refine gD_ 3 rfl ?_); refine Kd.R_lit k47 _ 47 ?hg (N := 3) ?hd (xs := ([] : List (S47))) (inner := []) (ok := fun _ => True) (okp := fun _ => True) ?hr ?hp (fun _ hk => hk) trivial (Below.refl _ _) (Nat.le_refl _) (by simp) ?_; (case hd => rfl); (case hg => rfl); (case hr => first | (go_simp; done) | (go_simp; rfl)); (case hp => exact (Reps.none _ _)); intro ah w5 L hb hg_ hnew_; clear hg_ hnew_; (first | rw [← O.out] at L | (simp only [Int.reduceToNat] at L; rw [← O.out] at L)); have E := Z (Kd.R_lower L (below_size bl_)); replace a := kb' a hb; replace j := kb' j hb; replace HB := bs_ hb; clear hb L; have a5 := ns_ K; have aK := cells6 a.out) | ((with_reducible refine gate_builtin (b := .append) (xs := #[.tmp 3, .tmp 5]) rfl ?_); at_builtin; refine Kd.R_append_rows k47 (w0 := w) w.heap.size rfl (.tmp 3) (.tmp 5) 22 47 (.agg #[(.bool false), (.bool false), (.bool false), (.int .i64 0), (.bool false), (.int .u8 0)]) 40 rfl Tryz.underlying22 info47 rfl (by decide) (by omega) ah v d _ _ _ (fun _ => True) (fun _ => False) rfl rfl ?aO ?aR (fun _ _ h => h) (fun _ h => h.elim) ?aF ?aB ?aS ?aL ?_; (case aR => repeat (first | exact (Kd.C_below Y.out HB.out) | (with_reducible apply pC))); (case aB => exact bl_); (case aF => exact (fun _ _ => trivial)); (case aO => exact (by (with_reducible repeat apply pR); exact E.out)); (case aS => exact (below_size bl_)); (case aL => have := af.out; omega); intro a8 w9 ho hb hg hat; rw [← aa.out] at ho; replace a := gw_ ⟨vK a.out⟩ hg (Kd.R_ne E.out a.out (by decide)); replace j := gw_ ⟨vK j.out⟩ hg (Kd.R_ne E.out j.out (by decide)); replace HB := Z (hb); have M := Z (ho); clear E; clear ho hb hg hat; obtain ⟨A, B, ag⟩ := Kd.R_slice M.out; subst ag; have ai := cells6 a.out; have ao := cells6 j.out))
  refine bodyPost_ret (results_cell_row rfl _ _ k 24 #[.int .i64 c, .int .i64 i, .slice A x.length B, .int .i64 l, .bool m, .bool n] (0, 0) _ rfl (put6 (by (with_reducible repeat apply pK); refine blk_far ?_ K.out.symm _; (with_reducible repeat apply pK); exact j.out)) Tryz.underlying24 rfl (by kernel_rfl)) rfl ?_
  exact ⟨_, er_, by (with_reducible repeat apply pR); exact Kd.R_mono (f6R k (Kd.R_far (p := ⟨F, 2, none⟩) (Kd.R_types (Kd.R_types M.out a.out (by decide)) j.out (by decide)) im_ (.slice A x.length B)) im_) im_, bl_⟩
 rw [if_neg c2] at H
 exact absurd H (by simp)

/-! ### shutterref13_Reset: function 28 -/
def shutterref13_Reset.l0 : Nat → Bool → Int → Int → Int → List (S47) → Int → Bool → Bool → Int → Int → List (S47) → Int → Bool → Bool → Option (Int × Int × (List (S47)) × Int × Bool × Bool)
 | 0, _, _, _, _, _, _, _, _, _, _, _, _, _, _ => none
 | k + 1, o, c, i, j, b, l, m, n, d, e, a, f, g, h => if c < (a.length : Int) then (if 0 ≤ c then (if c < (b.length : Int) then (if (rd_T47 b c).f0 = true then (if o = true then (shutterref13_Reset.l0 k o (wrap64 (c + 1)) i j b l m n d e (a.set (c : Int).toNat (⟨(rd_T47 a c).f0, (⟨(rd_T47 a c).f1.f0, (rd_T47 a c).f1.f1, (rd_T47 a c).f1.f2, false⟩ : S45), (rd_T47 a c).f2⟩ : S47)) f g h) else (if ((rd_T47 b c).f1.f0 = true) then (shutterref13_Reset.l0 k o (wrap64 (c + 1)) i j b l m n d e a f g h) else (shutterref13_Reset.l0 k o (wrap64 (c + 1)) i j b l m n d e (a.set (c : Int).toNat (⟨(rd_T47 a c).f0, (⟨(rd_T47 a c).f1.f0, (rd_T47 a c).f1.f1, (rd_T47 a c).f1.f2, false⟩ : S45), (rd_T47 a c).f2⟩ : S47)) f g h))) else (shutterref13_Reset.l0 k o (wrap64 (c + 1)) i j b l m n d e a f g h)) else (none)) else (none)) else (some (d, e, a, f, g, h))
def shutterref13_Reset.f (k : Nat) (b c : Int) (h : List (S47)) (d : Int) (e g a1 : Bool) : Option (Int × Int × (List (S47)) × Int × Bool × Bool) := (shutterref10_Copy.f b c h d e g).bind fun a => (shutterref13_Reset.l0 k a1 0 b c h d e g a.1 a.2.1 a.2.2.1 a.2.2.2.1 a.2.2.2.2.1 a.2.2.2.2.2)
theorem shutterref13_Reset.mono_l : ∀ k, (∀ f g i j l m n o p q a b c d, LeO (shutterref13_Reset.l0 k f g i j l m n o p q a b c d) (shutterref13_Reset.l0 (k + 1) f g i j l m n o p q a b c d))
 | 0 => fun _ _ _ _ _ _ _ _ _ _ _ _ _ _ r h => by simp [shutterref13_Reset.l0] at h
 | k + 1 => by
  have e := shutterref13_Reset.mono_l k
  ·intro f g i j l m n o p q a b c d
   unfold shutterref13_Reset.l0
   repeat' first
   | (with_reducible exact e _ _ _ _ _ _ _ _ _ _ _ _ _ _)
   | (with_reducible exact LeO.refl _)
   | (with_reducible exact LeO.none _)
   | (with_reducible refine LeO.ite ?_ ?_)
   | (with_reducible refine LeO.bind ?_ (fun _ => ?_))
   | exact e _ _ _ _ _ _ _ _ _ _ _ _ _ _
   | exact LeO.none _
   | refine LeO.ite ?_ ?_
   | refine LeO.bind ?_ (fun _ => ?_)
theorem shutterref13_Reset.mono : ∀ a0 a1 b c a4 d e k, LeO (shutterref13_Reset.f k a0 a1 b c a4 d e) (shutterref13_Reset.f (k + 1) a0 a1 b c a4 d e) := by
 intro a0 a1 b c a4 d e k
 have a := shutterref13_Reset.mono_l k
 unfold shutterref13_Reset.f
 repeat' first
   | (with_reducible exact a _ _ _ _ _ _ _ _ _ _ _ _ _ _)
   | (with_reducible exact LeO.refl _)
   | (with_reducible exact LeO.none _)
   | (with_reducible refine LeO.ite ?_ ?_)
   | (with_reducible refine LeO.bind ?_ (fun _ => ?_))
   | exact a _ _ _ _ _ _ _ _ _ _ _ _ _ _
   | exact LeO.none _
   | refine LeO.ite ?_ ?_
   | refine LeO.bind ?_ (fun _ => ?_)
theorem shutterref13_Reset.calls (k : Nat) (s u : Int) (aJ : Option Addr) (au : Nat) (c : List (S47)) (x : Int) (y z a1 : Bool) (r1 r2 : Int) (r3 : List (S47)) (r4 : Int) (r5 r6 : Bool) (w : World) (bc : Kd.C k47 w aJ c.length c) (a7 : c.length ≤ au) (h : shutterref13_Reset.f k s u c x y z a1 = some (r1, r2, r3, r4, r5, r6)) :
  Calls Tryz.prog 28 #[.agg #[.int .i64 s, .int .i64 u, .slice aJ c.length au, .int .i64 x, .bool y, .bool z], .bool a1] w fun e w' => ∃ ce : Value, e = .returned (.agg #[.int .i64 r1, .int .i64 r2, ce, .int .i64 r4, .bool r5, .bool r6]) ∧ Kd.R k47 47 w' w.heap.size (fun _ => True) ce r3 ∧ Below w.heap.size w w' := by
 have fN := Tryz.underlying24
 have ak := Z bc
 have b3 := Z a7
 clear bc a7
 have HB := Z (Below.refl w.heap.size w)
 unfold shutterref13_Reset.f at h
 have H := h
 clear h
 replace H := bn_ H
 obtain ⟨⟨E, F, aL, G, I, J⟩, A3, H⟩ := H
 try dsimp only at H
 have H' := Z H
 clear H
 go_enter Tryz.func28, Tryz.ntmps28
 go_wp2_with (first | ((with_reducible refine gD_ 2 rfl ?_); refine bx_ 2 24 #[.int .i64 s, .int .i64 u, .slice aJ c.length au, .int .i64 x, .bool y, .bool z] ?_; intro aF hg w4 hbox hb; have d := Z hbox; have eV := ln' w hg; replace HB := bs_ hb; clear hb hbox hg) | ((with_reducible refine gD_ 4 rfl ?_); refine bx_ 4 24 zS_ ?_; intro V hg w5 hbox hb; have q := Z hbox; have eW := ln' w hg; replace HB := bs_ hb; have Y := nl' d hg; replace d := kb' d hb; clear hb hbox hg; have fL := ns_ Y; have bI := cells6 d.out) | ((with_reducible refine gF_ 27 rfl ?_); refine gd_ (some 8) Tryz.func27 (shutterref10_Copy.calls s u _ _ c x y z E F aL G I J _ (cB_ ak HB) b3.out A3.out) ?_; rintro e w8 ⟨fO, rfl, ca, hb⟩; refine ⟨_, rfl, ?_⟩; have aE := Z (Kd.R_lower ca (below_size bl_)); replace d := kb' d hb; replace q := kb' q hb; replace HB := bs_ hb; (try clear hb); (try clear ca)) | ((with_reducible refine gD_ 5 rfl ?_); refine bx_ 5 24 zS_ ?_; intro ad hg w9 hbox hb; replace aE := rb' aE hb; have D := Z hbox; have eX := ln' w hg; replace HB := bs_ hb; have T := nl' d hg; replace d := kb' d hb; have U := nl' q hg; replace q := kb' q hb; clear hb hbox hg; have e0 := ns_ T; have e1 := ns_ U; have bd := cells6 D.out; obtain ⟨bp, bx, cl⟩ := Kd.R_slice aE.out; subst cl))
 go_loopg [6] k (fun kq v6 w' => ∃ (b : Int) (a : List (S47)) (GD : Value), v6 = .int .i64 b ∧ Aside0 (shutterref13_Reset.l0 kq a1 b s u c x y z E F a G I J = some (r1, r2, r3, r4, r5, r6)) ∧ Aside0 (kq ≤ k) ∧ Aside0 (Kd.R k47 47 w' w.heap.size (fun _ => True) GD a) ∧ Aside0 (w'.heap[aF]? = some (.cells #[.int .i64 s, .int .i64 u, (.slice aJ c.length au), .int .i64 x, .bool y, .bool z] 24 (0, 0))) ∧ Aside0 (w'.heap[V]? = some (.cells zS_ 24 (0, 0))) ∧ Aside0 (w'.heap[ad]? = some (.cells #[.int .i64 E, .int .i64 F, GD, .int .i64 G, .bool I, .bool J] 24 (0, 0))) ∧ Aside0 (Below w.heap.size w w'))
 case atStart => exact ⟨(0), (aL), (.slice bp aL.length bx), (dn_), H', ⟨Nat.le_refl _⟩, ⟨by (with_reducible repeat apply pR); exact Kd.R_mono (f6R ad (Kd.R_types aE.out D.out (by decide)) im_) im_⟩, ⟨blk_off d.out T.out off2_⟩, ⟨blk_off q.out U.out off2_⟩, ⟨put6 D.out⟩, ⟨bl_⟩⟩
 case round =>
  clear H'
  try clear bd
  try clear bI
  obtain ⟨b, a, GD, rfl, HA, aI, GC, d, q, D, HB⟩ := hrel
  cases gk with
  | zero => exact absurd HA.out (by simp [shutterref13_Reset.l0])
  | succ k1 =>
   have H := HA.out
   clear HA
   simp only [shutterref13_Reset.l0] at H
   by_cases aM : b < (a.length : Int)
   rotate_left
   ·rw [if_neg aM] at H
    have b6 := decide_eq_false aM
    clear aM
    obtain ⟨rfl, rfl, rfl, rfl, rfl, rfl⟩ := ij6_ H
    have fe := ns_ T
    have ff := ns_ U
    have dj := cells6 D.out
    obtain ⟨bq, bz, cq⟩ := Kd.R_slice GC.out
    subst cq
    have fg := ns_ Y
    have dq := cells6 q.out
    go_wp2
    refine rc1_ (put6 q.out) Tryz.underlying24 ?_
    exact ⟨_, er_, by (with_reducible repeat apply pR); exact Kd.R_mono (f6R V (Kd.R_types GC.out q.out (by decide)) im_) im_, bl_⟩
   rw [if_pos aM] at H
   have b6 := decide_eq_true aM
   clear aM
   obtain ⟨a2, H⟩ := gt_ H
   have eY := decide_eq_true a2
   clear a2
   obtain ⟨a3, H⟩ := gt_ H
   have eZ := decide_eq_true a3
   clear a3
   obtain ⟨GA, aQ⟩ : ∃ b_ : Bool, b_ = ((rd_T47 c b).f0) := ⟨_, rfl⟩
   replace H : (if GA = true then (if a1 = true then (shutterref13_Reset.l0 k1 a1 (wrap64 (b + 1)) s u c x y z E F (a.set (b : Int).toNat (⟨(rd_T47 a b).f0, (⟨(rd_T47 a b).f1.f0, (rd_T47 a b).f1.f1, (rd_T47 a b).f1.f2, false⟩ : S45), (rd_T47 a b).f2⟩ : S47)) G I J) else (if ((rd_T47 c b).f1.f0 = true) then (shutterref13_Reset.l0 k1 a1 (wrap64 (b + 1)) s u c x y z E F a G I J) else (shutterref13_Reset.l0 k1 a1 (wrap64 (b + 1)) s u c x y z E F (a.set (b : Int).toNat (⟨(rd_T47 a b).f0, (⟨(rd_T47 a b).f1.f0, (rd_T47 a b).f1.f1, (rd_T47 a b).f1.f2, false⟩ : S45), (rd_T47 a b).f2⟩ : S47)) G I J))) else (shutterref13_Reset.l0 k1 a1 (wrap64 (b + 1)) s u c x y z E F a G I J)) = some (r1, r2, r3, r4, r5, r6) := by rw [← aQ] at H; exact H
   have r := Z aQ
   clear aQ
   cases GA
   ·rw [iF_] at H
    have H' := Z H
    clear H
    have GB := ns_ T
    have fc := ns_ U
    have c7 := cells6 D.out
    obtain ⟨cg, ck, cp⟩ := Kd.R_slice GC.out
    subst cp
    have fd := ns_ Y
    have dd := cells6 d.out
    have W : 0 ≤ (b : Int) := od_
    have X : b < (c.length : Int) := od_
    obtain ⟨al, av, i, l, m, A, n, B⟩ := at_T47 ak.out b W X
    (try rw [← r.out] at i)
    (try rw [← r.out] at l)
    (try rw [← r.out] at m)
    (try rw [← r.out] at n)
    cases av
    replace i := hc_ HB i
    replace l := hc_ HB l
    replace m := hc_ HB m
    replace A := hc_ HB A
    replace n := hc_ HB n
    replace B := hc_ HB B
    replace W := eq_true W
    replace X := eq_true X
    go_wp2
    go_roundg k1
    case measure => have := aI.out; omega
    case rel => exact ⟨(wrap64 (b + 1)), (a), (.slice cg a.length ck), (dn_), H', ⟨by have := aI.out; omega⟩, ⟨vR_ GC.out⟩, ⟨vK d.out⟩, ⟨vK q.out⟩, ⟨vK D.out⟩, ⟨bl_⟩⟩
   rw [if_pos rfl] at H
   by_cases a5 : a1 = true
   ·subst a5
    rw [if_pos rfl] at H
    obtain ⟨aZ, aG⟩ : ∃ y_ : List (S47), y_ = (a.set (b : Int).toNat (⟨(rd_T47 a b).f0, (⟨(rd_T47 a b).f1.f0, (rd_T47 a b).f1.f1, (rd_T47 a b).f1.f2, false⟩ : S45), (rd_T47 a b).f2⟩ : S47)) := ⟨_, rfl⟩
    rw [← aG] at H
    try replace H := sb_ H
    have b4 := Z aG
    clear aG
    have H' := Z H
    clear H
    have e2 := ns_ T
    have e3 := ns_ U
    have cu := cells6 D.out
    obtain ⟨fz, aO, cm⟩ := Kd.R_slice GC.out
    subst cm
    have e4 := ns_ Y
    have cA := cells6 d.out
    have W : 0 ≤ (b : Int) := od_
    have X : b < (c.length : Int) := od_
    obtain ⟨al, av, i, l, m, A, n, B⟩ := at_T47 ak.out b W X
    (try rw [← r.out] at i)
    (try rw [← r.out] at l)
    (try rw [← r.out] at m)
    (try rw [← r.out] at n)
    cases av
    replace i := hc_ HB i
    replace l := hc_ HB l
    replace m := hc_ HB m
    replace A := hc_ HB A
    replace n := hc_ HB n
    replace B := hc_ HB B
    replace W := eq_true W
    replace X := eq_true X
    have bZ : 0 ≤ (b : Int) := od_
    have b0 : (b : Int) < ((a.length : Int) : Int) := od_
    obtain ⟨Q, fJ, bA, bC, cr, fH, br⟩ := Kd.R_form GC.out (by omega)
    (first | cases bA | (injection bA with ea_ en_ ec_; (first | subst ea_ | (injection ea_ with ea_; subst ea_)); subst ec_; clear en_))
    have ch := Z bC
    have fB := Z br
    clear bC cr br
    obtain ⟨fD, b7, bE, am, ao⟩ := Kd.R_elem GC.out z47 (b : Int) bZ b0
    obtain rfl := k47_openM bE
    have eG := ce_ am
    have eu := cf_ ao
    clear b7 am ao bE
    replace bZ := eq_true bZ
    replace b0 := eq_true b0
    have bt := Z (show Kd.R k47 47 wr w.heap.size (fun _ => True) (.slice (some ⟨Q, 0, none⟩) a.length aO) a from (by (with_reducible repeat apply pR); exact GC.out))
    obtain ⟨fE, a8, bF, aS, ba⟩ := Kd.R_elem bt.out z47 (b : Int) (od_) (by have h_ : (b : Int) < ((a.length : Int) : Int) := od_; first | exact h_ | (have e_ := (Kd.R_reads' GC.out).1; omega) | simpa using h_)
    obtain rfl := k47_openM bF
    have aW := Kd.R_seg bt.out (b : Int) (od_) (by have h_ : (b : Int) < ((a.length : Int) : Int) := od_; first | exact h_ | (have e_ := (Kd.R_reads' GC.out).1; omega) | simpa using h_) (seg := [.bool false]) (j := 4) a8 aS (show 5 ≤ 6 from by decide) (x' := (⟨(rd_T47 a b).f0, (⟨(rd_T47 a b).f1.f0, (rd_T47 a b).f1.f1, (rd_T47 a b).f1.f2, false⟩ : S45), (rd_T47 a b).f2⟩ : S47)) (k47_mkM _ _ _ (⟨(rd_T47 a b).f0, (⟨(rd_T47 a b).f1.f0, (rd_T47 a b).f1.f1, (rd_T47 a b).f1.f2, false⟩ : S45), (rd_T47 a b).f2⟩ : S47) ) (fun _ hk => hk)
    have bW := aS 4 _ rfl
    (try simp only [show (k47).sz = 6 from rfl, Nat.mul_one, Nat.add_zero] at bW)
    have bO := ba 4
    (try simp only [show (k47).sz = 6 from rfl, Nat.mul_one, Nat.add_zero] at bO)
    clear a8 aS ba bF
    go_wp2_with (first | ((with_reducible refine gate_store (t := 4) (p := 40) rfl ?_); refine sx_ 4 40 (wr.setCell ⟨Q, (b : Int).toNat * 6 + 4, none⟩ (.bool false)) ?_; intro b1 hw; have hg : wr.grownBy b1 (some Q) := (by rw [hw]; exact aW.2); have hp_ : Kd.R k47 47 b1 w.heap.size (fun _ => True) (.slice (some ⟨Q, 0, none⟩) a.length aO) aZ := (by rw [hw, b4.out]; exact aW.1); clear aW; replace d := gw_ ⟨vK d.out⟩ hg (Kd.R_ne GC.out d.out (by decide)); replace q := gw_ ⟨vK q.out⟩ hg (Kd.R_ne GC.out q.out (by decide)); replace D := gw_ ⟨vK D.out⟩ hg (Kd.R_ne GC.out D.out (by decide)); replace GC := Z (hp_); replace HB := Z ((by rw [hw]; exact below_set (HB.out) ch.out : Below w.heap.size w b1)); clear hg hw hp_))
    go_roundg k1
    case measure => have := aI.out; omega
    case rel => exact ⟨(wrap64 (b + 1)), (aZ), (.slice (some ⟨Q, 0, none⟩) a.length aO), (dn_), H', ⟨by have := aI.out; omega⟩, ⟨vR_ GC.out⟩, ⟨vK d.out⟩, ⟨vK q.out⟩, ⟨vK D.out⟩, ⟨bl_⟩⟩
   replace a5 := Bool.eq_false_iff.mpr a5
   subst a5
   rw [iF_] at H
   obtain ⟨bw, aR⟩ : ∃ b_ : Bool, b_ = ((rd_T47 c b).f1.f0) := ⟨_, rfl⟩
   replace H : (if (bw = true) then (shutterref13_Reset.l0 k1 false (wrap64 (b + 1)) s u c x y z E F a G I J) else (shutterref13_Reset.l0 k1 false (wrap64 (b + 1)) s u c x y z E F (a.set (b : Int).toNat (⟨(rd_T47 a b).f0, (⟨(rd_T47 a b).f1.f0, (rd_T47 a b).f1.f1, (rd_T47 a b).f1.f2, false⟩ : S45), (rd_T47 a b).f2⟩ : S47)) G I J)) = some (r1, r2, r3, r4, r5, r6) := by rw [← aR] at H; exact H
   have K := Z aR
   clear aR
   by_cases a6 : (bw = true)
   ·subst a6
    rw [if_pos rfl] at H
    have H' := Z H
    clear H
    have e5 := ns_ T
    have e6 := ns_ U
    have cG := cells6 D.out
    obtain ⟨cf, cj, cn⟩ := Kd.R_slice GC.out
    subst cn
    have e7 := ns_ Y
    have cM := cells6 d.out
    have W : 0 ≤ (b : Int) := od_
    have X : b < (c.length : Int) := od_
    obtain ⟨al, av, i, l, m, A, n, B⟩ := at_T47 ak.out b W X
    (try rw [← r.out] at i)
    (try rw [← K.out] at i)
    (try rw [← r.out] at l)
    (try rw [← K.out] at l)
    (try rw [← r.out] at m)
    (try rw [← K.out] at m)
    (try rw [← r.out] at n)
    (try rw [← K.out] at n)
    cases av
    replace i := hc_ HB i
    replace l := hc_ HB l
    replace m := hc_ HB m
    replace A := hc_ HB A
    replace n := hc_ HB n
    replace B := hc_ HB B
    replace W := eq_true W
    replace X := eq_true X
    have aw : 0 ≤ (b : Int) := od_
    have ax : b < (c.length : Int) := od_
    obtain ⟨aN, aY, L, M, O, ae, P, af⟩ := at_T47 ak.out b aw ax
    (try rw [← r.out] at L)
    (try rw [← K.out] at L)
    (try rw [← r.out] at M)
    (try rw [← K.out] at M)
    (try rw [← r.out] at O)
    (try rw [← K.out] at O)
    (try rw [← r.out] at P)
    (try rw [← K.out] at P)
    obtain rfl : al = aN := (by injection aY)
    replace L := hc_ HB L
    replace M := hc_ HB M
    replace O := hc_ HB O
    replace ae := hc_ HB ae
    replace P := hc_ HB P
    replace af := hc_ HB af
    replace aw := eq_true aw
    replace ax := eq_true ax
    go_wp2
    go_roundg k1
    case measure => have := aI.out; omega
    case rel => exact ⟨(wrap64 (b + 1)), (a), (.slice cf a.length cj), (dn_), H', ⟨by have := aI.out; omega⟩, ⟨vR_ GC.out⟩, ⟨vK d.out⟩, ⟨vK q.out⟩, ⟨vK D.out⟩, ⟨bl_⟩⟩
   replace a6 := Bool.eq_false_iff.mpr a6
   subst a6
   rw [iF_] at H
   obtain ⟨a0, aH⟩ : ∃ y_ : List (S47), y_ = (a.set (b : Int).toNat (⟨(rd_T47 a b).f0, (⟨(rd_T47 a b).f1.f0, (rd_T47 a b).f1.f1, (rd_T47 a b).f1.f2, false⟩ : S45), (rd_T47 a b).f2⟩ : S47)) := ⟨_, rfl⟩
   rw [← aH] at H
   try replace H := sb_ H
   have b5 := Z aH
   clear aH
   have H' := Z H
   clear H
   have e8 := ns_ T
   have e9 := ns_ U
   have cS := cells6 D.out
   obtain ⟨fA, aP, co⟩ := Kd.R_slice GC.out
   subst co
   have fa := ns_ Y
   have cY := cells6 d.out
   have W : 0 ≤ (b : Int) := od_
   have X : b < (c.length : Int) := od_
   obtain ⟨al, av, i, l, m, A, n, B⟩ := at_T47 ak.out b W X
   (try rw [← r.out] at i)
   (try rw [← K.out] at i)
   (try rw [← r.out] at l)
   (try rw [← K.out] at l)
   (try rw [← r.out] at m)
   (try rw [← K.out] at m)
   (try rw [← r.out] at n)
   (try rw [← K.out] at n)
   cases av
   replace i := hc_ HB i
   replace l := hc_ HB l
   replace m := hc_ HB m
   replace A := hc_ HB A
   replace n := hc_ HB n
   replace B := hc_ HB B
   replace W := eq_true W
   replace X := eq_true X
   have aw : 0 ≤ (b : Int) := od_
   have ax : b < (c.length : Int) := od_
   obtain ⟨aN, aY, L, M, O, ae, P, af⟩ := at_T47 ak.out b aw ax
   (try rw [← r.out] at L)
   (try rw [← K.out] at L)
   (try rw [← r.out] at M)
   (try rw [← K.out] at M)
   (try rw [← r.out] at O)
   (try rw [← K.out] at O)
   (try rw [← r.out] at P)
   (try rw [← K.out] at P)
   obtain rfl : al = aN := (by injection aY)
   replace L := hc_ HB L
   replace M := hc_ HB M
   replace O := hc_ HB O
   replace ae := hc_ HB ae
   replace P := hc_ HB P
   replace af := hc_ HB af
   replace aw := eq_true aw
   replace ax := eq_true ax
   have p37 : 0 ≤ (b : Int) := od_
   have q37 : (b : Int) < ((a.length : Int) : Int) := od_
   obtain ⟨S, fK, bB, bD, ct, fI, bs⟩ := Kd.R_form GC.out (by omega)
   (first | cases bB | (injection bB with ea_ en_ ec_; (first | subst ea_ | (injection ea_ with ea_; subst ea_)); subst ec_; clear en_))
   have ci := Z bD
   have fC := Z bs
   clear bD ct bs
   obtain ⟨fF, b8, bG, an, ap⟩ := Kd.R_elem GC.out z47 (b : Int) p37 q37
   obtain rfl := k47_openM bG
   have eM := ce_ an
   have eA := cf_ ap
   clear b8 an ap bG
   replace p37 := eq_true p37
   replace q37 := eq_true q37
   have bu := Z (show Kd.R k47 47 wr w.heap.size (fun _ => True) (.slice (some ⟨S, 0, none⟩) a.length aP) a from (by (with_reducible repeat apply pR); exact GC.out))
   obtain ⟨fG, a9, bH, aT, bb⟩ := Kd.R_elem bu.out z47 (b : Int) (od_) (by have h_ : (b : Int) < ((a.length : Int) : Int) := od_; first | exact h_ | (have e_ := (Kd.R_reads' GC.out).1; omega) | simpa using h_)
   obtain rfl := k47_openM bH
   have aX := Kd.R_seg bu.out (b : Int) (od_) (by have h_ : (b : Int) < ((a.length : Int) : Int) := od_; first | exact h_ | (have e_ := (Kd.R_reads' GC.out).1; omega) | simpa using h_) (seg := [.bool false]) (j := 4) a9 aT (show 5 ≤ 6 from by decide) (x' := (⟨(rd_T47 a b).f0, (⟨(rd_T47 a b).f1.f0, (rd_T47 a b).f1.f1, (rd_T47 a b).f1.f2, false⟩ : S45), (rd_T47 a b).f2⟩ : S47)) (k47_mkM _ _ _ (⟨(rd_T47 a b).f0, (⟨(rd_T47 a b).f1.f0, (rd_T47 a b).f1.f1, (rd_T47 a b).f1.f2, false⟩ : S45), (rd_T47 a b).f2⟩ : S47) ) (fun _ hk => hk)
   have bX := aT 4 _ rfl
   (try simp only [show (k47).sz = 6 from rfl, Nat.mul_one, Nat.add_zero] at bX)
   have bP := bb 4
   (try simp only [show (k47).sz = 6 from rfl, Nat.mul_one, Nat.add_zero] at bP)
   clear a9 aT bb bH
   go_wp2_with (first | ((with_reducible refine gate_store (t := 4) (p := 40) rfl ?_); refine sx_ 4 40 (wr.setCell ⟨S, (b : Int).toNat * 6 + 4, none⟩ (.bool false)) ?_; intro b2 hw; have hg : wr.grownBy b2 (some S) := (by rw [hw]; exact aX.2); have hp_ : Kd.R k47 47 b2 w.heap.size (fun _ => True) (.slice (some ⟨S, 0, none⟩) a.length aP) a0 := (by rw [hw, b5.out]; exact aX.1); clear aX; replace d := gw_ ⟨vK d.out⟩ hg (Kd.R_ne GC.out d.out (by decide)); replace q := gw_ ⟨vK q.out⟩ hg (Kd.R_ne GC.out q.out (by decide)); replace D := gw_ ⟨vK D.out⟩ hg (Kd.R_ne GC.out D.out (by decide)); replace GC := Z (hp_); replace HB := Z ((by rw [hw]; exact below_set (HB.out) ci.out : Below w.heap.size w b2)); clear hg hw hp_))
   go_roundg k1
   case measure => have := aI.out; omega
   case rel => exact ⟨(wrap64 (b + 1)), (a0), (.slice (some ⟨S, 0, none⟩) a.length aP), (dn_), H', ⟨by have := aI.out; omega⟩, ⟨vR_ GC.out⟩, ⟨vK d.out⟩, ⟨vK q.out⟩, ⟨vK D.out⟩, ⟨bl_⟩⟩

/-! ### shutterref11_mod: function 54 -/
def shutterref11_mod.l0 : Nat → Int → Int → Option (Int)
 | 0, _, _ => none
 | k + 1, b, a => if b < 0 then (shutterref11_mod.l0 k (wrap64 (b + a)) a) else (if a = 0 then (none) else (some (Int.tmod b a)))
def shutterref11_mod.f (k : Nat) (a0 a1 : Int) : Option (Int) := shutterref11_mod.l0 k a0 a1
theorem shutterref11_mod.mono_l : ∀ k, (∀ b c, LeO (shutterref11_mod.l0 k b c) (shutterref11_mod.l0 (k + 1) b c))
 | 0 => fun _ _ r h => by simp [shutterref11_mod.l0] at h
 | k + 1 => by
  have a := shutterref11_mod.mono_l k
  ·intro b c
   unfold shutterref11_mod.l0
   repeat' first
   | (with_reducible exact a _ _)
   | (with_reducible exact LeO.refl _)
   | (with_reducible exact LeO.none _)
   | (with_reducible refine LeO.ite ?_ ?_)
   | (with_reducible refine LeO.bind ?_ (fun _ => ?_))
   | exact a _ _
   | exact LeO.none _
   | refine LeO.ite ?_ ?_
   | refine LeO.bind ?_ (fun _ => ?_)
theorem shutterref11_mod.mono : ∀ a0 a1 k, LeO (shutterref11_mod.f k a0 a1) (shutterref11_mod.f (k + 1) a0 a1) := by
 intro a0 a1 k
 have a := shutterref11_mod.mono_l k
 unfold shutterref11_mod.f
 repeat' first
   | (with_reducible exact a _ _)
   | (with_reducible exact LeO.refl _)
   | (with_reducible exact LeO.none _)
   | (with_reducible refine LeO.ite ?_ ?_)
   | (with_reducible refine LeO.bind ?_ (fun _ => ?_))
   | exact a _ _
   | exact LeO.none _
   | refine LeO.ite ?_ ?_
   | refine LeO.bind ?_ (fun _ => ?_)
theorem shutterref11_mod.calls (k : Nat) (a0 a1 r : Int) (w : World) (h : shutterref11_mod.f k a0 a1 = some r) :
  Calls Tryz.prog 54 #[.int .i64 a0, .int .i64 a1] w fun e w' => e = .returned (.int .i64 r) ∧ Drawn0 w w' := by
 unfold shutterref11_mod.f at h
 have H := h
 clear h
 have H' := Z H
 clear H
 go_enter Tryz.func54, Tryz.ntmps54
 go_wp2
 go_loopg [0] k (fun kq i w' => ∃ (a : Int), i = .int .i64 a ∧ Aside0 (shutterref11_mod.l0 kq a a1 = some r) ∧ Aside0 (kq ≤ k) ∧ Drawn0 w w')
 case atStart => exact ⟨(a0), (dn_), H', ⟨Nat.le_refl _⟩, dr_⟩
 case round =>
  clear H'
  obtain ⟨a, rfl, HA, b, ⟨j, rfl⟩⟩ := hrel
  cases gk with
  | zero => exact absurd HA.out (by simp [shutterref11_mod.l0])
  | succ k1 =>
   have H := HA.out
   clear HA
   simp only [shutterref11_mod.l0] at H
   by_cases c3 : a < 0
   ·rw [if_pos c3] at H
    have c := decide_eq_true c3
    clear c3
    have H' := Z H
    clear H
    go_wp2
    go_roundg k1
    case measure => have := b.out; omega
    case rel => exact ⟨(wrap64 (a + a1)), (dn_), H', ⟨by have := b.out; omega⟩, dr_⟩
   rw [if_neg c3] at H
   have c := decide_eq_false c3
   clear c3
   obtain ⟨c4, H⟩ := gf_ H
   obtain ⟨d, g⟩ := eF_ c4
   obtain rfl := Option.some.inj H
   go_wp2
   go_ret
   exact ⟨dn_, dr_⟩

/-! ### shutterref11_Begin: function 77 -/
def shutterref11_Begin.l0 : Nat → Int → Int → Int → Int → List (S47) → Int → Bool → Bool → Option (Int)
 | 0, _, _, _, _, _, _, _, _ => none
 | k + 1, j, i, c, d, a, e, g, h => if i < (a.length : Int) then ((shutterref11_mod.f k (wrap64 (j - i)) (a.length : Int)).bind fun b => (if 0 ≤ b then (if b < (a.length : Int) then (if (rd_T47 a b).f0 = true then (some b) else (shutterref11_Begin.l0 k j (wrap64 (i + 1)) c d a e g h)) else (none)) else (none))) else (some (-1))
def shutterref11_Begin.f (k : Nat) (a b : Int) (g : List (S47)) (c : Int) (d e : Bool) (a1 : Int) : Option (Int) := shutterref11_Begin.l0 k a1 0 a b g c d e
theorem shutterref11_Begin.mono_l : ∀ k, (∀ b c d e f g i j, LeO (shutterref11_Begin.l0 k b c d e f g i j) (shutterref11_Begin.l0 (k + 1) b c d e f g i j))
 | 0 => fun _ _ _ _ _ _ _ _ r h => by simp [shutterref11_Begin.l0] at h
 | k + 1 => by
  have a := shutterref11_Begin.mono_l k
  ·intro b c d e f g i j
   unfold shutterref11_Begin.l0
   repeat' first
   | (with_reducible exact a _ _ _ _ _ _ _ _)
   | (with_reducible exact shutterref11_mod.mono _ _ _)
   | (with_reducible exact LeO.refl _)
   | (with_reducible exact LeO.none _)
   | (with_reducible refine LeO.ite ?_ ?_)
   | (with_reducible refine LeO.bind ?_ (fun _ => ?_))
   | exact a _ _ _ _ _ _ _ _
   | exact shutterref11_mod.mono _ _ _
   | exact LeO.none _
   | refine LeO.ite ?_ ?_
   | refine LeO.bind ?_ (fun _ => ?_)
theorem shutterref11_Begin.mono : ∀ a0 a1 b c a4 d e k, LeO (shutterref11_Begin.f k a0 a1 b c a4 d e) (shutterref11_Begin.f (k + 1) a0 a1 b c a4 d e) := by
 intro a0 a1 b c a4 d e k
 have a := shutterref11_Begin.mono_l k
 unfold shutterref11_Begin.f
 repeat' first
   | (with_reducible exact a _ _ _ _ _ _ _ _)
   | (with_reducible exact shutterref11_mod.mono _ _ _)
   | (with_reducible exact LeO.refl _)
   | (with_reducible exact LeO.none _)
   | (with_reducible refine LeO.ite ?_ ?_)
   | (with_reducible refine LeO.bind ?_ (fun _ => ?_))
   | exact a _ _ _ _ _ _ _ _
   | exact shutterref11_mod.mono _ _ _
   | exact LeO.none _
   | refine LeO.ite ?_ ?_
   | refine LeO.bind ?_ (fun _ => ?_)
theorem shutterref11_Begin.calls (k : Nat) (n o : Int) (z : Option Addr) (A : Nat) (a : List (S47)) (p : Int) (q s : Bool) (a1 r : Int) (w : World) (I : Kd.C k47 w z a.length a) (G : a.length ≤ A) (h : shutterref11_Begin.f k n o a p q s a1 = some r) :
  Calls Tryz.prog 77 #[.agg #[.int .i64 n, .int .i64 o, .slice z a.length A, .int .i64 p, .bool q, .bool s], .int .i64 a1] w fun e w' => e = .returned (.int .i64 r) ∧ Below w.heap.size w w' := by
 have aM := Tryz.underlying24
 have F := Z I
 have aJ := Z G
 clear I G
 have HB := Z (Below.refl w.heap.size w)
 unfold shutterref11_Begin.f at h
 have H := h
 clear h
 have H' := Z H
 clear H
 go_enter Tryz.func77, Tryz.ntmps77
 go_wp2_with (first | ((with_reducible refine gD_ 2 rfl ?_); refine bx_ 2 24 #[.int .i64 n, .int .i64 o, .slice z a.length A, .int .i64 p, .bool q, .bool s] ?_; intro B hg w3 hbox hb; have v := Z hbox; have aI := ln' w hg; replace HB := bs_ hb; clear hb hbox hg))
 go_loopg [5] k (fun kq v5 w' => ∃ (j : Int), v5 = .int .i64 j ∧ Aside0 (shutterref11_Begin.l0 kq a1 j n o a p q s = some r) ∧ Aside0 (kq ≤ k) ∧ Aside0 (w'.heap[B]? = some (.cells #[.int .i64 n, .int .i64 o, (.slice z a.length A), .int .i64 p, .bool q, .bool s] 24 (0, 0))) ∧ Aside0 (Below w.heap.size w w'))
 case atStart => exact ⟨(0), (dn_), H', ⟨Nat.le_refl _⟩, ⟨vK v.out⟩, ⟨bl_⟩⟩
 case round =>
  clear H'
  obtain ⟨j, rfl, HA, L, v, HB⟩ := hrel
  cases gk with
  | zero => exact absurd HA.out (by simp [shutterref11_Begin.l0])
  | succ k1 =>
   have H := HA.out
   clear HA
   simp only [shutterref11_Begin.l0] at H
   by_cases c4 : j < (a.length : Int)
   rotate_left
   ·rw [if_neg c4] at H
    have S := decide_eq_false c4
    clear c4
    obtain rfl := Option.some.inj H
    have ag := cells6 v.out
    go_wp2
    go_ret
    exact ⟨er_, bl_⟩
   rw [if_pos c4] at H
   have S := decide_eq_true c4
   clear c4
   replace H := bn_ H
   obtain ⟨b, A5, H⟩ := H
   obtain ⟨c6, H⟩ := gt_ H
   have aK := decide_eq_true c6
   clear c6
   obtain ⟨c7, H⟩ := gt_ H
   have aL := decide_eq_true c7
   clear c7
   obtain ⟨M, E⟩ : ∃ b_ : Bool, b_ = ((rd_T47 a b).f0) := ⟨_, rfl⟩
   replace H : (if M = true then (some b) else (shutterref11_Begin.l0 k1 a1 (wrap64 (j + 1)) n o a p q s)) = some r := by rw [← E] at H; exact H
   have u := Z E
   clear E
   by_cases c9 : M = true
   ·subst c9
    rw [if_pos rfl] at H
    obtain rfl := Option.some.inj H
    have T := cells6 v.out
    go_wp2_with (first | ((with_reducible refine gF_ 54 rfl ?_); refine gd_ (some 20) Tryz.func54 (shutterref11_mod.calls k1 (wrap64 (a1 - j)) (a.length : Int) b _ A5.out) ?_; rintro e w' ⟨rfl, ⟨nd, rfl⟩⟩; refine ⟨_, rfl, ?_⟩; have x : 0 ≤ (b : Int) := od_; have y : b < (a.length : Int) := od_; obtain ⟨J, D, c, d, g, l, i, m⟩ := at_T47 F.out b x y; (try rw [← u.out] at c); (try rw [← u.out] at d); (try rw [← u.out] at g); (try rw [← u.out] at i); cases D; replace c := hc_ HB c; replace d := hc_ HB d; replace g := hc_ HB g; replace l := hc_ HB l; replace i := hc_ HB i; replace m := hc_ HB m; replace x := eq_true x; replace y := eq_true y))
    go_ret
    exact ⟨er_, bl_⟩
   replace c9 := Bool.eq_false_iff.mpr c9
   subst c9
   rw [iF_] at H
   have H' := Z H
   clear H
   have aa := cells6 v.out
   go_wp2_with (first | ((with_reducible refine gF_ 54 rfl ?_); refine gd_ (some 20) Tryz.func54 (shutterref11_mod.calls k1 (wrap64 (a1 - j)) (a.length : Int) b _ A5.out) ?_; rintro e w' ⟨rfl, ⟨nd, rfl⟩⟩; refine ⟨_, rfl, ?_⟩; have x : 0 ≤ (b : Int) := od_; have y : b < (a.length : Int) := od_; obtain ⟨J, D, c, d, g, l, i, m⟩ := at_T47 F.out b x y; (try rw [← u.out] at c); (try rw [← u.out] at d); (try rw [← u.out] at g); (try rw [← u.out] at i); cases D; replace c := hc_ HB c; replace d := hc_ HB d; replace g := hc_ HB g; replace l := hc_ HB l; replace i := hc_ HB i; replace m := hc_ HB m; replace x := eq_true x; replace y := eq_true y))
   go_roundg k1
   case measure => have := L.out; omega
   case rel => exact ⟨(wrap64 (j + 1)), (dn_), H', ⟨by have := L.out; omega⟩, ⟨vK v.out⟩, ⟨bl_⟩⟩

/-! ### shutterref11_Of: function 52 -/
def shutterref11_Of.f (k : Nat) (c d : Int) (b : List (S47)) (e : Int) (g h : Bool) (a1 : Int) : Option (Bool × Bool × Int × Bool) := (shutterref11_Begin.f k c d b e g h a1).bind fun a => (if a < 0 then (some (false, false, 0, false)) else (if 0 ≤ a then (if a < (b.length : Int) then (some ((rd_T47 b a).f1.f0, (rd_T47 b a).f1.f1, (rd_T47 b a).f1.f2, (rd_T47 b a).f1.f3)) else (none)) else (none)))
theorem shutterref11_Of.mono : ∀ a0 a1 a b a4 c d k, LeO (shutterref11_Of.f k a0 a1 a b a4 c d) (shutterref11_Of.f (k + 1) a0 a1 a b a4 c d) := by
 intro a0 a1 a b a4 c d k
 unfold shutterref11_Of.f
 repeat' first
   | (with_reducible exact shutterref11_Begin.mono _ _ _ _ _ _ _ _)
   | (with_reducible exact LeO.refl _)
   | (with_reducible exact LeO.none _)
   | (with_reducible refine LeO.ite ?_ ?_)
   | (with_reducible refine LeO.bind ?_ (fun _ => ?_))
   | exact shutterref11_Begin.mono _ _ _ _ _ _ _ _
   | exact LeO.none _
   | refine LeO.ite ?_ ?_
   | refine LeO.bind ?_ (fun _ => ?_)
theorem shutterref11_Of.calls (k : Nat) (l m : Int) (x : Option Addr) (y : Nat) (b : List (S47)) (n : Int) (o p : Bool) (a1 : Int) (X Y : Bool) (r3 : Int) (r4 : Bool) (w : World) (S : Kd.C k47 w x b.length b) (R : b.length ≤ y) (h : shutterref11_Of.f k l m b n o p a1 = some (X, Y, r3, r4)) :
  Calls Tryz.prog 52 #[.agg #[.int .i64 l, .int .i64 m, .slice x b.length y, .int .i64 n, .bool o, .bool p], .int .i64 a1] w fun e w' => e = .returned (.agg #[.bool X, .bool Y, .int .i64 r3, .bool r4]) ∧ Below w.heap.size w w' := by
 have bh := Tryz.underlying24
 have bi := Tryz.underlying45
 have G := Z S
 have O := Z R
 clear S R
 have HB := Z (Below.refl w.heap.size w)
 unfold shutterref11_Of.f at h
 have H := h
 clear h
 replace H := bn_ H
 obtain ⟨a, A3, H⟩ := H
 by_cases c4 : a < 0
 ·rw [if_pos c4] at H
  have ad := decide_eq_true c4
  clear c4
  obtain ⟨rfl, rfl, rfl, rfl⟩ := ij4_ H
  go_enter Tryz.func52, Tryz.ntmps52
  go_wp2_with (first | ((with_reducible refine gD_ 2 rfl ?_); refine bx_ 2 24 #[.int .i64 l, .int .i64 m, .slice x b.length y, .int .i64 n, .bool o, .bool p] ?_; intro v hg w5 hbox hb; have c := Z hbox; have V := ln' w hg; replace HB := bs_ hb; clear hb hbox hg) | ((with_reducible refine gD_ 4 rfl ?_); refine bx_ 4 45 #[.bool false, .bool false, .int .i64 0, .bool false] ?_; intro q hg w6 hbox hb; have d := Z hbox; have W := ln' w hg; replace HB := bs_ hb; have r := nl' c hg; replace c := kb' c hb; clear hb hbox hg; have bf := ns_ r; have aX := cells6 c.out) | ((with_reducible refine gF_ 77 rfl ?_); refine gd_ (some 8) Tryz.func77 (shutterref11_Begin.calls k l m _ _ b n o p a1 a _ (cB_ G HB) O.out A3.out) ?_; rintro e w9 ⟨rfl, hb⟩; refine ⟨_, rfl, ?_⟩; replace c := kb' c hb; replace d := kb' d hb; replace HB := bs_ hb; (try clear hb); have af := cells4 d.out))
  refine bodyPost_ret (results_cell_row rfl _ _ q 45 #[.bool false, .bool false, .int .i64 0, .bool false] (0, 0) _ rfl (by (with_reducible repeat apply pK); refine blk_put (cs := #[.bool false, .bool false, .int .i64 0, .bool false]) ?_ 3 _ rfl; (with_reducible repeat apply pK); refine blk_put (cs := #[.bool false, .bool false, .int .i64 0, .bool false]) ?_ 2 _ rfl; (with_reducible repeat apply pK); refine blk_put (cs := #[.bool false, .bool false, .int .i64 0, .bool false]) ?_ 1 _ rfl; (with_reducible repeat apply pK); refine blk_put (cs := #[.bool false, .bool false, .int .i64 0, .bool false]) ?_ 0 _ rfl; (with_reducible repeat apply pK); exact d.out) Tryz.underlying45 rfl (by kernel_rfl)) rfl ?_
  exact ⟨er_, bl_⟩
 rw [if_neg c4] at H
 have ad := decide_eq_false c4
 clear c4
 by_cases P : 0 ≤ a
 ·rw [if_pos P] at H
  have bb := decide_eq_true P
  clear P
  by_cases Q : a < (b.length : Int)
  ·rw [if_pos Q] at H
   have bc := decide_eq_true Q
   clear Q
   obtain ⟨rfl, rfl, rfl, rfl⟩ := ij4_ H
   go_enter Tryz.func52, Tryz.ntmps52
   go_wp2_with (first | ((with_reducible refine gD_ 2 rfl ?_); refine bx_ 2 24 #[.int .i64 l, .int .i64 m, .slice x b.length y, .int .i64 n, .bool o, .bool p] ?_; intro v hg bj hbox hb; have c := Z hbox; have V := ln' w hg; replace HB := bs_ hb; clear hb hbox hg) | ((with_reducible refine gD_ 4 rfl ?_); refine bx_ 4 45 #[.bool false, .bool false, .int .i64 0, .bool false] ?_; intro q hg bk hbox hb; have d := Z hbox; have W := ln' w hg; replace HB := bs_ hb; have r := nl' c hg; replace c := kb' c hb; clear hb hbox hg; have bd := ns_ r; have aj := cells6 c.out) | ((with_reducible refine gF_ 77 rfl ?_); refine gd_ (some 8) Tryz.func77 (shutterref11_Begin.calls k l m _ _ b n o p a1 a _ (cB_ G HB) O.out A3.out) ?_; rintro e bl ⟨rfl, hb⟩; refine ⟨_, rfl, ?_⟩; replace c := kb' c hb; replace d := kb' d hb; replace HB := bs_ hb; (try clear hb); have ap := cells6 c.out; have L : 0 ≤ (a : Int) := od_; have M : a < (b.length : Int) := od_; obtain ⟨ba, ae, z, A, B, D, E, F⟩ := at_T47 G.out a L M; cases ae; replace z := hc_ HB z; replace A := hc_ HB A; replace B := hc_ HB B; replace D := hc_ HB D; replace E := hc_ HB E; replace F := hc_ HB F; replace L := eq_true L; replace M := eq_true M; have ax := cells4 d.out))
   refine bodyPost_ret (results_cell_row rfl _ _ q 45 #[.bool ((rd_T47 b a).f1.f0), .bool ((rd_T47 b a).f1.f1), .int .i64 ((rd_T47 b a).f1.f2), .bool ((rd_T47 b a).f1.f3)] (0, 0) _ rfl (by (with_reducible repeat apply pK); refine blk_put (cs := #[.bool ((rd_T47 b a).f1.f0), .bool ((rd_T47 b a).f1.f1), .int .i64 ((rd_T47 b a).f1.f2), .bool false]) ?_ 3 _ rfl; (with_reducible repeat apply pK); refine blk_put (cs := #[.bool ((rd_T47 b a).f1.f0), .bool ((rd_T47 b a).f1.f1), .int .i64 0, .bool false]) ?_ 2 _ rfl; (with_reducible repeat apply pK); refine blk_put (cs := #[.bool ((rd_T47 b a).f1.f0), .bool false, .int .i64 0, .bool false]) ?_ 1 _ rfl; (with_reducible repeat apply pK); refine blk_put (cs := #[.bool false, .bool false, .int .i64 0, .bool false]) ?_ 0 _ rfl; (with_reducible repeat apply pK); exact d.out) Tryz.underlying45 rfl (by kernel_rfl)) rfl ?_
   exact ⟨er_, bl_⟩
  rw [if_neg Q] at H
  exact absurd H (by simp)
 rw [if_neg P] at H
 exact absurd H (by simp)

end Go.Proofs.YtphboakgkmjpbaaGreatDoor.P
