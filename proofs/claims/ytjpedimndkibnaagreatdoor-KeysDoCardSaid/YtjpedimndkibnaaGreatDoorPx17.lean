/- pp.py and press2.py (wip/tools) wrote this text. -/
import Derived.Test.YtjpedimndkibnaaGreatDoorPx0
import Derived.Test.YtjpedimndkibnaaGreatDoorPxS
import Derived.Test.YtjpedimndkibnaaGreatDoorPxT
import Derived.Test.YtjpedimndkibnaaGreatDoorPx3
import Derived.Test.YtjpedimndkibnaaGreatDoorPx6
import Derived.Test.YtjpedimndkibnaaGreatDoorPx16
namespace Go.Proofs.YtjpedimndkibnaaGreatDoor.P
open Go.RowKit Go.Proofs.YtjpedimndkibnaaGreatDoorW.PrintWords Go.Proofs.YtjpedimndkibnaaGreatDoorW.PrintLast Go.Proofs.YtjpedimndkibnaaGreatDoorW.PrintMore
attribute [local go_sem] max2_int min2_int max_two min_two max_three min_three max_four min_four
attribute [local go_sem] Instr.field asAgg
set_option linter.unusedVariables false
set_option linter.unusedSimpArgs false
set_option maxHeartbeats 8000000
set_option maxRecDepth 100000

theorem V_ne_17 {α : Type} {d : Kd α} {e base g n c : Nat} {ok : Nat → Prop} {W : World} {ad : Addr} {xs : List α} (h : Kd.V d e W base ok (.slice (some ad) n c) xs) (hg : ∀ k, ok k → k ≠ g) (hn : 0 < n) (hs : 0 < d.sz) : ad.block ≠ g := by
 intro he
 have hl := (Kd.V_at h).1
 have hC : d.C { W with heap := W.heap.setIfInBounds g (.cells #[] 0) } (some ad) xs.length xs := (Kd.V_at h).2.2 _ (fun k hk _ => by simp [Ne.symm (hg k hk)])
 obtain ⟨ad', hea, hc⟩ := hC.2.2 (by omega)
 injection hea with hea
 subst hea
 obtain ⟨cl, hcl, _, hcell⟩ := hc 0 _ (List.getElem?_eq_getElem (by omega))
 have a := hcell 0 _ (List.getElem?_eq_getElem (by omega))
 rw [Nat.zero_mul, Nat.zero_add, Addr.add_zero'] at a
 subst he
 by_cases hlt : ad.block < W.heap.size <;> simp [World.cell?, hlt] at a
/-! ### keys_Do: function 15 -/
def keys_Do.f (k : Nat) (c d : Int) (l : List (S55)) (e : Int) (g h : Bool) (i j : Int) : Option (Int × Int × (List (S55)) × Int × Bool × Bool × Bool × Option Er × (List (S206))) := if i = 17 then ((keys_asks.f k c d l e g h j).bind fun a => (some (a.1, a.2.1, a.2.2.1, a.2.2.2.1, a.2.2.2.2.1, a.2.2.2.2.2.1, a.2.2.2.2.2.2.1, a.2.2.2.2.2.2.2.1, a.2.2.2.2.2.2.2.2))) else ((keys_plain.f k c d l e g h i j).bind fun b => (some (b.1, b.2.1, b.2.2.1, b.2.2.2.1, b.2.2.2.2.1, b.2.2.2.2.2.1, false, b.2.2.2.2.2.2.1, b.2.2.2.2.2.2.2)))
theorem keys_Do.mono : ∀ a0 a1 a b a4 c d e k, LeO (keys_Do.f k a0 a1 a b a4 c d e) (keys_Do.f (k + 1) a0 a1 a b a4 c d e) := by
 intro a0 a1 a b a4 c d e k
 unfold keys_Do.f
 repeat' first
   | (with_reducible exact keys_asks.mono _ _ _ _ _ _ _ _)
   | (with_reducible exact keys_plain.mono _ _ _ _ _ _ _ _ _)
   | (with_reducible exact LeO.refl _)
   | (with_reducible exact LeO.none _)
   | (with_reducible refine LeO.ite ?_ ?_)
   | (with_reducible refine LeO.bind ?_ (fun _ => ?_))
   | exact keys_asks.mono _ _ _ _ _ _ _ _
   | exact keys_plain.mono _ _ _ _ _ _ _ _ _
   | exact LeO.none _
   | refine LeO.ite ?_ ?_
   | refine LeO.bind ?_ (fun _ => ?_)
theorem keys_Do.calls (k : Nat) (F G : Int) (z : Nat → Prop) (ab : Option Addr) (ac : Nat) (x : List (S55)) (I : Int) (J K : Bool) (y L r1 r2 : Int) (r3 : List (S55)) (r4 : Int) (r5 r6 r7 : Bool) (r8 : Option Er) (r9 : List (S206)) (w : World) (a0 : Kd.V k55 55 w w.heap.size (fun k_ => z k_) (.slice ab x.length ac) x) (h : keys_Do.f k F G x I J K y L = some (r1, r2, r3, r4, r5, r6, r7, r8, r9)) :
  Calls Tryz.prog 15 #[.agg #[.int .i64 F, .int .i64 G, .slice ab x.length ac, .int .i64 I, .bool J, .bool K], .agg #[.int .i64 y, .int .u8 L]] w fun e w' => ∃ a2 a3 : Value, e = .returned (.tuple #[.agg #[.int .i64 r1, .int .i64 r2, a2, .int .i64 r4, .bool r5, .bool r6], .bool r7, errW a3 r8]) ∧ Kd.V k55 55 w' w.heap.size (fun k_ => (z k_ ∨ w.heap.size ≤ k_)) a2 r3 ∧ Kd.V k206 206 w' w.heap.size (fun k_ => (z k_ ∨ w.heap.size ≤ k_)) a3 r9 ∧ Below w.heap.size w w' := by
 have cD := Tryz.underlying24
 have cE := Tryz.underlying45
 have c := Z (show Kd.V k55 55 w w.heap.size (fun k_ => (z k_ ∨ w.heap.size ≤ k_)) (.slice ab x.length ac) x from Kd.V_mono a0 (fun k_ hk => .inl hk))
 have HB := Z (Below.refl w.heap.size w)
 unfold keys_Do.f at h
 have H := h
 clear h
 by_cases c3 : y = 17
 ·rw [if_pos c3] at H
  obtain ⟨a4, a5⟩ := eT_ c3
  clear c3
  replace H := bn_ H
  obtain ⟨⟨ai, aj, ak, al, am, an, aN, aO, aP⟩, A4, H⟩ := H
  try dsimp only at H
  obtain ⟨rfl, rfl, rfl, rfl, rfl, rfl, rfl, rfl, rfl⟩ := ij9_ H
  go_enter Tryz.func15, Tryz.ntmps15
  go_wp2_with (first | ((with_reducible refine gD_ 2 rfl ?_); refine bx_ 2 24 #[.int .i64 F, .int .i64 G, .slice ab x.length ac, .int .i64 I, .bool J, .bool K] ?_; intro u hg w5 hbox hb; replace c := ve' c hg hb; have b := Z hbox; have aW := ln' w hg; replace HB := bs_ hb; clear hb hbox hg) | ((with_reducible refine gD_ 3 rfl ?_); refine bx_ 3 45 #[.int .i64 y, .int .u8 L] ?_; intro v hg w6 hbox hb; replace c := ve' c hg hb; have d := Z hbox; have aX := ln' w hg; replace HB := bs_ hb; have Q := nl' b hg; replace b := kb' b hb; clear hb hbox hg) | ((with_reducible refine gD_ 4 rfl ?_); refine bx_ 4 24 zS_ ?_; intro a hg w7 hbox hb; replace c := ve' c hg hb; have g := Z hbox; have aY := ln' w hg; replace HB := bs_ hb; have R := nl' b hg; replace b := kb' b hb; have T := nl' d hg; replace d := kb' d hb; clear hb hbox hg; have cz := ns_ Q; have cA := ns_ T; have a8 := cells2 d.out; have cj := ns_ R; have ba := cells6 b.out) | ((with_reducible refine gF_ 37 rfl ?_); refine gd_ (some 15) Tryz.func37 (keys_asks.calls k F G (fun k_ => ((((z k_ ∨ w.heap.size ≤ k_) ∧ k_ ≠ u) ∧ k_ ≠ v) ∧ k_ ≠ a)) _ _ x I J K L ai aj ak al am an aN aO aP _ c.out A4.out) ?_; rintro e cJ ⟨cF, cG, rfl, av, aw, hb⟩; refine ⟨_, rfl, ?_⟩; replace c := vb' c hb; have az := Z (Kd.V_lower (Kd.V_mono (ok' := fun k_ => (z k_ ∨ w.heap.size ≤ k_) ∧ k_ ≠ u ∧ k_ ≠ v ∧ k_ ≠ a) av (fun k_ hk_ => hk_.elim (fun hs_ => ⟨hs_.1.1.1, hs_.1.1.2, hs_.1.2, hs_.2⟩) (fun hn_ => ⟨(ir_ hn_), (fb b.out k_ hn_), (fb d.out k_ hn_), (fb g.out k_ hn_)⟩))) (below_size bl_)); have aZ := Z (Kd.V_lower (Kd.V_mono (ok' := fun k_ => (z k_ ∨ w.heap.size ≤ k_) ∧ k_ ≠ u ∧ k_ ≠ v ∧ k_ ≠ a) aw (fun k_ hk_ => hk_.elim (fun hs_ => ⟨hs_.1.1.1, hs_.1.1.2, hs_.1.2, hs_.2⟩) (fun hn_ => ⟨(ir_ hn_), (fb b.out k_ hn_), (fb d.out k_ hn_), (fb g.out k_ hn_)⟩))) (below_size bl_)); replace b := kb' b hb; replace d := kb' d hb; replace g := kb' g hb; replace HB := bs_ hb; (try clear hb); (try clear hk); (try clear av); (try clear aw); (try simp only [errW_none, errW_some]); have bg := cells6 g.out; obtain ⟨ax, ay, a6⟩ := Kd.V_slice az.out; subst a6))
  refine rc3_ (put6 g.out) Tryz.underlying24 ?_
  exact ⟨_, _, er_, by (with_reducible repeat apply pV); exact Kd.V_mono (f6V a (Kd.V_mono az.out (fun k_ hk => (⟨hk, hk.2.2.2⟩ : _ ∧ k_ ≠ a))) im_) im_, by (with_reducible repeat apply pV); exact Kd.V_mono (f6V a (Kd.V_mono aZ.out (fun k_ hk => (⟨hk, hk.2.2.2⟩ : _ ∧ k_ ≠ a))) im_) im_, bl_⟩
 rw [if_neg c3] at H
 obtain ⟨a4, a5⟩ := eF_ c3
 replace H := bn_ H
 obtain ⟨⟨A, C, M, O, aa, ad, aQ, aR⟩, cf, H⟩ := H
 try dsimp only at H
 obtain ⟨rfl, rfl, rfl, rfl, rfl, rfl, rfl, rfl, rfl⟩ := ij9_ H
 go_enter Tryz.func15, Tryz.ntmps15
 go_wp2_with (first | ((with_reducible refine gD_ 2 rfl ?_); refine bx_ 2 24 #[.int .i64 F, .int .i64 G, .slice ab x.length ac, .int .i64 I, .bool J, .bool K] ?_; intro u hg cK hbox hb; replace c := ve' c hg hb; have b := Z hbox; have aW := ln' w hg; replace HB := bs_ hb; clear hb hbox hg) | ((with_reducible refine gD_ 3 rfl ?_); refine bx_ 3 45 #[.int .i64 y, .int .u8 L] ?_; intro v hg cL hbox hb; replace c := ve' c hg hb; have d := Z hbox; have aX := ln' w hg; replace HB := bs_ hb; have Q := nl' b hg; replace b := kb' b hb; clear hb hbox hg) | ((with_reducible refine gD_ 4 rfl ?_); refine bx_ 4 24 zS_ ?_; intro a hg cM hbox hb; replace c := ve' c hg hb; have g := Z hbox; have aY := ln' w hg; replace HB := bs_ hb; have R := nl' b hg; replace b := kb' b hb; have T := nl' d hg; replace d := kb' d hb; clear hb hbox hg; have ck := ns_ Q; have cl := ns_ T; have bm := cells2 d.out; have cm := ns_ R; have bo := cells6 b.out) | ((with_reducible refine gF_ 38 rfl ?_); refine gd_ (some 22) Tryz.func38 (keys_plain.calls k F G (fun k_ => ((((z k_ ∨ w.heap.size ≤ k_) ∧ k_ ≠ u) ∧ k_ ≠ v) ∧ k_ ≠ a)) _ _ x I J K y L A C M O aa ad aQ aR _ c.out cf.out) ?_; rintro e cN ⟨cH, cI, rfl, av, aw, hb⟩; refine ⟨_, rfl, ?_⟩; replace c := vb' c hb; have ae := Z (Kd.V_lower (Kd.V_mono (ok' := fun k_ => (z k_ ∨ w.heap.size ≤ k_) ∧ k_ ≠ u ∧ k_ ≠ v ∧ k_ ≠ a) av (fun k_ hk_ => hk_.elim (fun hs_ => ⟨hs_.1.1.1, hs_.1.1.2, hs_.1.2, hs_.2⟩) (fun hn_ => ⟨(ir_ hn_), (fb b.out k_ hn_), (fb d.out k_ hn_), (fb g.out k_ hn_)⟩))) (below_size bl_)); have ah := Z (Kd.V_lower (Kd.V_mono (ok' := fun k_ => (z k_ ∨ w.heap.size ≤ k_) ∧ k_ ≠ u ∧ k_ ≠ v ∧ k_ ≠ a) aw (fun k_ hk_ => hk_.elim (fun hs_ => ⟨hs_.1.1.1, hs_.1.1.2, hs_.1.2, hs_.2⟩) (fun hn_ => ⟨(ir_ hn_), (fb b.out k_ hn_), (fb d.out k_ hn_), (fb g.out k_ hn_)⟩))) (below_size bl_)); replace b := kb' b hb; replace d := kb' d hb; replace g := kb' g hb; replace HB := bs_ hb; (try clear hb); (try clear hk); (try clear av); (try clear aw); (try simp only [errW_none, errW_some])) | ((with_reducible refine gD_ 7 rfl ?_); refine bx_ 7 24 zS_ ?_; intro i hg cO hbox hb; replace c := ve' c hg hb; replace ae := ve' ae hg hb; replace ah := ve' ah hg hb; have aS := Z hbox; have ci := ln' w hg; replace HB := bs_ hb; have ao := nl' b hg; replace b := kb' b hb; have ap := nl' d hg; replace d := kb' d hb; have q := nl' g hg; replace g := kb' g hb; clear hb hbox hg; have cn := ns_ ao; have co := ns_ ap; have cp := ns_ q; have bu := cells6 aS.out; obtain ⟨P, X, a7⟩ := Kd.V_slice ae.out; subst a7; have bB := cells6 g.out))
 refine bodyPost_ret (results_ctt rfl _ _ a 24 #[.int .i64 A, .int .i64 C, .slice P M.length X, .int .i64 O, .bool aa, .bool ad] (0, 0) _ rfl (put6 (by (with_reducible repeat apply pK); refine blk_far ?_ q.out _; (with_reducible repeat apply pK); refine blk_far ?_ q.out _; (with_reducible repeat apply pK); refine blk_far ?_ q.out _; (with_reducible repeat apply pK); refine blk_far ?_ q.out _; (with_reducible repeat apply pK); refine blk_far ?_ q.out _; (with_reducible repeat apply pK); refine blk_far ?_ q.out _; (with_reducible repeat apply pK); exact g.out)) Tryz.underlying24 rfl (by kernel_rfl)) rfl ?_
 exact ⟨_, _, er_, by (with_reducible repeat apply pV); exact Kd.V_mono (f6V a (f6V i (Kd.V_mono (Kd.V_mono ae.out (fun k_ hk => (⟨hk, hk.2⟩ : _ ∧ k_ ≠ i))) (fun k_ hk => (⟨hk, hk.1.1.2.2.2⟩ : _ ∧ k_ ≠ a))) im_) im_) im_, by (with_reducible repeat apply pV); exact Kd.V_mono (f6V a (f6V i (Kd.V_mono (Kd.V_mono ah.out (fun k_ hk => (⟨hk, hk.2⟩ : _ ∧ k_ ≠ i))) (fun k_ hk => (⟨hk, hk.1.1.2.2.2⟩ : _ ∧ k_ ≠ a))) im_) im_) im_, bl_⟩
/-! ### keys_Refused: function 17 -/
section
open Go.RowKit Go.Extern.Stop Go.Stop Go.Extern
/-! ### errors.Is of a number, or of a spot that bears one, and a number -/
theorem IS.equalIn (w : World) (d : Nat) {ti tn : TypeId} {ms : Array (String × TypeId)} {i : TypeInfo} {k : IntKind} (a b : Int)
  (hi : Tryz.prog.underlying ti = some (.interface ms)) (hn : Tryz.prog.underlying tn = some (.int k)) (hinfo : Tryz.prog.info? tn = some i) (hcomp : i.comparable = true) :
  (Op.equalIn (d + 2) ti (.iface tn (.int k a)) (.iface tn (.int k b))).run Tryz.prog w = .ok (a == b) w := by
 simp [Op.equalIn, run_underlying hi, run_underlying hn, typeInfo, hinfo, hcomp]
theorem IS.eql (w : World) {ti tn : TypeId} {ms : Array (String × TypeId)} {i : TypeInfo} {k : IntKind} (a b : Int)
  (hi : Tryz.prog.underlying ti = some (.interface ms)) (hn : Tryz.prog.underlying tn = some (.int k)) (hinfo : Tryz.prog.info? tn = some i) (hcomp : i.comparable = true) :
  (binOp .eql ti (.iface tn (.int k a)) (.iface tn (.int k b))).run Tryz.prog w = .ok (.bool (a == b)) w := by
 simp only [binOp]
 simp [Op.equal, Op.maxDepth, IS.equalIn w 9998 a b hi hn hinfo hcomp]
theorem IS.typeOf (v : Value) (w : World) : (Extern.ReflectliteType.typeOf #[.iface 69 v]).run Tryz.prog w = .ok (.iface 145 (.agg #[.pointer (some ⟨1, 69, none⟩)])) w := by kernel_rfl
theorem IS.comp (w : World) : ((Extern.ReflectliteType.method fun t => do Rtype.noPackHeld "Comparable" t; pure (.bool (← typeInfo t).comparable)) #[.agg #[.pointer (some ⟨1, 69, none⟩)]]).run Tryz.prog w = .ok (.bool true) w := by kernel_rfl
theorem IS.call (w : World) : (callFunc 165 #[.agg #[.pointer (some ⟨1, 69, none⟩)]]).run Tryz.prog w = .ok (.value (.bool true)) w := by
 rw [@run_callFunc_extern Tryz.prog 165 _ (Extern.ReflectliteType.method fun t => do Rtype.noPackHeld "Comparable" t; pure (.bool (← typeInfo t).comparable)) Tryz.func165 (by kernel_rfl) (by kernel_rfl) (by kernel_rfl) (by kernel_rfl), IS.comp]
 rfl
theorem IS.meth (v : Value) (w : World) : (Go.method 304 145 v "Comparable").run Tryz.prog w = .ok (165, v) w := by kernel_rfl
theorem IS.info : (Tryz.prog.info? 69).map (·.comparable) = some true := by kernel_rfl
theorem IS.noIsE (v : Value) (xT : TypeId) (w : World) : (Instr.typeAssert (.iface 69 v) xT 161 true).run Tryz.prog w = .ok (.tuple #[.nilIface, .bool false]) w := run_typeAssert_lacksB Tryz.underlying161 (by kernel_rfl) (by kernel_rfl) v xT w
theorem IS.noUnE (v : Value) (xT : TypeId) (w : World) : (Instr.typeAssert (.iface 69 v) xT 152 true).run Tryz.prog w = .ok (.tuple #[.nilIface, .bool false]) w := run_typeAssert_lacksB Tryz.underlying152 (by kernel_rfl) (by kernel_rfl) v xT w
theorem IS.noUnsE (v : Value) (xT : TypeId) (w : World) : (Instr.typeAssert (.iface 69 v) xT 154 true).run Tryz.prog w = .ok (.tuple #[.nilIface, .bool false]) w := run_typeAssert_lacksB Tryz.underlying154 (by kernel_rfl) (by kernel_rfl) v xT w
theorem IS.noIsS (v : Value) (xT : TypeId) (w : World) : (Instr.typeAssert (.iface 72 v) xT 161 true).run Tryz.prog w = .ok (.tuple #[.nilIface, .bool false]) w := run_typeAssert_lacksB Tryz.underlying161 (by kernel_rfl) (by kernel_rfl) v xT w
theorem IS.hasUnS (v : Value) (xT : TypeId) (w : World) : (Instr.typeAssert (.iface 72 v) xT 152 true).run Tryz.prog w = .ok (.tuple #[.iface 72 v, .bool true]) w := run_typeAssert_hasB Tryz.underlying152 (by kernel_rfl) v xT w
theorem IS.methUn (v : Value) (w : World) : (Go.method 304 72 v "Unwrap").run Tryz.prog w = .ok (159, v) w := by kernel_rfl
theorem IS.num (n m : Int) (w : World) : Calls Tryz.prog 43 #[.iface 69 (.int .i64 n), .iface 69 (.int .i64 m)] w fun e w' => e = .returned (.bool (n == m)) ∧ w' = w := by
 obtain ⟨i, hi, hcmp⟩ := Option.map_eq_some_iff.1 IS.info
 have a := @run_callFunc_extern Tryz.prog 84 _ Extern.ReflectliteType.typeOf Tryz.func84 (by kernel_rfl) (by kernel_rfl) (by kernel_rfl) (by kernel_rfl)
 have hC := IS.call
 have tT := IS.typeOf
 have mR := IS.meth
 have nE := IS.noIsE
 have uE := IS.noUnE
 have vE := IS.noUnsE
 have heq := fun w => IS.eql w n m Tryz.underlying34 Tryz.underlying69 hi hcmp
 clear hi hcmp
 cases hb : (n == m) with
 | true =>
  go_enter Tryz.func43, Tryz.ntmps43
  go_wp2
  refine wp_loop_rounds 1 ?_
  rw [rounds_succ]
  go_wp2
  go_ret
  exact ⟨rfl, rfl⟩
 | false =>
  go_enter Tryz.func43, Tryz.ntmps43
  go_wp2
  refine wp_loop_rounds 1 ?_
  rw [rounds_succ]
  go_wp2
  go_ret
  exact ⟨rfl, rfl⟩
theorem IS.nil (m : Int) (w : World) : Calls Tryz.prog 43 #[.nilIface, .iface 69 (.int .i64 m)] w fun e w' => e = .returned (.bool false) ∧ w' = w := by
 have hn := run_eql_iface_nil_left (P := Tryz.prog) w 69 (.int .i64 m) Tryz.underlying34
 go_enter Tryz.func43, Tryz.ntmps43
 go_wp2
 go_ret
 exact ⟨rfl, rfl⟩
theorem IS.spot (ad : Addr) (n m : Int) (w : World) (a : w.cell? ⟨ad.block, ad.off + 1, none⟩ = some (.iface 69 (.int .i64 n))) : Calls Tryz.prog 43 #[.iface 72 (.pointer (some ad)), .iface 69 (.int .i64 m)] w fun e w' => e = .returned (.bool (n == m)) ∧ w' = w := by
 obtain ⟨i, hi, hcmp⟩ := Option.map_eq_some_iff.1 IS.info
 have c := @run_callFunc_extern Tryz.prog 84 _ Extern.ReflectliteType.typeOf Tryz.func84 (by kernel_rfl) (by kernel_rfl) (by kernel_rfl) (by kernel_rfl)
 have hC := IS.call
 have tT := IS.typeOf
 have mR := IS.meth
 have nE := IS.noIsE
 have uE := IS.noUnE
 have vE := IS.noUnsE
 have nW := IS.noIsS
 have uW := IS.hasUnS
 have mU := IS.methUn
 have hty := run_eql_iface_types (P := Tryz.prog) 72 69 (.pointer (some ad)) (.int .i64 m) Tryz.underlying34 (by decide) w
 have heq := fun w => IS.eql w n m Tryz.underlying34 Tryz.underlying69 hi hcmp
 have hu := Tryz.underlying75
 clear hi hcmp
 obtain ⟨b, o, s⟩ := ad
 cases hb : (n == m) with
 | true =>
  go_enter Tryz.func43, Tryz.ntmps43
  go_wp2
  refine wp_loop_rounds 2 ?_
  rw [rounds_succ]
  go_wp2
  rw [rounds_succ]
  go_wp2
  go_ret
  exact ⟨rfl, rfl⟩
 | false =>
  go_enter Tryz.func43, Tryz.ntmps43
  go_wp2
  refine wp_loop_rounds 2 ?_
  rw [rounds_succ]
  go_wp2
  rw [rounds_succ]
  go_wp2
  go_ret
  exact ⟨rfl, rfl⟩
/-- keys.Refused: of a key that was: its error's number, or its spot's, is one of four. -/
def refusedI (n : Int) : Bool := decide (7 ≤ n ∧ n ≤ 10)
def keys_Refused.f (a : Option Er) (b : List S206) : Option Bool :=
 match a with
 | none => some false
 | some (.num n) => some (refusedI n)
 | some .spot => match b with | [s] => some (refusedI s.f1) | _ => none
def refO : Option Int → Bool
 | none => false
 | some n => refusedI n
theorem refO_false {x : Option Int} (b : (x == some 7) = false) (c : (x == some 8) = false) (d : (x == some 9) = false) (a : (x == some 10) = false) : refO x = false := by
 cases x with
 | none => rfl
 | some n =>
  simp only [Option.some_beq_some, beq_eq_false_iff_ne] at b c d a
  exact decide_eq_false (by omega)
theorem refO_true {x : Option Int} {m : Int} (h : (x == some m) = true) (a : 7 ≤ m ∧ m ≤ 10) : refO x = true := by
 obtain rfl := of_decide_eq_true (by simpa using h : decide (x = some m) = true)
 exact decide_eq_true a
theorem refused_walk (v : Value) (x : Option Int) (w : World) (hI : ∀ (m : Int) (W : World), Below w.heap.size w W → Calls Tryz.prog 43 #[v, .iface 69 (.int .i64 m)] W fun e w' => e = .returned (.bool (x == some m)) ∧ w' = W) :
  Calls Tryz.prog 17 #[v] w fun e w' => e = .returned (.bool (refO x)) ∧ Below w.heap.size w w' := by
 have HI := Z hI
 have hu := Tryz.underlying87
 clear hI
 cases b : (x == some 7) with
 | true =>
  rw [refO_true b (by decide)]
  go_enter Tryz.func17, Tryz.ntmps17
  go_wp2
  refine wp_loop_rounds 1 ?_
  rw [rounds_succ]
  go_wp2_with (go_at_call 43; (with_reducible refine (HI.out _ _ ?bl_).mono ?_); (case bl_ => repeat (first | exact Below.refl _ _ | refine below_alloc ?_ _)); rintro e w' ⟨rfl, rfl⟩)
  go_ret
  exact ⟨rfl, below_alloc (Below.refl _ _) _⟩
 | false =>
  cases c : (x == some 8) with
  | true =>
   rw [refO_true c (by decide)]
   go_enter Tryz.func17, Tryz.ntmps17
   go_wp2
   refine wp_loop_rounds 2 ?_
   rw [rounds_succ]
   go_wp2_with (go_at_call 43; (with_reducible refine (HI.out _ _ ?bl_).mono ?_); (case bl_ => repeat (first | exact Below.refl _ _ | refine below_alloc ?_ _)); rintro e w' ⟨rfl, rfl⟩)
   rw [rounds_succ]
   go_wp2_with (go_at_call 43; (with_reducible refine (HI.out _ _ ?bl_).mono ?_); (case bl_ => repeat (first | exact Below.refl _ _ | refine below_alloc ?_ _)); rintro e w' ⟨rfl, rfl⟩)
   go_ret
   exact ⟨rfl, below_alloc (Below.refl _ _) _⟩
  | false =>
   cases d : (x == some 9) with
   | true =>
    rw [refO_true d (by decide)]
    go_enter Tryz.func17, Tryz.ntmps17
    go_wp2
    refine wp_loop_rounds 3 ?_
    rw [rounds_succ]
    go_wp2_with (go_at_call 43; (with_reducible refine (HI.out _ _ ?bl_).mono ?_); (case bl_ => repeat (first | exact Below.refl _ _ | refine below_alloc ?_ _)); rintro e w' ⟨rfl, rfl⟩)
    rw [rounds_succ]
    go_wp2_with (go_at_call 43; (with_reducible refine (HI.out _ _ ?bl_).mono ?_); (case bl_ => repeat (first | exact Below.refl _ _ | refine below_alloc ?_ _)); rintro e w' ⟨rfl, rfl⟩)
    rw [rounds_succ]
    go_wp2_with (go_at_call 43; (with_reducible refine (HI.out _ _ ?bl_).mono ?_); (case bl_ => repeat (first | exact Below.refl _ _ | refine below_alloc ?_ _)); rintro e w' ⟨rfl, rfl⟩)
    go_ret
    exact ⟨rfl, below_alloc (Below.refl _ _) _⟩
   | false =>
    cases a : (x == some 10) with
    | true =>
     rw [refO_true a (by decide)]
     go_enter Tryz.func17, Tryz.ntmps17
     go_wp2
     refine wp_loop_rounds 4 ?_
     rw [rounds_succ]
     go_wp2_with (go_at_call 43; (with_reducible refine (HI.out _ _ ?bl_).mono ?_); (case bl_ => repeat (first | exact Below.refl _ _ | refine below_alloc ?_ _)); rintro e w' ⟨rfl, rfl⟩)
     rw [rounds_succ]
     go_wp2_with (go_at_call 43; (with_reducible refine (HI.out _ _ ?bl_).mono ?_); (case bl_ => repeat (first | exact Below.refl _ _ | refine below_alloc ?_ _)); rintro e w' ⟨rfl, rfl⟩)
     rw [rounds_succ]
     go_wp2_with (go_at_call 43; (with_reducible refine (HI.out _ _ ?bl_).mono ?_); (case bl_ => repeat (first | exact Below.refl _ _ | refine below_alloc ?_ _)); rintro e w' ⟨rfl, rfl⟩)
     rw [rounds_succ]
     go_wp2_with (go_at_call 43; (with_reducible refine (HI.out _ _ ?bl_).mono ?_); (case bl_ => repeat (first | exact Below.refl _ _ | refine below_alloc ?_ _)); rintro e w' ⟨rfl, rfl⟩)
     go_ret
     exact ⟨rfl, below_alloc (Below.refl _ _) _⟩
    | false =>
     rw [refO_false b c d a]
     go_enter Tryz.func17, Tryz.ntmps17
     go_wp2
     refine wp_loop_rounds 5 ?_
     rw [rounds_succ]
     go_wp2_with (go_at_call 43; (with_reducible refine (HI.out _ _ ?bl_).mono ?_); (case bl_ => repeat (first | exact Below.refl _ _ | refine below_alloc ?_ _)); rintro e w' ⟨rfl, rfl⟩)
     rw [rounds_succ]
     go_wp2_with (go_at_call 43; (with_reducible refine (HI.out _ _ ?bl_).mono ?_); (case bl_ => repeat (first | exact Below.refl _ _ | refine below_alloc ?_ _)); rintro e w' ⟨rfl, rfl⟩)
     rw [rounds_succ]
     go_wp2_with (go_at_call 43; (with_reducible refine (HI.out _ _ ?bl_).mono ?_); (case bl_ => repeat (first | exact Below.refl _ _ | refine below_alloc ?_ _)); rintro e w' ⟨rfl, rfl⟩)
     rw [rounds_succ]
     go_wp2_with (go_at_call 43; (with_reducible refine (HI.out _ _ ?bl_).mono ?_); (case bl_ => repeat (first | exact Below.refl _ _ | refine below_alloc ?_ _)); rintro e w' ⟨rfl, rfl⟩)
     rw [rounds_succ]
     go_wp2
     go_ret
     exact ⟨rfl, below_alloc (Below.refl _ _) _⟩
theorem keys_Refused.calls (b : Option Er) (d : Option Addr) (c : Nat) (a : List S206) (r : Bool) (w : World) (i : Kd.C k206 w d a.length a) (g : a.length ≤ c) (h : keys_Refused.f b a = some r) :
  Calls Tryz.prog 17 #[errW (.slice d a.length c) b] w fun e w' => e = .returned (.bool r) ∧ Below w.heap.size w w' := by
 rcases b with _ | q
 ·obtain rfl := Option.some.inj h
  rw [errW_none]
  exact refused_walk .nilIface none w (fun m W _ => IS.nil m W)
 ·cases q with
  | num n =>
   obtain rfl := Option.some.inj h
   rw [errW_some, show (Er.num n).ty = 69 from rfl, show (Er.num n).pay _ = .int .i64 n from rfl]
   exact refused_walk _ (some n) w (fun m W _ => by rw [Option.some_beq_some]; exact IS.num n m W)
  | spot =>
   match a, i, g, h with
   | [s], hr, hc, h =>
    obtain rfl := Option.some.inj h
    obtain ⟨ad, rfl, k, j⟩ := spot_at hr
    rw [errW_some, show Er.spot.ty = 72 from rfl, show Er.spot.pay (.slice (some ad) ([s] : List S206).length c) = .pointer (some ad) from rfl]
    have hlt := bk_ w ⟨ad.block, ad.off + 1, none⟩ j
    exact refused_walk _ (some s.f1) w (fun m W hB => by rw [Option.some_beq_some]; exact IS.spot ad s.f1 m W ((hB.cell (p := ⟨ad.block, ad.off + 1, none⟩) hlt).trans j))
end

/-! ### shutterref10_Copy: function 32 -/
def shutterref10_Copy.f (c d : Int) (a : List (S55)) (e : Int) (g h : Bool) : Option (Int × Int × (List (S55)) × Int × Bool × Bool) := (some (([] : List (S55)) : List (S55))).bind fun b => (if b.length + a.length < 3518437208883 then (some (c, d, (b ++ a), e, g, h)) else (none))
theorem shutterref10_Copy.calls (c i : Int) (I : Option Addr) (J : Nat) (d : List (S55)) (l : Int) (m n : Bool) (S T : Int) (U : List (S55)) (V : Int) (W X : Bool) (w : World) (Q : Kd.C k55 w I d.length d) (P : d.length ≤ J) (h : shutterref10_Copy.f c i d l m n = some (S, T, U, V, W, X)) :
  Calls Tryz.prog 32 #[.agg #[.int .i64 c, .int .i64 i, .slice I d.length J, .int .i64 l, .bool m, .bool n]] w fun e w' => ∃ ae : Value, e = .returned (.agg #[.int .i64 S, .int .i64 T, ae, .int .i64 V, .bool W, .bool X]) ∧ Kd.R k55 55 w' w.heap.size (fun _ => True) ae U ∧ Below w.heap.size w w' := by
 have a7 := Tryz.underlying24
 have Y := Z Q
 have a4 := Z P
 clear Q P
 have HB := Z (Below.refl w.heap.size w)
 unfold shutterref10_Copy.f at h
 have H := h
 clear h
 obtain ⟨v, y⟩ : ∃ y_ : List (S55), y_ = (([] : List (S55))) := ⟨_, rfl⟩
 replace H : (if v.length + d.length < 3518437208883 then (some (c, i, (v ++ d), l, m, n)) else (none)) = some (S, T, U, V, W, X) := by first | (rw [y]; with_reducible exact H) | (have G := (Option.bind_some _ _).symm.trans H; rw [y]; with_reducible exact G) | (have G := (Option.bind_some _ _).symm.trans H; with_reducible exact G) | with_reducible exact H | (rw [y]; exact H) | exact H
 have O := Z y
 clear y
 by_cases c2 : v.length + d.length < 3518437208883
 ·rw [if_pos c2] at H
  have af := Z c2
  clear c2
  obtain ⟨x, z⟩ : ∃ y_ : List (S55), y_ = (v ++ d) := ⟨_, rfl⟩
  replace H : (some (c, i, x, l, m, n)) = some (S, T, U, V, W, X) := by first | (rw [z]; with_reducible exact H) | (have G := (Option.bind_some _ _).symm.trans H; rw [z]; with_reducible exact G) | (have G := (Option.bind_some _ _).symm.trans H; with_reducible exact G) | with_reducible exact H | (rw [z]; exact H) | exact H
  have aa := Z z
  clear z
  obtain ⟨rfl, rfl, rfl, rfl, rfl, rfl⟩ := ij6_ H
  go_enter Tryz.func32, Tryz.ntmps32
  go_wp2_with (first | ((with_reducible refine gD_ 1 rfl ?_); refine bx_ 1 24 #[.int .i64 c, .int .i64 i, .slice I d.length J, .int .i64 l, .bool m, .bool n] ?_; intro F hg w3 hbox hb; have a := Z hbox; have a2 := ln' w hg; replace HB := bs_ hb; clear hb hbox hg) | ((with_reducible refine gD_ 2 rfl ?_); refine bx_ 2 24 zS_ ?_; intro k hg w4 hbox hb; have j := Z hbox; have a3 := ln' w hg; replace HB := bs_ hb; have K := nl' a hg; replace a := kb' a hb; clear hb hbox hg) | ((with_reducible refine gD_ 3 rfl ?_); refine Kd.R_lit k55 _ 55 ?hg (N := 3) ?hd (xs := ([] : List (S55))) (inner := []) (ok := fun _ => True) (okp := fun _ => True) ?hr ?hp (fun _ hk => hk) trivial (Below.refl _ _) (Nat.le_refl _) (by simp) ?_; (case hd => rfl); (case hg => rfl); (case hr => first | (go_simp; done) | (go_simp; rfl)); (case hp => exact (Reps.none _ _)); intro ah w5 L hb hg_ hnew_; clear hg_ hnew_; (first | rw [← O.out] at L | (simp only [Int.reduceToNat] at L; rw [← O.out] at L)); have E := Z (Kd.R_lower L (below_size bl_)); replace a := kb' a hb; replace j := kb' j hb; replace HB := bs_ hb; clear hb L; have a5 := ns_ K; have aK := cells6 a.out) | ((with_reducible refine gate_builtin (b := .append) (xs := #[.tmp 3, .tmp 5]) rfl ?_); at_builtin; refine Kd.R_append_rows k55 (w0 := w) w.heap.size rfl (.tmp 3) (.tmp 5) 22 55 (.agg #[(.bool false), (.bool false), (.bool false), (.int .i64 0), (.bool false), (.int .u8 0)]) 40 rfl Tryz.underlying22 info55 rfl (by decide) (by omega) ah v d _ _ _ (fun _ => True) (fun _ => False) rfl rfl ?aO ?aR (fun _ _ h => h) (fun _ h => h.elim) ?aF ?aB ?aS ?aL ?_; (case aR => repeat (first | exact (Kd.C_below Y.out HB.out) | (with_reducible apply pC))); (case aB => exact bl_); (case aF => exact (fun _ _ => trivial)); (case aO => exact (by (with_reducible repeat apply pR); exact E.out)); (case aS => exact (below_size bl_)); (case aL => have := af.out; omega); intro a8 w9 ho hb hg hat; rw [← aa.out] at ho; replace a := gw_ ⟨vK a.out⟩ hg (Kd.R_ne E.out a.out (by decide)); replace j := gw_ ⟨vK j.out⟩ hg (Kd.R_ne E.out j.out (by decide)); replace HB := Z (hb); have M := Z (ho); clear E; clear ho hb hg hat; obtain ⟨A, B, ag⟩ := Kd.R_slice M.out; subst ag; have ai := cells6 a.out; have ao := cells6 j.out))
  refine bodyPost_ret (results_cell_row rfl _ _ k 24 #[.int .i64 c, .int .i64 i, .slice A x.length B, .int .i64 l, .bool m, .bool n] (0, 0) _ rfl (put6 (by (with_reducible repeat apply pK); refine blk_far ?_ K.out.symm _; (with_reducible repeat apply pK); exact j.out)) Tryz.underlying24 rfl (by kernel_rfl)) rfl ?_
  exact ⟨_, er_, by (with_reducible repeat apply pR); exact Kd.R_mono (f6R k (Kd.R_far (p := ⟨F, 2, none⟩) (Kd.R_types (Kd.R_types M.out a.out (by decide)) j.out (by decide)) im_ (.slice A x.length B)) im_) im_, bl_⟩
 rw [if_neg c2] at H
 exact absurd H (by simp)

/-! ### shutterref11_mod: function 66 -/
def shutterref11_mod.l0 : Nat → Int → Int → Option (Int)
 | 0, _, _ => none
 | k + 1, b, a => if b < 0 then (shutterref11_mod.l0 k (wrap64 (b + a)) a) else (if a = 0 then (none) else (some (Int.tmod b a)))
def shutterref11_mod.f (k : Nat) (a0 a1 : Int) : Option (Int) := shutterref11_mod.l0 k a0 a1
theorem shutterref11_mod.mono_l : ∀ k, (∀ b c, LeO (shutterref11_mod.l0 k b c) (shutterref11_mod.l0 (k + 1) b c))
 | 0 => fun _ _ r h => by simp [shutterref11_mod.l0] at h
 | k + 1 => by
  have a := shutterref11_mod.mono_l k
  ·intro b c
   unfold shutterref11_mod.l0
   repeat' first
   | (with_reducible exact a _ _)
   | (with_reducible exact LeO.refl _)
   | (with_reducible exact LeO.none _)
   | (with_reducible refine LeO.ite ?_ ?_)
   | (with_reducible refine LeO.bind ?_ (fun _ => ?_))
   | exact a _ _
   | exact LeO.none _
   | refine LeO.ite ?_ ?_
   | refine LeO.bind ?_ (fun _ => ?_)
theorem shutterref11_mod.mono : ∀ a0 a1 k, LeO (shutterref11_mod.f k a0 a1) (shutterref11_mod.f (k + 1) a0 a1) := by
 intro a0 a1 k
 have a := shutterref11_mod.mono_l k
 unfold shutterref11_mod.f
 repeat' first
   | (with_reducible exact a _ _)
   | (with_reducible exact LeO.refl _)
   | (with_reducible exact LeO.none _)
   | (with_reducible refine LeO.ite ?_ ?_)
   | (with_reducible refine LeO.bind ?_ (fun _ => ?_))
   | exact a _ _
   | exact LeO.none _
   | refine LeO.ite ?_ ?_
   | refine LeO.bind ?_ (fun _ => ?_)
theorem shutterref11_mod.calls (k : Nat) (a0 a1 r : Int) (w : World) (h : shutterref11_mod.f k a0 a1 = some r) :
  Calls Tryz.prog 66 #[.int .i64 a0, .int .i64 a1] w fun e w' => e = .returned (.int .i64 r) ∧ Drawn0 w w' := by
 unfold shutterref11_mod.f at h
 have H := h
 clear h
 have H' := Z H
 clear H
 go_enter Tryz.func66, Tryz.ntmps66
 go_wp2
 go_loopg [0] k (fun kq i w' => ∃ (a : Int), i = .int .i64 a ∧ Aside0 (shutterref11_mod.l0 kq a a1 = some r) ∧ Aside0 (kq ≤ k) ∧ Drawn0 w w')
 case atStart => exact ⟨(a0), (dn_), H', ⟨Nat.le_refl _⟩, dr_⟩
 case round =>
  clear H'
  obtain ⟨a, rfl, HA, b, ⟨j, rfl⟩⟩ := hrel
  cases gk with
  | zero => exact absurd HA.out (by simp [shutterref11_mod.l0])
  | succ k1 =>
   have H := HA.out
   clear HA
   simp only [shutterref11_mod.l0] at H
   by_cases c3 : a < 0
   ·rw [if_pos c3] at H
    have c := decide_eq_true c3
    clear c3
    have H' := Z H
    clear H
    go_wp2
    go_roundg k1
    case measure => have := b.out; omega
    case rel => exact ⟨(wrap64 (a + a1)), (dn_), H', ⟨by have := b.out; omega⟩, dr_⟩
   rw [if_neg c3] at H
   have c := decide_eq_false c3
   clear c3
   obtain ⟨c4, H⟩ := gf_ H
   obtain ⟨d, g⟩ := eF_ c4
   obtain rfl := Option.some.inj H
   go_wp2
   go_ret
   exact ⟨dn_, dr_⟩

/-! ### shutterref11_first: function 65 -/
def shutterref11_first.f (k : Nat) (c d : Int) (a : List (S55)) (e : Int) (g h : Bool) (a1 : Int) : Option (Int) := (shutterref11_mod.f k (wrap64 (a1 + 1)) (a.length : Int)).bind fun b => (if 0 ≤ a1 then (if a1 < (a.length : Int) then (if (rd_T55 a a1).f0 = true then (if ((rd_T55 a a1).f1.f0 = true) then (some (-1)) else (if 0 ≤ b then (if b < (a.length : Int) then (if ((rd_T55 a b).f0 = true) then (some (-1)) else (some b)) else (none)) else (none))) else (some (-1))) else (none)) else (none))
theorem shutterref11_first.mono : ∀ a0 a1 a b a4 c d k, LeO (shutterref11_first.f k a0 a1 a b a4 c d) (shutterref11_first.f (k + 1) a0 a1 a b a4 c d) := by
 intro a0 a1 a b a4 c d k
 unfold shutterref11_first.f
 repeat' first
   | (with_reducible exact shutterref11_mod.mono _ _ _)
   | (with_reducible exact LeO.refl _)
   | (with_reducible exact LeO.none _)
   | (with_reducible refine LeO.ite ?_ ?_)
   | (with_reducible refine LeO.bind ?_ (fun _ => ?_))
   | exact shutterref11_mod.mono _ _ _
   | exact LeO.none _
   | refine LeO.ite ?_ ?_
   | refine LeO.bind ?_ (fun _ => ?_)
theorem shutterref11_first.calls (k : Nat) (Y aa : Int) (X : Option Addr) (ae : Nat) (a : List (S55)) (ab : Int) (ac ad : Bool) (a1 r : Int) (w : World) (ar : Kd.C k55 w X a.length a) (aq : a.length ≤ ae) (h : shutterref11_first.f k Y aa a ab ac ad a1 = some r) :
  Calls Tryz.prog 65 #[.agg #[.int .i64 Y, .int .i64 aa, .slice X a.length ae, .int .i64 ab, .bool ac, .bool ad], .int .i64 a1] w fun e w' => e = .returned (.int .i64 r) ∧ Below w.heap.size w w' := by
 have br := Tryz.underlying24
 have J := Z ar
 have bm := Z aq
 clear ar aq
 have HB := Z (Below.refl w.heap.size w)
 unfold shutterref11_first.f at h
 have H := h
 clear h
 replace H := bn_ H
 obtain ⟨i, A3, H⟩ := H
 obtain ⟨c4, H⟩ := gt_ H
 have bp := decide_eq_true c4
 clear c4
 obtain ⟨c5, H⟩ := gt_ H
 have bq := decide_eq_true c5
 clear c5
 obtain ⟨ax, al⟩ : ∃ b_ : Bool, b_ = ((rd_T55 a a1).f0) := ⟨_, rfl⟩
 replace H : (if ax = true then (if ((rd_T55 a a1).f1.f0 = true) then (some (-1)) else (if 0 ≤ i then (if i < (a.length : Int) then (if ((rd_T55 a i).f0 = true) then (some (-1)) else (some i)) else (none)) else (none))) else (some (-1))) = some r := by rw [← al] at H; exact H
 have j := Z al
 clear al
 cases ax
 ·rw [iF_] at H
  obtain rfl := Option.some.inj H
  go_enter Tryz.func65, Tryz.ntmps65
  go_wp2_with (first | ((with_reducible refine gD_ 2 rfl ?_); refine bx_ 2 24 #[.int .i64 Y, .int .i64 aa, .slice X a.length ae, .int .i64 ab, .bool ac, .bool ad] ?_; intro F hg bv hbox hb; have O := Z hbox; have ah := ln' w hg; replace HB := bs_ hb; clear hb hbox hg; have aR := cells6 O.out) | ((with_reducible refine gF_ 66 rfl ?_); refine gd_ (some 11) Tryz.func66 (shutterref11_mod.calls k (wrap64 (a1 + 1)) (a.length : Int) i _ A3.out) ?_; rintro e w' ⟨rfl, ⟨nd, rfl⟩⟩; refine ⟨_, rfl, ?_⟩; have D : 0 ≤ (a1 : Int) := od_; have E : a1 < (a.length : Int) := od_; obtain ⟨M, T, b, c, d, s, g, u⟩ := at_T55 J.out a1 D E; (try rw [← j.out] at b); (try rw [← j.out] at c); (try rw [← j.out] at d); (try rw [← j.out] at g); cases T; replace b := (HB.out.cell (bk_ w _ b)).trans b; replace c := (HB.out.cell (bk_ w _ c)).trans c; replace d := (HB.out.cell (bk_ w _ d)).trans d; replace s := (HB.out.cell (bk_ w _ s)).trans s; replace g := (HB.out.cell (bk_ w _ g)).trans g; replace u := (HB.out.cell (bk_ w _ u)).trans u; replace D := eq_true D; replace E := eq_true E))
  go_ret
  exact ⟨er_, bl_⟩
 rw [if_pos rfl] at H
 obtain ⟨ay, am⟩ : ∃ b_ : Bool, b_ = ((rd_T55 a a1).f1.f0) := ⟨_, rfl⟩
 replace H : (if (ay = true) then (some (-1)) else (if 0 ≤ i then (if i < (a.length : Int) then (if ((rd_T55 a i).f0 = true) then (some (-1)) else (some i)) else (none)) else (none))) = some r := by rw [← am] at H; exact H
 have p := Z am
 clear am
 by_cases c9 : (ay = true)
 ·subst c9
  rw [if_pos rfl] at H
  obtain rfl := Option.some.inj H
  go_enter Tryz.func65, Tryz.ntmps65
  go_wp2_with (first | ((with_reducible refine gD_ 2 rfl ?_); refine bx_ 2 24 #[.int .i64 Y, .int .i64 aa, .slice X a.length ae, .int .i64 ab, .bool ac, .bool ad] ?_; intro F hg bs hbox hb; have O := Z hbox; have ah := ln' w hg; replace HB := bs_ hb; clear hb hbox hg; have az := cells6 O.out) | ((with_reducible refine gF_ 66 rfl ?_); refine gd_ (some 11) Tryz.func66 (shutterref11_mod.calls k (wrap64 (a1 + 1)) (a.length : Int) i _ A3.out) ?_; rintro e w' ⟨rfl, ⟨nd, rfl⟩⟩; refine ⟨_, rfl, ?_⟩; have D : 0 ≤ (a1 : Int) := od_; have E : a1 < (a.length : Int) := od_; obtain ⟨M, T, b, c, d, s, g, u⟩ := at_T55 J.out a1 D E; (try rw [← j.out] at b); (try rw [← p.out] at b); (try rw [← j.out] at c); (try rw [← p.out] at c); (try rw [← j.out] at d); (try rw [← p.out] at d); (try rw [← j.out] at g); (try rw [← p.out] at g); cases T; replace b := (HB.out.cell (bk_ w _ b)).trans b; replace c := (HB.out.cell (bk_ w _ c)).trans c; replace d := (HB.out.cell (bk_ w _ d)).trans d; replace s := (HB.out.cell (bk_ w _ s)).trans s; replace g := (HB.out.cell (bk_ w _ g)).trans g; replace u := (HB.out.cell (bk_ w _ u)).trans u; replace D := eq_true D; replace E := eq_true E; have K : 0 ≤ (a1 : Int) := od_; have L : a1 < (a.length : Int) := od_; obtain ⟨W, af, l, m, n, A, o, B⟩ := at_T55 J.out a1 K L; (try rw [← j.out] at l); (try rw [← p.out] at l); (try rw [← j.out] at m); (try rw [← p.out] at m); (try rw [← j.out] at n); (try rw [← p.out] at n); (try rw [← j.out] at o); (try rw [← p.out] at o); obtain rfl : M = W := (by injection af); replace l := (HB.out.cell (bk_ w _ l)).trans l; replace m := (HB.out.cell (bk_ w _ m)).trans m; replace n := (HB.out.cell (bk_ w _ n)).trans n; replace A := (HB.out.cell (bk_ w _ A)).trans A; replace o := (HB.out.cell (bk_ w _ o)).trans o; replace B := (HB.out.cell (bk_ w _ B)).trans B; replace K := eq_true K; replace L := eq_true L))
  go_ret
  exact ⟨er_, bl_⟩
 replace c9 := Bool.eq_false_iff.mpr c9
 subst c9
 rw [iF_] at H
 obtain ⟨an, H⟩ := gt_ H
 have bn := decide_eq_true an
 clear an
 obtain ⟨ao, H⟩ := gt_ H
 have bo := decide_eq_true ao
 clear ao
 obtain ⟨au, aj⟩ : ∃ b_ : Bool, b_ = ((rd_T55 a i).f0) := ⟨_, rfl⟩
 replace H : (if (au = true) then (some (-1)) else (some i)) = some r := by rw [← aj] at H; exact H
 have q := Z aj
 clear aj
 by_cases ap : (au = true)
 ·subst ap
  rw [if_pos rfl] at H
  obtain rfl := Option.some.inj H
  go_enter Tryz.func65, Tryz.ntmps65
  go_wp2_with (first | ((with_reducible refine gD_ 2 rfl ?_); refine bx_ 2 24 #[.int .i64 Y, .int .i64 aa, .slice X a.length ae, .int .i64 ab, .bool ac, .bool ad] ?_; intro F hg bt hbox hb; have O := Z hbox; have ah := ln' w hg; replace HB := bs_ hb; clear hb hbox hg; have aF := cells6 O.out) | ((with_reducible refine gF_ 66 rfl ?_); refine gd_ (some 11) Tryz.func66 (shutterref11_mod.calls k (wrap64 (a1 + 1)) (a.length : Int) i _ A3.out) ?_; rintro e w' ⟨rfl, ⟨nd, rfl⟩⟩; refine ⟨_, rfl, ?_⟩; have D : 0 ≤ (a1 : Int) := od_; have E : a1 < (a.length : Int) := od_; obtain ⟨M, T, b, c, d, s, g, u⟩ := at_T55 J.out a1 D E; (try rw [← j.out] at b); (try rw [← p.out] at b); (try rw [← q.out] at b); (try rw [← j.out] at c); (try rw [← p.out] at c); (try rw [← q.out] at c); (try rw [← j.out] at d); (try rw [← p.out] at d); (try rw [← q.out] at d); (try rw [← j.out] at g); (try rw [← p.out] at g); (try rw [← q.out] at g); cases T; replace b := (HB.out.cell (bk_ w _ b)).trans b; replace c := (HB.out.cell (bk_ w _ c)).trans c; replace d := (HB.out.cell (bk_ w _ d)).trans d; replace s := (HB.out.cell (bk_ w _ s)).trans s; replace g := (HB.out.cell (bk_ w _ g)).trans g; replace u := (HB.out.cell (bk_ w _ u)).trans u; replace D := eq_true D; replace E := eq_true E; have K : 0 ≤ (a1 : Int) := od_; have L : a1 < (a.length : Int) := od_; obtain ⟨W, af, l, m, n, A, o, B⟩ := at_T55 J.out a1 K L; (try rw [← j.out] at l); (try rw [← p.out] at l); (try rw [← q.out] at l); (try rw [← j.out] at m); (try rw [← p.out] at m); (try rw [← q.out] at m); (try rw [← j.out] at n); (try rw [← p.out] at n); (try rw [← q.out] at n); (try rw [← j.out] at o); (try rw [← p.out] at o); (try rw [← q.out] at o); obtain rfl : M = W := (by injection af); replace l := (HB.out.cell (bk_ w _ l)).trans l; replace m := (HB.out.cell (bk_ w _ m)).trans m; replace n := (HB.out.cell (bk_ w _ n)).trans n; replace A := (HB.out.cell (bk_ w _ A)).trans A; replace o := (HB.out.cell (bk_ w _ o)).trans o; replace B := (HB.out.cell (bk_ w _ B)).trans B; replace K := eq_true K; replace L := eq_true L; have U : 0 ≤ (i : Int) := od_; have V : i < (a.length : Int) := od_; obtain ⟨ai, ak, v, x, y, G, z, I⟩ := at_T55 J.out i U V; (try rw [← j.out] at v); (try rw [← p.out] at v); (try rw [← q.out] at v); (try rw [← j.out] at x); (try rw [← p.out] at x); (try rw [← q.out] at x); (try rw [← j.out] at y); (try rw [← p.out] at y); (try rw [← q.out] at y); (try rw [← j.out] at z); (try rw [← p.out] at z); (try rw [← q.out] at z); obtain rfl : M = ai := (by injection ak); replace v := (HB.out.cell (bk_ w _ v)).trans v; replace x := (HB.out.cell (bk_ w _ x)).trans x; replace y := (HB.out.cell (bk_ w _ y)).trans y; replace G := (HB.out.cell (bk_ w _ G)).trans G; replace z := (HB.out.cell (bk_ w _ z)).trans z; replace I := (HB.out.cell (bk_ w _ I)).trans I; replace U := eq_true U; replace V := eq_true V))
  go_ret
  exact ⟨er_, bl_⟩
 replace ap := Bool.eq_false_iff.mpr ap
 subst ap
 rw [iF_] at H
 obtain rfl := Option.some.inj H
 go_enter Tryz.func65, Tryz.ntmps65
 go_wp2_with (first | ((with_reducible refine gD_ 2 rfl ?_); refine bx_ 2 24 #[.int .i64 Y, .int .i64 aa, .slice X a.length ae, .int .i64 ab, .bool ac, .bool ad] ?_; intro F hg bu hbox hb; have O := Z hbox; have ah := ln' w hg; replace HB := bs_ hb; clear hb hbox hg; have aL := cells6 O.out) | ((with_reducible refine gF_ 66 rfl ?_); refine gd_ (some 11) Tryz.func66 (shutterref11_mod.calls k (wrap64 (a1 + 1)) (a.length : Int) i _ A3.out) ?_; rintro e w' ⟨rfl, ⟨nd, rfl⟩⟩; refine ⟨_, rfl, ?_⟩; have D : 0 ≤ (a1 : Int) := od_; have E : a1 < (a.length : Int) := od_; obtain ⟨M, T, b, c, d, s, g, u⟩ := at_T55 J.out a1 D E; (try rw [← j.out] at b); (try rw [← p.out] at b); (try rw [← q.out] at b); (try rw [← j.out] at c); (try rw [← p.out] at c); (try rw [← q.out] at c); (try rw [← j.out] at d); (try rw [← p.out] at d); (try rw [← q.out] at d); (try rw [← j.out] at g); (try rw [← p.out] at g); (try rw [← q.out] at g); cases T; replace b := (HB.out.cell (bk_ w _ b)).trans b; replace c := (HB.out.cell (bk_ w _ c)).trans c; replace d := (HB.out.cell (bk_ w _ d)).trans d; replace s := (HB.out.cell (bk_ w _ s)).trans s; replace g := (HB.out.cell (bk_ w _ g)).trans g; replace u := (HB.out.cell (bk_ w _ u)).trans u; replace D := eq_true D; replace E := eq_true E; have K : 0 ≤ (a1 : Int) := od_; have L : a1 < (a.length : Int) := od_; obtain ⟨W, af, l, m, n, A, o, B⟩ := at_T55 J.out a1 K L; (try rw [← j.out] at l); (try rw [← p.out] at l); (try rw [← q.out] at l); (try rw [← j.out] at m); (try rw [← p.out] at m); (try rw [← q.out] at m); (try rw [← j.out] at n); (try rw [← p.out] at n); (try rw [← q.out] at n); (try rw [← j.out] at o); (try rw [← p.out] at o); (try rw [← q.out] at o); obtain rfl : M = W := (by injection af); replace l := (HB.out.cell (bk_ w _ l)).trans l; replace m := (HB.out.cell (bk_ w _ m)).trans m; replace n := (HB.out.cell (bk_ w _ n)).trans n; replace A := (HB.out.cell (bk_ w _ A)).trans A; replace o := (HB.out.cell (bk_ w _ o)).trans o; replace B := (HB.out.cell (bk_ w _ B)).trans B; replace K := eq_true K; replace L := eq_true L; have U : 0 ≤ (i : Int) := od_; have V : i < (a.length : Int) := od_; obtain ⟨ai, ak, v, x, y, G, z, I⟩ := at_T55 J.out i U V; (try rw [← j.out] at v); (try rw [← p.out] at v); (try rw [← q.out] at v); (try rw [← j.out] at x); (try rw [← p.out] at x); (try rw [← q.out] at x); (try rw [← j.out] at y); (try rw [← p.out] at y); (try rw [← q.out] at y); (try rw [← j.out] at z); (try rw [← p.out] at z); (try rw [← q.out] at z); obtain rfl : M = ai := (by injection ak); replace v := (HB.out.cell (bk_ w _ v)).trans v; replace x := (HB.out.cell (bk_ w _ x)).trans x; replace y := (HB.out.cell (bk_ w _ y)).trans y; replace G := (HB.out.cell (bk_ w _ G)).trans G; replace z := (HB.out.cell (bk_ w _ z)).trans z; replace I := (HB.out.cell (bk_ w _ I)).trans I; replace U := eq_true U; replace V := eq_true V))
 go_ret
 exact ⟨er_, bl_⟩

end Go.Proofs.YtjpedimndkibnaaGreatDoor.P
