/- pp.py and press2.py (wip/tools) wrote this text. -/
import Derived.Test.YtphboakgkmjpbaaGreatDoorJHostDoes1
import Derived.Test.YtphboakgkmjpbaaGreatDoorPx4
import Derived.Test.YtphboakgkmjpbaaGreatDoorPx8
import Derived.Test.YtphboakgkmjpbaaGreatDoorPx9
import Derived.Test.YtphboakgkmjpbaaGreatDoorPx10
namespace Go.Proofs.YtphboakgkmjpbaaGreatDoor.P
open Go.RowKit Go.Proofs.YtphboakgkmjpbaaGreatDoorW.PrintWords Go.Proofs.YtphboakgkmjpbaaGreatDoorW.PrintLast Go.Proofs.YtphboakgkmjpbaaGreatDoorW.PrintMore
attribute [local go_sem] max2_int min2_int max_two min_two max_three min_three max_four min_four
attribute [local go_sem] Instr.field asAgg
set_option linter.unusedVariables false
set_option linter.unusedSimpArgs false
set_option maxHeartbeats 8000000
set_option maxRecDepth 100000

/-! ### paint_brush_do: function 40 -/
section
theorem R_offoB {α : Type} {d : Kd α} {e base : Nat} {ok : Nat → Prop} {v : Value} {xs : List α} {w w1 : World} {g : Nat} (h : Kd.R d e w base ok v xs) (hE : d.E = []) (hne : some g ≠ v.ownBlock) (hm : ∀ k, k ≠ g → w1.heap[k]? = w.heap[k]?) : Kd.R d e w1 base ok v xs :=
 Kd.R_mono (Kd.R_step (Kd.R_tight hE h) (fun k hk _ => hm k (fun e_ => hne (by rw [← e_]; exact hk)))) (fun k hk => h.1 k hk.symm)
theorem own_newB {α : Type} {d : Kd α} {e base g : Nat} {ok : Nat → Prop} {v : Value} {xs : List α} {w : World} (h : Kd.R d e w base ok v xs) (hg : g = w.heap.size) : some g ≠ v.ownBlock := fun hk => by
 have := own_lt h.2.choose_spec.1 g hk.symm
 omega
/-- Blocks other than two: as they were. -/
structure Fr (g go : Nat) (W W' : World) : Prop where
 os : W'.os = W.os
 tape : W'.tape = W.tape
 output : W'.output = W.output
 size : W.heap.size ≤ W'.heap.size
 block : ∀ k, k < W.heap.size → k ≠ g → k ≠ go → W'.heap[k]? = W.heap[k]?
theorem Fr.refl (g go : Nat) (W : World) : Fr g go W W := ⟨rfl, rfl, rfl, Nat.le_refl _, fun _ _ _ _ => rfl⟩
theorem Fr.of_below {g go : Nat} {W W' : World} (h : Below W.heap.size W W') : Fr g go W W' := ⟨h.os, h.tape, h.output, h.size, fun k hk _ _ => h.block k hk⟩
theorem Fr.trans {g go : Nat} {W a b : World} (h : Fr g go W a) (k : Fr g go a b) : Fr g go W b := ⟨k.os.trans h.os, k.tape.trans h.tape, k.output.trans h.output, Nat.le_trans h.size k.size, fun i hi c d => (k.block i (Nat.lt_of_lt_of_le hi h.size) c d).trans (h.block i hi c d)⟩
theorem Fr.set {g go : Nat} (W : World) (i : Nat) (v : Value) : Fr g go W (W.setCell ⟨g, i, none⟩ v) := ⟨rfl, rfl, rfl, by simp [World.setCell], fun k _ a _ => Below.heap_setCell _ _ _ k a⟩
theorem Fr.row {g go : Nat} (W : World) (i : Nat) (v : Value) : Fr g go W (W.setCell ⟨go, i, none⟩ v) := ⟨rfl, rfl, rfl, by simp [World.setCell], fun k _ _ a => Below.heap_setCell _ _ _ k a⟩
theorem Fr.drew {g go : Nat} {W a : World} (h : Fr g go W a) : Fr g go W a.drew := h.trans (Fr.of_below (below_drew (Below.refl _ _)))
/-- brush.put: the cell at the brush's place, and the place behind it. -/
theorem brush_put (r c : Int) (go co : Nat) (l : List (S47)) (cu : Int) (lo ins : Bool) (at_ : Int) (k m o : Bool) (n3 : Int) (b4 : Bool) (n5 : Int) (g B : Nat) (ok : Nat → Prop) (W : World) (hb : W.heap[g]? = some (.cells #[.int .i64 r, .int .i64 c, .slice (some ⟨go, 0, none⟩) l.length co, .int .i64 cu, .bool lo, .bool ins, .int .i64 at_] 79 (0, 0))) (hr : Kd.R k47 47 W B ok (.slice (some ⟨go, 0, none⟩) l.length co) l) (hn : l.length ≤ 16383) (s : 0 ≤ at_) (u : at_ < l.length) :
  Calls Tryz.prog 66 #[.pointer (some ⟨g, 0, none⟩), .agg #[.bool k, .bool m, .bool o, .int .i64 n3, .bool b4, .int .u8 n5]] W fun e w' => e = .returned (.tuple #[]) ∧ Aside0 (w'.heap[g]? = some (.cells #[.int .i64 r, .int .i64 c, .slice (some ⟨go, 0, none⟩) l.length co, .int .i64 cu, .bool lo, .bool ins, .int .i64 (onI l.length at_ 1)] 79 (0, 0))) ∧ Aside0 (Kd.R k47 47 w' B ok (.slice (some ⟨go, 0, none⟩) l.length co) (l.set at_.toNat (⟨k, ⟨m, o, n3, b4⟩, n5⟩ : S47))) ∧ Aside0 (Fr g go W w') := by
 have BK := Z hb
 have HO := Z hr
 have H0 := Z s
 have H1 := Z u
 have FR := Z (Fr.refl g go W)
 have HA := Z (show grid_On.f r c (l.set at_.toNat (⟨k, ⟨m, o, n3, b4⟩, n5⟩ : S47)) cu lo ins at_ 1 = some (onI l.length at_ 1) by rw [grid_On.eq r c _ cu lo ins at_ 1 (by rw [List.length_set]; exact hn) s (by rw [List.length_set]; exact u), List.length_set])
 have HC := Z (Kd.R_reads' hr).2.1
 have HG := Z (fun (W : World) (hC : Kd.C k47 W (some ⟨go, 0, none⟩) l.length (l.set at_.toNat (⟨k, ⟨m, o, n3, b4⟩, n5⟩ : S47))) => (show Calls Tryz.prog 85 #[.agg #[.int .i64 r, .int .i64 c, .slice (some ⟨go, 0, none⟩) l.length co, .int .i64 cu, .bool lo, .bool ins], .int .i64 at_, .int .i64 1] W (fun e w' => e = .returned (.int .i64 (onI l.length at_ 1)) ∧ Below W.heap.size W w') by
  have h_ := grid_On.calls r c (some ⟨go, 0, none⟩) co (l.set at_.toNat (⟨k, ⟨m, o, n3, b4⟩, n5⟩ : S47)) cu lo ins at_ 1 (onI l.length at_ 1) W
  rw [List.length_set] at h_
  exact h_ hC HC.out HA.out))
 have hu := Tryz.underlying24
 have T := Tryz.underlying79
 have U := Tryz.underlying47
 have p0 : (0 ≤ at_) = True := eq_true s
 have p1 : (at_ < (l.length : Int)) = True := eq_true u
 clear hb hr s u
 go_enter Tryz.func66, Tryz.ntmps66
 go_wp2_with (first | ((with_reducible refine gD_ 3 rfl ?_); refine bx_ 3 47 #[.bool k, .bool m, .bool o, .int .i64 n3, .bool b4, .int .u8 n5] ?_; intro q hg w1 hbox hb; have a := kb' BK hb; have b := rb' HO hb; have d := Z (FR.out.trans (Fr.of_below hb)); have p := Z hbox; have F := nl' BK hg; have G := Z (own_newB HO.out hg); clear BK HO FR hb hbox hg; have BK := a; have HO := b; have FR := d; have BX := p; have NX := F; have NO := G; clear a b d p F G))
 replace BK := Z (blk_drew BK.out)
 replace HO := Z (Kd.R_drew HO.out)
 replace FR := Z (FR.out.drew)
 replace BX := Z (blk_drew BX.out)
 refine start_ (n := 12) (S := fun w' => w'.cell? ⟨g, 2, none⟩ = some (.slice (some ⟨go, 0, none⟩) l.length co) ∧ w'.cell? ⟨g, 6, none⟩ = some (.int .i64 at_) ∧ w'.cell? ⟨q, 0, none⟩ = some (.bool k) ∧ w'.cell? ⟨q, 1, none⟩ = some (.bool m) ∧ w'.cell? ⟨q, 2, none⟩ = some (.bool o) ∧ w'.cell? ⟨q, 3, none⟩ = some (.int .i64 n3) ∧ w'.cell? ⟨q, 4, none⟩ = some (.bool b4) ∧ w'.cell? ⟨q, 5, none⟩ = some (.int .u8 n5)) (ds := [11]) (bv 12 0) (by kernel_rfl) rfl rfl hd_ (fun hHeld => ?_)
 generalize World.drew _ = w5 at BK HO FR BX hHeld ⊢
 obtain ⟨ce, hcl, hM, hcc, hfr⟩ := Kd.R_elem HO.out z47 at_ H0.out H1.out
 obtain rfl := k47_openM hM
 have hx_0 : w5.cell? ⟨go, (at_ : Int).toNat * 6, none⟩ = some _ := hcc 0 _ rfl
 have hf_0 : w5.frozen? ⟨go, (at_ : Int).toNat * 6, none⟩ = false := hfr 0
 have hx_1 : w5.cell? ⟨go, (at_ : Int).toNat * 6 + 1, none⟩ = some _ := hcc 1 _ rfl
 have hf_1 : w5.frozen? ⟨go, (at_ : Int).toNat * 6 + 1, none⟩ = false := hfr 1
 have hx_2 : w5.cell? ⟨go, (at_ : Int).toNat * 6 + 2, none⟩ = some _ := hcc 2 _ rfl
 have hf_2 : w5.frozen? ⟨go, (at_ : Int).toNat * 6 + 2, none⟩ = false := hfr 2
 have hx_3 : w5.cell? ⟨go, (at_ : Int).toNat * 6 + 3, none⟩ = some _ := hcc 3 _ rfl
 have hf_3 : w5.frozen? ⟨go, (at_ : Int).toNat * 6 + 3, none⟩ = false := hfr 3
 have hx_4 : w5.cell? ⟨go, (at_ : Int).toNat * 6 + 4, none⟩ = some _ := hcc 4 _ rfl
 have hf_4 : w5.frozen? ⟨go, (at_ : Int).toNat * 6 + 4, none⟩ = false := hfr 4
 have hx_5 : w5.cell? ⟨go, (at_ : Int).toNat * 6 + 5, none⟩ = some _ := hcc 5 _ rfl
 have hf_5 : w5.frozen? ⟨go, (at_ : Int).toNat * 6 + 5, none⟩ = false := hfr 5
 have HP := Z (Kd.R_seg HO.out at_ H0.out H1.out (seg := [.bool k, .bool m, .bool o, .int .i64 n3, .bool b4, .int .u8 n5]) (j := 0) hcl hcc (show 6 ≤ 6 from by decide) (x' := (⟨k, ⟨m, o, n3, b4⟩, n5⟩ : S47)) (k47_mkM _ _ _ _) (fun _ hk => hk))
 clear hcl hcc hfr hM
 refine pA_ 0 12 1 (some 4) ?_
 refine pA_ 1 12 3 (some 5) ?_
 refine pA_ 2 12 7 (some 6) ?_
 refine pA_ 3 12 15 (some 7) ?_
 refine pA_ 5 12 47 (some 9) ?_
 refine pA_ 6 12 111 (some 10) ?_
 refine pA_ 7 12 239 (some 11) ?_
 refine tA_ hHeld 4 12 255 (some 8) ?_
 refine tA_ hHeld 8 12 511 (some 12) ?_
 refine tA_ hHeld 9 12 1023 (some 13) ?_
 refine pA_ 10 12 2047 (some 14) ?_
 refine last_ (i := 11) (N := none) (bv 12 4095) rfl rfl (by kernel_rfl) (by decide) (fun K hK => ?_)
 refine skip_ (w1 := ?_) (by rfl) rfl ?_ ?_
 rotate_left
 ·go_simp
  rfl
 refine hK.out _ _ ?_
 clear hK K
 refine done_ (by kernel_rfl) ?_
 try go_wp2
 obtain ⟨w6, hw⟩ : ∃ w6 : World, w6 = ((((((w5.setCell ⟨go, (at_ : Int).toNat * 6, none⟩ (.bool k)).setCell ⟨go, (at_ : Int).toNat * 6 + 1, none⟩ (.bool m)).setCell ⟨go, (at_ : Int).toNat * 6 + 2, none⟩ (.bool o)).setCell ⟨go, (at_ : Int).toNat * 6 + 3, none⟩ (.int .i64 n3)).setCell ⟨go, (at_ : Int).toNat * 6 + 4, none⟩ (.bool b4)).setCell ⟨go, (at_ : Int).toNat * 6 + 5, none⟩ (.int .u8 n5)) := ⟨_, rfl⟩
 rw [← hw]
 have hg : w5.grownBy w6 (some go) := by rw [hw]; exact HP.out.2
 have a := Z (blk_grown BK.out hg (Kd.R_ne HO.out BK.out (by decide)))
 have b : Aside0 (Kd.R k47 47 w6 B ok (.slice (some ⟨go, 0, none⟩) l.length co) (l.set at_.toNat (⟨k, ⟨m, o, n3, b4⟩, n5⟩ : S47))) := ⟨by rw [hw]; exact HP.out.1⟩
 have d : Aside0 (Fr g go W w6) := ⟨by rw [hw]; exact FR.out.trans ((((((Fr.row _ _ _).trans (Fr.row _ _ _)).trans (Fr.row _ _ _)).trans (Fr.row _ _ _)).trans (Fr.row _ _ _)).trans (Fr.row _ _ _))⟩
 clear hw hg HP BK HO FR BX hHeld hx_0 hx_1 hx_2 hx_3 hx_4 hx_5 hf_0 hf_1 hf_2 hf_3 hf_4 hf_5
 have BK := Z (blk_drew a.out)
 have HO := Z (Kd.R_drew b.out)
 have FR := Z (d.out.drew)
 clear a b d
 refine start_ (n := 13) (S := fun w' => w'.cell? ⟨g, 0, none⟩ = some (.int .i64 r) ∧ w'.cell? ⟨g, 1, none⟩ = some (.int .i64 c) ∧ w'.cell? ⟨g, 2, none⟩ = some (.slice (some ⟨go, 0, none⟩) l.length co) ∧ w'.cell? ⟨g, 3, none⟩ = some (.int .i64 cu) ∧ w'.cell? ⟨g, 4, none⟩ = some (.bool lo) ∧ w'.cell? ⟨g, 5, none⟩ = some (.bool ins) ∧ w'.cell? ⟨g, 6, none⟩ = some (.int .i64 at_)) (ds := [12]) (bv 13 0) (by kernel_rfl) rfl rfl hd_ (fun hHeld => ?_)
 generalize World.drew _ = w7 at BK HO FR hHeld ⊢
 refine pA_ 0 13 1 (some 15) ?_
 refine pA_ 1 13 3 (some 16) ?_
 refine pA_ 2 13 7 (some 17) ?_
 refine pA_ 3 13 15 (some 18) ?_
 refine pA_ 5 13 47 (some 20) ?_
 refine pA_ 6 13 111 (some 21) ?_
 refine pA_ 7 13 239 (some 22) ?_
 refine tA_ hHeld 4 13 255 (some 19) ?_
 refine tA_ hHeld 8 13 511 (some 23) ?_
 refine one_ (i := 9) (N := some 24) (bv 13 1023) rfl rfl (by kernel_rfl) (by decide) (fun K hK => ?_)
 refine goes_ Tryz.func85 (by kernel_rfl) rfl #[.agg #[.int .i64 r, .int .i64 c, .slice (some ⟨go, 0, none⟩) l.length co, .int .i64 cu, .bool lo, .bool ins], .int .i64 at_, .int .i64 1] (by rfl) rfl rfl (by simp only [List.map_toArray, List.map_cons, List.map_nil]; rfl) ?_
 with_reducible refine (HG.out _ ?side1).mono ?_
 (case side1 => have h_ := (Kd.R_reads' HO.out).2.2; rw [List.length_set] at h_; exact h_)
 rintro e w8 ⟨rfl, hb⟩
 refine ⟨_, rfl, ?_⟩
 replace BK := kb' BK hb
 replace HO := rb' HO hb
 replace FR := Z (FR.out.trans (Fr.of_below hb))
 clear hb
 refine hK.out _ _ hd_ (fun hHeld => ?_)
 clear hK K
 refine nA_ (some 24) ?_
 refine pA_ 10 13 2047 (some 25) ?_
 refine pA_ 11 13 4095 (some 26) ?_
 have V := cells7 BK.out
 refine last_ (i := 12) (N := none) (bv 13 8191) rfl rfl (by kernel_rfl) (by decide) (fun K hK => ?_)
 refine skip_ (w1 := ?_) (by rfl) rfl ?_ ?_
 rotate_left
 ·go_simp
  rfl
 refine hK.out _ _ ?_
 clear hK K
 refine done_ (by kernel_rfl) ?_
 try go_wp2
 (first | go_end0 | ((try simp only [Exit.inBlock, Exit.then]); refine bodyPost_ret (results_none rfl _ _ _) rfl ?_))
 exact ⟨rfl, ⟨by refine blk_put (cs := #[.int .i64 r, .int .i64 c, .slice (some ⟨go, 0, none⟩) l.length co, .int .i64 cu, .bool lo, .bool ins, .int .i64 at_]) ?_ 6 _ rfl; exact BK.out⟩, ⟨R_off HO.out BK.out (by decide) off2_⟩, ⟨FR.out.trans (Fr.set _ _ _)⟩⟩
theorem Fr.far {g go a : Nat} {W b : World} (h : Fr g go W b) (e : W.heap.size ≤ a) {i : Nat} {v : Value} : Fr g go W (b.setCell ⟨a, i, none⟩ v) := ⟨h.os, h.tape, h.output, by have := h.size; simp [World.setCell]; exact this, fun k hk c d => (Below.heap_setCell _ _ _ k (show k ≠ a by omega)).trans (h.block k hk c d)⟩
/-- the first cell of the next open field, ahead of the end; else 0 -/
def tabW (l : List S47) : Nat → Int → Int
 | 0, _ => 0
 | d + 1, x => if entI l x = true then onI l.length x 1 else tabW l d (x + 1)
def tabI (l : List S47) (at_ : Int) : Int := tabW l (l.length - at_.toNat) at_
/-- brush.tab: the place goes to the next open field. -/
theorem brush_tab (r c : Int) (go co : Nat) (l : List (S47)) (cu : Int) (lo ins : Bool) (at_ : Int) (g B : Nat) (ok : Nat → Prop) (W : World) (hb : W.heap[g]? = some (.cells #[.int .i64 r, .int .i64 c, .slice (some ⟨go, 0, none⟩) l.length co, .int .i64 cu, .bool lo, .bool ins, .int .i64 at_] 79 (0, 0))) (hr : Kd.R k47 47 W B ok (.slice (some ⟨go, 0, none⟩) l.length co) l) (hn : l.length ≤ 16383) (h0 : 0 ≤ at_) (h1 : at_ < l.length) :
  Calls Tryz.prog 67 #[.pointer (some ⟨g, 0, none⟩)] W fun e w' => e = .returned (.tuple #[]) ∧ Aside0 (w'.heap[g]? = some (.cells #[.int .i64 r, .int .i64 c, .slice (some ⟨go, 0, none⟩) l.length co, .int .i64 cu, .bool lo, .bool ins, .int .i64 (tabI l at_)] 79 (0, 0))) ∧ Aside0 (Kd.R k47 47 w' B ok (.slice (some ⟨go, 0, none⟩) l.length co) l) ∧ Aside0 (Fr g go W w') := by
 have BK := Z hb
 have HO := Z hr
 have HN := Z hn
 have A0 := Z h0
 have A1 := Z h1
 have FR := Z (Fr.refl g go W)
 have hu := Tryz.underlying24
 have ag := Tryz.underlying79
 have ah := Tryz.underlying47
 clear hb hr hn h0 h1
 obtain ⟨H, I, J, K, L, M, O, n, o, q, s, u, w, y⟩ := cells7 BK.out
 go_enter Tryz.func67, Tryz.ntmps67
 go_wp2
 go_loopg [2] (l.length - at_.toNat) (fun m v2 w' => ∃ x : Int, v2 = .int .i64 x ∧ Aside0 (0 ≤ x) ∧ Aside0 (x + (m : Int) = l.length) ∧ Aside0 (tabW l m x = tabI l at_) ∧ Aside0 (w'.heap[g]? = some (.cells #[.int .i64 r, .int .i64 c, .slice (some ⟨go, 0, none⟩) l.length co, .int .i64 cu, .bool lo, .bool ins, .int .i64 at_] 79 (0, 0))) ∧ Aside0 (Kd.R k47 47 w' B ok (.slice (some ⟨go, 0, none⟩) l.length co) l) ∧ Aside0 (Fr g go W w'))
 case atStart => exact ⟨at_, by first | rfl | (simp; done), A0, ⟨by have := A0.out; have := A1.out; omega⟩, ⟨rfl⟩, BK, HO, FR⟩
 case round =>
  clear H I J K L M O n o q s u w y BK HO FR
  obtain ⟨x, rfl, Y, XM, XT, BK, HO, FR⟩ := hrel
  obtain ⟨H, I, J, K, L, M, O, n, o, q, s, u, w, y⟩ := cells7 BK.out
  have X := Y.out
  have xm := XM.out
  by_cases cx : x < (l.length : Int)
  rotate_left
  ·have c0 := decide_eq_false cx
   cases gk with
   | succ k1 => exact absurd (by omega : x < (l.length : Int)) cx
   | zero =>
    clear cx xm X
    go_wp2
    (first | go_end0 | ((try simp only [Exit.inBlock, Exit.then]); refine bodyPost_ret (results_none rfl _ _ _) rfl ?_))
    exact ⟨rfl, ⟨by rw [show tabI l at_ = 0 by rw [← XT.out]; rfl]; refine blk_put (cs := #[.int .i64 r, .int .i64 c, .slice (some ⟨go, 0, none⟩) l.length co, .int .i64 cu, .bool lo, .bool ins, .int .i64 at_]) ?_ 6 _ rfl; exact BK.out⟩, ⟨R_off HO.out BK.out (by decide) off2_⟩, ⟨FR.out.trans (Fr.set _ _ _)⟩⟩
  have c0 := decide_eq_true cx
  cases gk with
  | zero => exact absurd cx (by omega)
  | succ k1 =>
   have hp : 0 < l.length := by omega
   have EN := Z (show x + 1 + ((k1 : Nat) : Int) = l.length by omega)
   have EW := Z (show wrap64 (x + 1) = x + 1 by have := HN.out; unfold wrap64; omega)
   obtain ⟨nx, hnx⟩ : ∃ nx, nx = onI l.length x 1 := ⟨_, rfl⟩
   have HX := Z hnx.symm
   have HA := Z (show grid_On.f r c l cu lo ins x 1 = some nx by rw [grid_On.eq r c l cu lo ins x 1 HN.out X cx, hnx])
   have N0 := Z (show 0 ≤ nx by rw [hnx]; exact onI_nonneg hp x 1)
   have U := Z (show nx < (l.length : Int) by rw [hnx]; exact onI_lt hp x 1)
   obtain ⟨fn, hfn⟩ : ∃ fn, fn = isF l nx := ⟨_, rfl⟩
   obtain ⟨ce, hcl, hM, hcc, hfr⟩ := Kd.R_elem HO.out z47 x X cx
   obtain rfl := k47_openM hM
   obtain ⟨v, hv⟩ : ∃ v, v = l.getD x.toNat z47 := ⟨_, rfl⟩
   have hE : entI l x = (v.f0 && !v.f1.f0 && !fn) := by rw [hv, hfn, hnx]; rfl
   rw [← hv] at hcc hM
   obtain ⟨b0, ⟨b, T, b3, b4⟩, b5⟩ := v
   have hE : entI l x = (b0 && !b && !fn) := hE
   have hx_0 : wr.cell? ⟨go, (x : Int).toNat * 6, none⟩ = some (.bool b0) := hcc 0 _ rfl
   have hx_1 : wr.cell? ⟨go, (x : Int).toNat * 6 + 1, none⟩ = some (.bool b) := hcc 1 _ rfl
   have hx_2 : wr.cell? ⟨go, (x : Int).toNat * 6 + 2, none⟩ = some (.bool T) := hcc 2 _ rfl
   have hx_3 : wr.cell? ⟨go, (x : Int).toNat * 6 + 3, none⟩ = some (.int .i64 b3) := hcc 3 _ rfl
   have hx_4 : wr.cell? ⟨go, (x : Int).toNat * 6 + 4, none⟩ = some (.bool b4) := hcc 4 _ rfl
   have hx_5 : wr.cell? ⟨go, (x : Int).toNat * 6 + 5, none⟩ = some (.int .u8 b5) := hcc 5 _ rfl
   have ENT := Z hE
   have FN := Z hfn
   have q0 : (0 ≤ x) = True := eq_true X
   have q1 : (x < (l.length : Int)) = True := eq_true cx
   have q2 : (0 ≤ nx) = True := eq_true N0.out
   have q3 : (nx < (l.length : Int)) = True := eq_true U.out
   clear hcl hcc hfr hM hv hE hfn hnx X cx xm hp
   cases b0 with
   | false =>
    have h_ := ENT.out
    clear ENT
    have ENT := Z (show ¬ entI l x = true by rw [h_]; simp)
    clear h_
    go_wp2_with (first | ((with_reducible refine gD_ 3 rfl ?_); refine bx_ 3 47 #[.bool false, .bool false, .bool false, .int .i64 0, .bool false, .int .u8 0] ?_; intro j hg w3 hbox hb; have a := kb' BK hb; have d := rb' HO hb; have h := Z (FR.out.trans (Fr.of_below hb)); have i := Z hbox; have C := nl' BK hg; have D := Z (own_newB HO.out hg); have E : Aside0 (W.heap.size ≤ j) := ⟨by rw [hg]; exact FR.out.size⟩; clear BK HO FR hb hbox hg; have BK := a; have HO := d; have FR := h; have BX := i; have NX := C; have NO := D; have GE := E; clear a d h i C D E; have k0 := cells6 BX.out) | ((with_reducible refine gate_store (t := 47) (p := 3) rfl ?_); refine sx_ 47 3 ((((((w3.setCell ⟨j, 0, none⟩ (.bool false)).setCell ⟨j, 1, none⟩ (.bool b)).setCell ⟨j, 2, none⟩ (.bool T)).setCell ⟨j, 3, none⟩ (.int .i64 b3)).setCell ⟨j, 4, none⟩ (.bool b4)).setCell ⟨j, 5, none⟩ (.int .u8 b5)) ?_; intro w4 hw; replace BK : Aside0 (w4.heap[g]? = some (.cells #[.int .i64 r, .int .i64 c, .slice (some ⟨go, 0, none⟩) l.length co, .int .i64 cu, .bool lo, .bool ins, .int .i64 at_] 79 (0, 0))) := ⟨by rw [hw]; exact blk_off BK.out NX.out off2_⟩; replace HO : Aside0 (Kd.R k47 47 w4 B ok (.slice (some ⟨go, 0, none⟩) l.length co) l) := ⟨by rw [hw]; exact R_offoB HO.out rfl NO.out off2_⟩; replace FR : Aside0 (Fr g go W w4) := ⟨by rw [hw]; exact Fr.far (Fr.far (Fr.far (Fr.far (Fr.far (Fr.far FR.out GE.out) GE.out) GE.out) GE.out) GE.out) GE.out⟩; replace BX : Aside0 (w4.heap[j]? = some (.cells #[.bool false, .bool b, .bool T, .int .i64 b3, .bool b4, .int .u8 b5] 47 (0, 0))) := ⟨by rw [hw]; exact put6 BX.out⟩; clear hw k0; obtain ⟨H, I, J, K, L, M, O, n, o, q, s, u, w, y⟩ := cells7 BK.out) | ((with_reducible refine gF_ 85 rfl ?_); refine gd_ (some 32) Tryz.func85 (grid_On.calls r c _ _ l cu lo ins x 1 nx _ ((Kd.R_reads' HO.out).2.2) (rL_ HO) HA.out) ?_; rintro e w5 ⟨rfl, hb⟩; refine ⟨_, rfl, ?_⟩; replace BK := kb' BK hb; replace HO := rb' HO hb; replace FR := Z (FR.out.trans (Fr.of_below hb)); replace BX := kb' BX hb; clear hb H I J K L M O n o q s u w y; have k0 := cells6 BX.out; obtain ⟨H, I, J, K, L, M, O, n, o, q, s, u, w, y⟩ := cells7 BK.out; obtain ⟨V, F, z, k, G⟩ := Kd.R_elem HO.out z47 nx N0.out U.out; obtain rfl := k47_openM z; have hy : w5.cell? ⟨go, (nx : Int).toNat * 6, none⟩ = some (.bool (l.getD nx.toNat z47).f0) := k 0 _ rfl; rw [show (l.getD nx.toNat z47).f0 = fn from FN.out.symm] at hy; clear F k G z))
    go_roundg k1
    case measure => omega
    case rel => exact ⟨x + 1, by first | (rw [EW.out]; done) | rw [EW.out], ⟨by have := Y.out; omega⟩, EN, ⟨by rw [← XT.out, tabW, if_neg ENT.out]⟩, BK, HO, FR⟩
   | true =>
    cases b with
    | true =>
     have h_ := ENT.out
     clear ENT
     have ENT := Z (show ¬ entI l x = true by rw [h_]; simp)
     clear h_
     go_wp2_with (first | ((with_reducible refine gD_ 3 rfl ?_); refine bx_ 3 47 #[.bool false, .bool false, .bool false, .int .i64 0, .bool false, .int .u8 0] ?_; intro j hg w3 hbox hb; have a := kb' BK hb; have d := rb' HO hb; have h := Z (FR.out.trans (Fr.of_below hb)); have i := Z hbox; have C := nl' BK hg; have D := Z (own_newB HO.out hg); have E : Aside0 (W.heap.size ≤ j) := ⟨by rw [hg]; exact FR.out.size⟩; clear BK HO FR hb hbox hg; have BK := a; have HO := d; have FR := h; have BX := i; have NX := C; have NO := D; have GE := E; clear a d h i C D E; have k0 := cells6 BX.out) | ((with_reducible refine gate_store (t := 47) (p := 3) rfl ?_); refine sx_ 47 3 ((((((w3.setCell ⟨j, 0, none⟩ (.bool true)).setCell ⟨j, 1, none⟩ (.bool true)).setCell ⟨j, 2, none⟩ (.bool T)).setCell ⟨j, 3, none⟩ (.int .i64 b3)).setCell ⟨j, 4, none⟩ (.bool b4)).setCell ⟨j, 5, none⟩ (.int .u8 b5)) ?_; intro w4 hw; replace BK : Aside0 (w4.heap[g]? = some (.cells #[.int .i64 r, .int .i64 c, .slice (some ⟨go, 0, none⟩) l.length co, .int .i64 cu, .bool lo, .bool ins, .int .i64 at_] 79 (0, 0))) := ⟨by rw [hw]; exact blk_off BK.out NX.out off2_⟩; replace HO : Aside0 (Kd.R k47 47 w4 B ok (.slice (some ⟨go, 0, none⟩) l.length co) l) := ⟨by rw [hw]; exact R_offoB HO.out rfl NO.out off2_⟩; replace FR : Aside0 (Fr g go W w4) := ⟨by rw [hw]; exact Fr.far (Fr.far (Fr.far (Fr.far (Fr.far (Fr.far FR.out GE.out) GE.out) GE.out) GE.out) GE.out) GE.out⟩; replace BX : Aside0 (w4.heap[j]? = some (.cells #[.bool true, .bool true, .bool T, .int .i64 b3, .bool b4, .int .u8 b5] 47 (0, 0))) := ⟨by rw [hw]; exact put6 BX.out⟩; clear hw k0; obtain ⟨H, I, J, K, L, M, O, n, o, q, s, u, w, y⟩ := cells7 BK.out) | ((with_reducible refine gF_ 85 rfl ?_); refine gd_ (some 32) Tryz.func85 (grid_On.calls r c _ _ l cu lo ins x 1 nx _ ((Kd.R_reads' HO.out).2.2) (rL_ HO) HA.out) ?_; rintro e w5 ⟨rfl, hb⟩; refine ⟨_, rfl, ?_⟩; replace BK := kb' BK hb; replace HO := rb' HO hb; replace FR := Z (FR.out.trans (Fr.of_below hb)); replace BX := kb' BX hb; clear hb H I J K L M O n o q s u w y; have k0 := cells6 BX.out; obtain ⟨H, I, J, K, L, M, O, n, o, q, s, u, w, y⟩ := cells7 BK.out; obtain ⟨V, F, z, k, G⟩ := Kd.R_elem HO.out z47 nx N0.out U.out; obtain rfl := k47_openM z; have hy : w5.cell? ⟨go, (nx : Int).toNat * 6, none⟩ = some (.bool (l.getD nx.toNat z47).f0) := k 0 _ rfl; rw [show (l.getD nx.toNat z47).f0 = fn from FN.out.symm] at hy; clear F k G z))
     go_roundg k1
     case measure => omega
     case rel => exact ⟨x + 1, by first | (rw [EW.out]; done) | rw [EW.out], ⟨by have := Y.out; omega⟩, EN, ⟨by rw [← XT.out, tabW, if_neg ENT.out]⟩, BK, HO, FR⟩
    | false =>
     cases fn with
     | true =>
      have h_ := ENT.out
      clear ENT
      have ENT := Z (show ¬ entI l x = true by rw [h_]; decide)
      clear h_
      go_wp2_with (first | ((with_reducible refine gD_ 3 rfl ?_); refine bx_ 3 47 #[.bool false, .bool false, .bool false, .int .i64 0, .bool false, .int .u8 0] ?_; intro j hg w3 hbox hb; have a := kb' BK hb; have d := rb' HO hb; have h := Z (FR.out.trans (Fr.of_below hb)); have i := Z hbox; have C := nl' BK hg; have D := Z (own_newB HO.out hg); have E : Aside0 (W.heap.size ≤ j) := ⟨by rw [hg]; exact FR.out.size⟩; clear BK HO FR hb hbox hg; have BK := a; have HO := d; have FR := h; have BX := i; have NX := C; have NO := D; have GE := E; clear a d h i C D E; have k0 := cells6 BX.out) | ((with_reducible refine gate_store (t := 47) (p := 3) rfl ?_); refine sx_ 47 3 ((((((w3.setCell ⟨j, 0, none⟩ (.bool true)).setCell ⟨j, 1, none⟩ (.bool false)).setCell ⟨j, 2, none⟩ (.bool T)).setCell ⟨j, 3, none⟩ (.int .i64 b3)).setCell ⟨j, 4, none⟩ (.bool b4)).setCell ⟨j, 5, none⟩ (.int .u8 b5)) ?_; intro w4 hw; replace BK : Aside0 (w4.heap[g]? = some (.cells #[.int .i64 r, .int .i64 c, .slice (some ⟨go, 0, none⟩) l.length co, .int .i64 cu, .bool lo, .bool ins, .int .i64 at_] 79 (0, 0))) := ⟨by rw [hw]; exact blk_off BK.out NX.out off2_⟩; replace HO : Aside0 (Kd.R k47 47 w4 B ok (.slice (some ⟨go, 0, none⟩) l.length co) l) := ⟨by rw [hw]; exact R_offoB HO.out rfl NO.out off2_⟩; replace FR : Aside0 (Fr g go W w4) := ⟨by rw [hw]; exact Fr.far (Fr.far (Fr.far (Fr.far (Fr.far (Fr.far FR.out GE.out) GE.out) GE.out) GE.out) GE.out) GE.out⟩; replace BX : Aside0 (w4.heap[j]? = some (.cells #[.bool true, .bool false, .bool T, .int .i64 b3, .bool b4, .int .u8 b5] 47 (0, 0))) := ⟨by rw [hw]; exact put6 BX.out⟩; clear hw k0; obtain ⟨H, I, J, K, L, M, O, n, o, q, s, u, w, y⟩ := cells7 BK.out) | ((with_reducible refine gF_ 85 rfl ?_); refine gd_ (some 32) Tryz.func85 (grid_On.calls r c _ _ l cu lo ins x 1 nx _ ((Kd.R_reads' HO.out).2.2) (rL_ HO) HA.out) ?_; rintro e w5 ⟨rfl, hb⟩; refine ⟨_, rfl, ?_⟩; replace BK := kb' BK hb; replace HO := rb' HO hb; replace FR := Z (FR.out.trans (Fr.of_below hb)); replace BX := kb' BX hb; clear hb H I J K L M O n o q s u w y; have k0 := cells6 BX.out; obtain ⟨H, I, J, K, L, M, O, n, o, q, s, u, w, y⟩ := cells7 BK.out; obtain ⟨V, F, z, k, G⟩ := Kd.R_elem HO.out z47 nx N0.out U.out; obtain rfl := k47_openM z; have hy : w5.cell? ⟨go, (nx : Int).toNat * 6, none⟩ = some (.bool (l.getD nx.toNat z47).f0) := k 0 _ rfl; rw [show (l.getD nx.toNat z47).f0 = true from FN.out.symm] at hy; clear F k G z))
      go_roundg k1
      case measure => omega
      case rel => exact ⟨x + 1, by first | (rw [EW.out]; done) | rw [EW.out], ⟨by have := Y.out; omega⟩, EN, ⟨by rw [← XT.out, tabW, if_neg ENT.out]⟩, BK, HO, FR⟩
     | false =>
      have h_ := ENT.out
      clear ENT
      have ENT := Z (show entI l x = true by rw [h_]; decide)
      clear h_
      go_wp2_with (first | ((with_reducible refine gD_ 3 rfl ?_); refine bx_ 3 47 #[.bool false, .bool false, .bool false, .int .i64 0, .bool false, .int .u8 0] ?_; intro j hg w3 hbox hb; have a := kb' BK hb; have d := rb' HO hb; have h := Z (FR.out.trans (Fr.of_below hb)); have i := Z hbox; have C := nl' BK hg; have D := Z (own_newB HO.out hg); have E : Aside0 (W.heap.size ≤ j) := ⟨by rw [hg]; exact FR.out.size⟩; clear BK HO FR hb hbox hg; have BK := a; have HO := d; have FR := h; have BX := i; have NX := C; have NO := D; have GE := E; clear a d h i C D E; have k0 := cells6 BX.out) | ((with_reducible refine gate_store (t := 47) (p := 3) rfl ?_); refine sx_ 47 3 ((((((w3.setCell ⟨j, 0, none⟩ (.bool true)).setCell ⟨j, 1, none⟩ (.bool false)).setCell ⟨j, 2, none⟩ (.bool T)).setCell ⟨j, 3, none⟩ (.int .i64 b3)).setCell ⟨j, 4, none⟩ (.bool b4)).setCell ⟨j, 5, none⟩ (.int .u8 b5)) ?_; intro w4 hw; replace BK : Aside0 (w4.heap[g]? = some (.cells #[.int .i64 r, .int .i64 c, .slice (some ⟨go, 0, none⟩) l.length co, .int .i64 cu, .bool lo, .bool ins, .int .i64 at_] 79 (0, 0))) := ⟨by rw [hw]; exact blk_off BK.out NX.out off2_⟩; replace HO : Aside0 (Kd.R k47 47 w4 B ok (.slice (some ⟨go, 0, none⟩) l.length co) l) := ⟨by rw [hw]; exact R_offoB HO.out rfl NO.out off2_⟩; replace FR : Aside0 (Fr g go W w4) := ⟨by rw [hw]; exact Fr.far (Fr.far (Fr.far (Fr.far (Fr.far (Fr.far FR.out GE.out) GE.out) GE.out) GE.out) GE.out) GE.out⟩; replace BX : Aside0 (w4.heap[j]? = some (.cells #[.bool true, .bool false, .bool T, .int .i64 b3, .bool b4, .int .u8 b5] 47 (0, 0))) := ⟨by rw [hw]; exact put6 BX.out⟩; clear hw k0; obtain ⟨H, I, J, K, L, M, O, n, o, q, s, u, w, y⟩ := cells7 BK.out) | ((with_reducible refine gF_ 85 rfl ?_); refine gd_ (some 32) Tryz.func85 (grid_On.calls r c _ _ l cu lo ins x 1 nx _ ((Kd.R_reads' HO.out).2.2) (rL_ HO) HA.out) ?_; rintro e w5 ⟨rfl, hb⟩; refine ⟨_, rfl, ?_⟩; replace BK := kb' BK hb; replace HO := rb' HO hb; replace FR := Z (FR.out.trans (Fr.of_below hb)); replace BX := kb' BX hb; clear hb H I J K L M O n o q s u w y; have k0 := cells6 BX.out; obtain ⟨H, I, J, K, L, M, O, n, o, q, s, u, w, y⟩ := cells7 BK.out; obtain ⟨V, F, z, k, G⟩ := Kd.R_elem HO.out z47 nx N0.out U.out; obtain rfl := k47_openM z; have hy : w5.cell? ⟨go, (nx : Int).toNat * 6, none⟩ = some (.bool (l.getD nx.toNat z47).f0) := k 0 _ rfl; rw [show (l.getD nx.toNat z47).f0 = false from FN.out.symm] at hy; clear F k G z))
      (first | go_end0 | ((try simp only [Exit.inBlock, Exit.then]); refine bodyPost_ret (results_none rfl _ _ _) rfl ?_))
      exact ⟨rfl, ⟨by rw [show tabI l at_ = nx by rw [← XT.out, tabW, if_pos ENT.out]; exact HX.out]; refine blk_put (cs := #[.int .i64 r, .int .i64 c, .slice (some ⟨go, 0, none⟩) l.length co, .int .i64 cu, .bool lo, .bool ins, .int .i64 at_]) ?_ 6 _ rfl; exact BK.out⟩, ⟨R_off HO.out BK.out (by decide) off2_⟩, ⟨FR.out.trans (Fr.set _ _ _)⟩⟩
/-- cells emptied, one behind the other, where they are open -/
def eraseF (op : Int → Bool) (a : List S47) (i : Int) : List S47 := if op i = true then a.set i.toNat ⟨(rd_T47 a i).f0, ⟨(rd_T47 a i).f1.f0, (rd_T47 a i).f1.f1, (rd_T47 a i).f1.f2, (rd_T47 a i).f1.f3⟩, 0⟩ else a
def eraseN (op : Int → Bool) (l : List S47) (sp : List Int) (n : Nat) : List S47 := (sp.take n).foldl (eraseF op) l
theorem eraseF_len (op : Int → Bool) (a : List S47) (i : Int) : (eraseF op a i).length = a.length := by unfold eraseF; split <;> simp
theorem erase_fold (op : Int → Bool) : ∀ (sp : List Int) (a : List S47), (sp.foldl (eraseF op) a).length = a.length
 | [], a => rfl
 | i :: s, a => by rw [List.foldl_cons, erase_fold op s, eraseF_len]
theorem eraseN_len (op : Int → Bool) (l : List S47) (sp : List Int) (n : Nat) : (eraseN op l sp n).length = l.length := erase_fold op _ _
theorem eraseN_next (op : Int → Bool) (l : List S47) (sp : List Int) (y : Int) (a : 0 ≤ y) (b : y < sp.length) : eraseN op l sp (y + 1).toNat = eraseF op (eraseN op l sp y.toNat) (rd sp y) := by
 obtain ⟨n, rfl⟩ := Int.eq_ofNat_of_zero_le a
 have hn : n < sp.length := by omega
 have e : rd sp (n : Int) = sp[n] := by unfold rd; simp [hn]
 rw [e, show ((n : Int) + 1).toNat = n + 1 by omega, show (n : Int).toNat = n by omega]
 unfold eraseN
 rw [List.take_succ_eq_append_getElem hn, List.foldl_append]; rfl
theorem rd_in (sp : List Int) (y : Int) (a : 0 ≤ y) (b : y < sp.length) : rd sp y ∈ sp := by
 obtain ⟨n, rfl⟩ := Int.eq_ofNat_of_zero_le a
 have hn : n < sp.length := by omega
 have e : rd sp (n : Int) = sp[n] := by unfold rd; simp [hn]
 rw [e]; exact List.getElem_mem hn
theorem own_elder {α : Type} {d : Kd α} {e base go : Nat} {ok : Nat → Prop} {v : Value} {xs : List α} {w : World} (h : Kd.R d e w base ok v xs) (hg : go < base) : some go ≠ v.ownBlock := fun hk => by
 have := Kd.R_base h go hk.symm
 omega
/-- brush.erase: what is open, from the place on up to another one, is emptied. -/
theorem brush_erase (kz : Nat) (r c : Int) (go co : Nat) (l : List (S47)) (cu : Int) (lo ins : Bool) (at_ to_ : Int) (sp : List Int) (op : Int → Bool) (g B : Nat) (ok : Nat → Prop) (W : World) (hb : W.heap[g]? = some (.cells #[.int .i64 r, .int .i64 c, .slice (some ⟨go, 0, none⟩) l.length co, .int .i64 cu, .bool lo, .bool ins, .int .i64 at_] 79 (0, 0))) (hr : Kd.R k47 47 W B ok (.slice (some ⟨go, 0, none⟩) l.length co) l) (hn : l.length ≤ 16383) (hS : grid_Span.f kz r c l cu lo ins at_ to_ = some sp) (hsn : sp.length ≤ 16383) (hop : ∀ i ∈ sp, 0 ≤ i ∧ i < l.length ∧ field_Open.f r c l cu lo ins i = some (op i)) :
  Calls Tryz.prog 69 #[.pointer (some ⟨g, 0, none⟩), .int .i64 to_] W fun e w' => e = .returned (.tuple #[]) ∧ Aside0 (w'.heap[g]? = some (.cells #[.int .i64 r, .int .i64 c, .slice (some ⟨go, 0, none⟩) l.length co, .int .i64 cu, .bool lo, .bool ins, .int .i64 at_] 79 (0, 0))) ∧ Aside0 (Kd.R k47 47 w' B ok (.slice (some ⟨go, 0, none⟩) l.length co) (eraseN op l sp sp.length)) ∧ Aside0 (Fr g go W w') := by
 have BK := Z hb
 have HO := Z hr
 have HN := Z hn
 have HSP := Z hS
 have HSN := Z hsn
 have HOP := Z hop
 have FR := Z (Fr.refl g go W)
 have GO := Z (show go < W.heap.size from own_lt hr.2.choose_spec.1 go rfl)
 have HC := Z (show grid_Copy.f r c l cu lo ins = some (r, c, l, cu, lo, ins) by unfold grid_Copy.f slices_Clone_shutter_api_Cell_shutter_api_Cell.f; rw [if_pos hn]; rfl)
 have hu := Tryz.underlying24
 have ao := Tryz.underlying79
 have ap := Tryz.underlying47
 clear hb hr hn hS hsn hop
 have t0 := cells7 BK.out
 go_enter Tryz.func69, Tryz.ntmps69
 go_wp2_with (first | ((with_reducible refine gF_ 16 rfl ?_); refine gd_ (some 11) Tryz.func16 (grid_Copy.calls r c _ _ l cu lo ins r c l cu lo ins _ ((Kd.R_reads' HO.out).2.2) (rL_ HO) HC.out) ?_; rintro e w1 ⟨v1, rfl, w, hb⟩; refine ⟨_, rfl, ?_⟩; have a := kb' BK hb; have b := rb' HO hb; have d := Z (FR.out.trans (Fr.of_below hb)); have k := Z w; clear BK HO FR hb w; have BK := a; have HO := b; have FR := d; have HW := k; clear a b d k; obtain ⟨Aw, cw, ew⟩ := Kd.R_slice HW.out; subst ew) | ((with_reducible refine gD_ 4 rfl ?_); refine bx_ 4 24 zS_ ?_; intro s hg w2 hbox hb; have a := kb' BK hb; have b := rb' HO hb; have d := Z (FR.out.trans (Fr.of_below hb)); have k := Z hbox; have o := nl' BK hg; have q := Z (own_newB HO.out hg); have z : Aside0 (W.heap.size ≤ s) := ⟨by rw [hg]; exact FR.out.size⟩; have A := rb' HW hb; have C := Z (own_newB HW.out hg); clear BK HO FR HW hb hbox hg; have BK := a; have HO := b; have FR := d; have BX := k; have NX := o; have NO := q; have GE := z; have HW := A; have NW := C; clear a b d k o q z A C; obtain ⟨k0, x, k2, k3, k4, k5, Q, T, U, n3, n4, n5⟩ := cells6 BX.out) | ((with_reducible refine gate_store (t := 24) (p := 4) rfl ?_); refine sx_ 24 4 ((((((w2.setCell ⟨s, 0, none⟩ (.int .i64 r)).setCell ⟨s, 1, none⟩ (.int .i64 c)).setCell ⟨s, 2, none⟩ (.slice Aw l.length cw)).setCell ⟨s, 3, none⟩ (.int .i64 cu)).setCell ⟨s, 4, none⟩ (.bool lo)).setCell ⟨s, 5, none⟩ (.bool ins)) ?_; intro w3 hw; replace BK : Aside0 (w3.heap[g]? = some (.cells #[.int .i64 r, .int .i64 c, .slice (some ⟨go, 0, none⟩) l.length co, .int .i64 cu, .bool lo, .bool ins, .int .i64 at_] 79 (0, 0))) := ⟨by rw [hw]; exact blk_off BK.out NX.out off2_⟩; replace HO : Aside0 (Kd.R k47 47 w3 B ok (.slice (some ⟨go, 0, none⟩) l.length co) l) := ⟨by rw [hw]; exact R_offoB HO.out rfl NO.out off2_⟩; replace FR : Aside0 (Fr g go W w3) := ⟨by rw [hw]; exact Fr.far (Fr.far (Fr.far (Fr.far (Fr.far (Fr.far FR.out GE.out) GE.out) GE.out) GE.out) GE.out) GE.out⟩; replace BX : Aside0 (w3.heap[s]? = some (.cells #[.int .i64 r, .int .i64 c, .slice Aw l.length cw, .int .i64 cu, .bool lo, .bool ins] 24 (0, 0))) := ⟨by rw [hw]; exact put6 BX.out⟩; replace HW : Aside0 (Kd.R k47 47 w3 W.heap.size (fun _ => True) (.slice Aw l.length cw) l) := ⟨by rw [hw]; exact R_offoB HW.out rfl NW.out off2_⟩; clear hw k0 x k2 k3 k4 k5 Q T U n3 n4 n5))
 replace BK := Z (blk_drew BK.out)
 replace HO := Z (Kd.R_drew HO.out)
 replace FR := Z (FR.out.drew)
 replace BX := Z (blk_drew BX.out)
 replace HW := Z (Kd.R_drew HW.out)
 refine start_ (n := 9) (S := fun w' => w'.cell? ⟨s, 0, none⟩ = some (.int .i64 r) ∧ w'.cell? ⟨s, 1, none⟩ = some (.int .i64 c) ∧ w'.cell? ⟨s, 2, none⟩ = some (.slice Aw l.length cw) ∧ w'.cell? ⟨s, 3, none⟩ = some (.int .i64 cu) ∧ w'.cell? ⟨s, 4, none⟩ = some (.bool lo) ∧ w'.cell? ⟨s, 5, none⟩ = some (.bool ins) ∧ w'.cell? ⟨g, 6, none⟩ = some (.int .i64 at_)) (ds := []) (bv 9 0) (by kernel_rfl) rfl rfl hd_ (fun hHeld => ?_)
 generalize World.drew _ = w7 at BK HO FR BX HW hHeld ⊢
 refine pA_ 1 9 2 (some 13) ?_
 refine pA_ 2 9 6 (some 14) ?_
 refine pA_ 3 9 14 (some 15) ?_
 refine pA_ 5 9 46 (some 17) ?_
 refine pA_ 8 9 302 (some 20) ?_
 refine tA_ hHeld 0 9 303 (some 12) ?_
 refine tA_ hHeld 4 9 319 (some 16) ?_
 refine one_ (i := 6) (N := some 18) (bv 9 383) rfl rfl (by kernel_rfl) (by decide) (fun K hK => ?_)
 refine goes_ Tryz.func68 (by kernel_rfl) rfl #[.agg #[.int .i64 r, .int .i64 c, .slice Aw l.length cw, .int .i64 cu, .bool lo, .bool ins], .int .i64 at_, .int .i64 to_] (by rfl) rfl rfl (by simp only [List.map_toArray, List.map_cons, List.map_nil]; rfl) ?_
 with_reducible refine (grid_Span.calls kz r c Aw cw l cu lo ins at_ to_ sp _ ?side1 ?side2 HSP.out).mono ?_
 (case side1 => exact (Kd.R_reads' HW.out).2.2)
 (case side2 => exact (Kd.R_reads' HW.out).2.1)
 rintro e w8 ⟨vs, rfl, hs, hb⟩
 refine ⟨_, rfl, ?_⟩
 have a := kb' BK hb
 have b := rb' HO hb
 have d := Z (FR.out.trans (Fr.of_below hb))
 have k := kb' BX hb
 have o := rb' HW hb
 have q := Z (Kd.R_lower hs FR.out.size)
 clear BK HO FR BX HW hb hs
 have BK := a
 have HO := b
 have FR := d
 have BX := k
 have HW := o
 have HS := q
 clear a b d k o q
 obtain ⟨As, cs, es⟩ := Kd.R_slice HS.out
 subst es
 refine hK.out _ _ hd_ (fun hHeld => ?_)
 clear hK K
 refine nA_ (some 18) ?_
 refine pA_ 7 9 511 (some 19) ?_
 refine done_ (by kernel_rfl) ?_
 try go_wp2
 go_loopg [20] sp.length (fun m V w' => ∃ y : Int, V = .int .i64 y ∧ Aside0 (0 ≤ y) ∧ Aside0 (y + (m : Int) = sp.length) ∧ Aside0 (w'.heap[g]? = some (.cells #[.int .i64 r, .int .i64 c, .slice (some ⟨go, 0, none⟩) l.length co, .int .i64 cu, .bool lo, .bool ins, .int .i64 at_] 79 (0, 0))) ∧ Aside0 (Kd.R k47 47 w' B ok (.slice (some ⟨go, 0, none⟩) l.length co) (eraseN op l sp y.toNat)) ∧ Aside0 (Fr g go W w') ∧ Aside0 (w'.heap[s]? = some (.cells #[.int .i64 r, .int .i64 c, .slice Aw l.length cw, .int .i64 cu, .bool lo, .bool ins] 24 (0, 0))) ∧ Aside0 (Kd.R k47 47 w' W.heap.size (fun _ => True) (.slice Aw l.length cw) l) ∧ Aside0 (Kd.R (Kd.int .i64) 3 w' W.heap.size (fun _ => True) (.slice As sp.length cs) sp))
 case atStart => exact ⟨0, by first | rfl | (simp; done), ⟨by omega⟩, ⟨by omega⟩, BK, HO, FR, BX, HW, HS⟩
 case round =>
  clear BK HO FR BX HW HS hHeld
  obtain ⟨y, rfl, D, YM, BK, HO, FR, BX, HW, HS⟩ := hrel
  have u := D.out
  have ym := YM.out
  by_cases cy : y < (sp.length : Int)
  rotate_left
  ·have c0 := decide_eq_false cy
   cases gk with
   | succ k1 => exact absurd (by omega : y < (sp.length : Int)) cy
   | zero =>
    have ye : y.toNat = sp.length := by omega
    clear cy ym u
    go_wp2
    (first | go_end0 | ((try simp only [Exit.inBlock, Exit.then]); refine bodyPost_ret (results_none rfl _ _ _) rfl ?_))
    exact ⟨rfl, BK, ⟨by rw [← ye]; exact HO.out⟩, FR⟩
  have c0 := decide_eq_true cy
  cases gk with
  | zero => exact absurd cy (by omega)
  | succ k1 =>
   have EN := Z (show y + 1 + ((k1 : Nat) : Int) = sp.length by omega)
   have EW := Z (show wrap64 (y + 1) = y + 1 by have := HSN.out; unfold wrap64; omega)
   have YN := Z (eraseN_next op l sp y u cy)
   obtain ⟨i, hi⟩ : ∃ i, i = rd sp y := ⟨_, rfl⟩
   obtain ⟨i0, i1, hop⟩ := HOP.out _ (rd_in sp y u cy)
   rw [← hi] at i0 i1 hop
   have HI := Z hop
   have F := Z i0
   have G := Z i1
   obtain ⟨ads, ea, hx⟩ := Kd.at_int (Kd.R_reads' HS.out).2.2 y u cy
   cases ea
   rw [← hi] at hx
   have YI := Z hi
   have q0 : (0 ≤ y) = True := eq_true u
   have q1 : (y < (sp.length : Int)) = True := eq_true cy
   have q2 : (0 ≤ i) = True := eq_true i0
   have q3 : (i < (l.length : Int)) = True := eq_true i1
   obtain ⟨k0, x, k2, k3, k4, k5, Q, T, U, n3, n4, n5⟩ := cells6 BX.out
   clear u ym cy hi i0 i1 hop
   obtain ⟨ys, hys⟩ : ∃ ys, ys = eraseN op l sp y.toNat := ⟨_, rfl⟩
   rw [← hys] at HO YN
   have YL := Z (show ys.length = l.length by rw [hys, eraseN_len])
   clear hys
   obtain ⟨ob, hob⟩ : ∃ ob, ob = op i := ⟨_, rfl⟩
   rw [← hob] at HI
   have OB := Z hob
   clear hob
   cases ob with
   | false =>
    go_wp2_with (fail)
    (with_reducible refine (field_Open.calls r c _ _ l cu lo ins i false _ ?side1 ?side2 HI.out).mono ?_)
    (case side1 => exact (Kd.R_reads' HW.out).2.2)
    (case side2 => exact (Kd.R_reads' HW.out).2.1)
    rintro e E ⟨rfl, hb⟩
    replace BK := kb' BK hb
    replace HO := rb' HO hb
    replace FR := Z (FR.out.trans (Fr.of_below hb))
    replace BX := kb' BX hb
    replace HW := rb' HW hb
    replace HS := rb' HS hb
    clear hb
    go_wp2
    go_roundg k1
    case measure => omega
    case rel => exact ⟨y + 1, by first | (rw [EW.out]; done) | rw [EW.out], ⟨by have := D.out; omega⟩, EN, BK, ⟨by rw [YN.out, ← YI.out]; unfold eraseF; rw [if_neg (by rw [← OB.out]; decide)]; exact HO.out⟩, FR, BX, HW, HS⟩
   | true =>
    go_wp2_with (fail)
    (with_reducible refine (field_Open.calls r c _ _ l cu lo ins i true _ ?side1 ?side2 HI.out).mono ?_)
    (case side1 => exact (Kd.R_reads' HW.out).2.2)
    (case side2 => exact (Kd.R_reads' HW.out).2.1)
    rintro e E ⟨rfl, hb⟩
    replace BK := kb' BK hb
    replace HO := rb' HO hb
    replace FR := Z (FR.out.trans (Fr.of_below hb))
    replace BX := kb' BX hb
    replace HW := rb' HW hb
    replace HS := rb' HS hb
    clear hb
    have t0 := cells7 BK.out
    obtain ⟨ce, hcl, hM, hcc, hfr⟩ := Kd.R_elem HO.out z47 i F.out G.out
    obtain rfl := k47_openM hM
    have am : E.cell? ⟨go, (i : Int).toNat * 6 + 5, none⟩ = some _ := hcc 5 _ rfl
    have an : E.frozen? ⟨go, (i : Int).toNat * 6 + 5, none⟩ = false := hfr 5
    have HP := Z (Kd.R_seg HO.out i F.out G.out (seg := [.int .u8 0]) (j := 5) hcl hcc (show 6 ≤ 6 from by decide) (x' := (⟨(rd_T47 ys i).f0, ⟨(rd_T47 ys i).f1.f0, (rd_T47 ys i).f1.f1, (rd_T47 ys i).f1.f2, (rd_T47 ys i).f1.f3⟩, 0⟩ : S47)) (k47_mkM _ _ _ _) (fun _ hk => hk))
    clear hcl hcc hfr hM
    go_wp2
    go_roundg k1
    case measure => omega
    case rel => exact ⟨y + 1, by first | (rw [EW.out]; done) | rw [EW.out], ⟨by have := D.out; omega⟩, EN, ⟨blk_grown BK.out HP.out.2 (Kd.R_ne HO.out BK.out (by decide))⟩, ⟨by rw [YN.out, ← YI.out]; unfold eraseF; rw [if_pos OB.out.symm]; exact HP.out.1⟩, ⟨FR.out.trans (Fr.row _ _ _)⟩, ⟨blk_grown BX.out HP.out.2 (Kd.R_ne HO.out BX.out (by decide))⟩, ⟨R_offoB HW.out rfl (own_elder HW.out GO.out) off2_⟩, ⟨R_offoB HS.out rfl (own_elder HS.out GO.out) off2_⟩⟩
theorem Fr.blk {g go k : Nat} {W W' : World} {o : Obj} (h : Fr g go W W') (hb : W.heap[k]? = some o) (a : k ≠ g) (b : k ≠ go) : W'.heap[k]? = some o := (h.block k (blk_lt hb) a b).trans hb
/-- brush.do: the place is set. -/
theorem brush_do3 (r c : Int) (go co : Nat) (l : List (S47)) (cu : Int) (lo ins : Bool) (at_ : Int) (At : Option Addr) (ct : Nat) (tx : List Int) (ap an : Bool) (as_ : Int) (am : Bool) (addr ch : Int) (g B : Nat) (ok : Nat → Prop) (W : World) (hb : W.heap[g]? = some (.cells #[.int .i64 r, .int .i64 c, .slice (some ⟨go, 0, none⟩) l.length co, .int .i64 cu, .bool lo, .bool ins, .int .i64 at_] 79 (0, 0))) (hr : Kd.R k47 47 W B ok (.slice (some ⟨go, 0, none⟩) l.length co) l) (hn : l.length ≤ 16383) (u : 0 ≤ at_) (v : at_ < l.length) :
  Calls Tryz.prog 40 #[.pointer (some ⟨g, 0, none⟩), .agg #[.int .i64 3, .slice At tx.length ct, .bool ap, .bool an, .int .i64 as_, .bool am, .int .i64 addr, .int .u8 ch]] W fun e w' => e = .returned (.tuple #[]) ∧ Aside0 (w'.heap[g]? = some (.cells #[.int .i64 r, .int .i64 c, .slice (some ⟨go, 0, none⟩) l.length co, .int .i64 cu, .bool lo, .bool ins, .int .i64 addr] 79 (0, 0))) ∧ Aside0 (Kd.R k47 47 w' B ok (.slice (some ⟨go, 0, none⟩) l.length co) l) ∧ Aside0 (Fr g go W w') := by
 have BK := Z hb
 have HO := Z hr
 have HN := Z hn
 have H0 := Z u
 have H1 := Z v
 have FR := Z (Fr.refl g go W)
 have GO := Z (show go < W.heap.size from own_lt hr.2.choose_spec.1 go rfl)
 have hu := Tryz.underlying24
 have F := Tryz.underlying79
 have G := Tryz.underlying47
 have H := Tryz.underlying49
 have I := Tryz.underlying45
 clear hb hr hn u v
 have w := cells7 BK.out
 go_enter Tryz.func40, Tryz.ntmps40
 go_wp2_with (first | ((with_reducible refine gD_ 3 rfl ?_); refine bx_ 3 49 #[.int .i64 3, .slice At tx.length ct, .bool ap, .bool an, .int .i64 as_, .bool am, .int .i64 addr, .int .u8 ch] ?_; intro E hg w1 hbox hb; have k := kb' BK hb; have m := rb' HO hb; have n := Z (FR.out.trans (Fr.of_below hb)); have o := Z hbox; have p := nl' BK hg; have q := Z (own_newB HO.out hg); have s : Aside0 (W.heap.size ≤ E) := ⟨by rw [hg]; exact FR.out.size⟩; clear BK HO FR hb hbox hg w; have BK := k; have HO := m; have FR := n; have BX := o; have NX := p; have NO := q; have GE := s; clear k m n o p q s; have w := cells7 BK.out; have k0 := cells8 BX.out))
 (first | go_end0 | ((try simp only [Exit.inBlock, Exit.then]); refine bodyPost_ret (results_none rfl _ _ _) rfl ?_))
 exact ⟨rfl, ⟨by refine blk_put (cs := #[.int .i64 r, .int .i64 c, .slice (some ⟨go, 0, none⟩) l.length co, .int .i64 cu, .bool lo, .bool ins, .int .i64 at_]) ?_ 6 _ rfl; exact BK.out⟩, ⟨R_off HO.out BK.out (by decide) off2_⟩, ⟨FR.out.trans (Fr.set _ _ _)⟩⟩
/-- brush.do: the cursor is set. -/
theorem brush_do4 (r c : Int) (go co : Nat) (l : List (S47)) (cu : Int) (lo ins : Bool) (at_ : Int) (At : Option Addr) (ct : Nat) (tx : List Int) (ap an : Bool) (as_ : Int) (am : Bool) (addr ch : Int) (g B : Nat) (ok : Nat → Prop) (W : World) (hb : W.heap[g]? = some (.cells #[.int .i64 r, .int .i64 c, .slice (some ⟨go, 0, none⟩) l.length co, .int .i64 cu, .bool lo, .bool ins, .int .i64 at_] 79 (0, 0))) (hr : Kd.R k47 47 W B ok (.slice (some ⟨go, 0, none⟩) l.length co) l) (hn : l.length ≤ 16383) (u : 0 ≤ at_) (v : at_ < l.length) :
  Calls Tryz.prog 40 #[.pointer (some ⟨g, 0, none⟩), .agg #[.int .i64 4, .slice At tx.length ct, .bool ap, .bool an, .int .i64 as_, .bool am, .int .i64 addr, .int .u8 ch]] W fun e w' => e = .returned (.tuple #[]) ∧ Aside0 (w'.heap[g]? = some (.cells #[.int .i64 r, .int .i64 c, .slice (some ⟨go, 0, none⟩) l.length co, .int .i64 at_, .bool lo, .bool ins, .int .i64 at_] 79 (0, 0))) ∧ Aside0 (Kd.R k47 47 w' B ok (.slice (some ⟨go, 0, none⟩) l.length co) l) ∧ Aside0 (Fr g go W w') := by
 have BK := Z hb
 have HO := Z hr
 have HN := Z hn
 have H0 := Z u
 have H1 := Z v
 have FR := Z (Fr.refl g go W)
 have GO := Z (show go < W.heap.size from own_lt hr.2.choose_spec.1 go rfl)
 have hu := Tryz.underlying24
 have F := Tryz.underlying79
 have G := Tryz.underlying47
 have H := Tryz.underlying49
 have I := Tryz.underlying45
 clear hb hr hn u v
 have w := cells7 BK.out
 go_enter Tryz.func40, Tryz.ntmps40
 go_wp2_with (first | ((with_reducible refine gD_ 3 rfl ?_); refine bx_ 3 49 #[.int .i64 4, .slice At tx.length ct, .bool ap, .bool an, .int .i64 as_, .bool am, .int .i64 addr, .int .u8 ch] ?_; intro E hg w1 hbox hb; have k := kb' BK hb; have m := rb' HO hb; have n := Z (FR.out.trans (Fr.of_below hb)); have o := Z hbox; have p := nl' BK hg; have q := Z (own_newB HO.out hg); have s : Aside0 (W.heap.size ≤ E) := ⟨by rw [hg]; exact FR.out.size⟩; clear BK HO FR hb hbox hg w; have BK := k; have HO := m; have FR := n; have BX := o; have NX := p; have NO := q; have GE := s; clear k m n o p q s; have w := cells7 BK.out; have k0 := cells8 BX.out))
 (first | go_end0 | ((try simp only [Exit.inBlock, Exit.then]); refine bodyPost_ret (results_none rfl _ _ _) rfl ?_))
 exact ⟨rfl, ⟨by refine blk_put (cs := #[.int .i64 r, .int .i64 c, .slice (some ⟨go, 0, none⟩) l.length co, .int .i64 cu, .bool lo, .bool ins, .int .i64 at_]) ?_ 3 _ rfl; exact BK.out⟩, ⟨R_off HO.out BK.out (by decide) off2_⟩, ⟨FR.out.trans (Fr.set _ _ _)⟩⟩
/-- brush.do: to the next open field. -/
theorem brush_do5 (r c : Int) (go co : Nat) (l : List (S47)) (cu : Int) (lo ins : Bool) (at_ : Int) (At : Option Addr) (ct : Nat) (tx : List Int) (ap an : Bool) (as_ : Int) (am : Bool) (addr ch : Int) (g B : Nat) (ok : Nat → Prop) (W : World) (hb : W.heap[g]? = some (.cells #[.int .i64 r, .int .i64 c, .slice (some ⟨go, 0, none⟩) l.length co, .int .i64 cu, .bool lo, .bool ins, .int .i64 at_] 79 (0, 0))) (hr : Kd.R k47 47 W B ok (.slice (some ⟨go, 0, none⟩) l.length co) l) (hn : l.length ≤ 16383) (x : 0 ≤ at_) (y : at_ < l.length) :
  Calls Tryz.prog 40 #[.pointer (some ⟨g, 0, none⟩), .agg #[.int .i64 5, .slice At tx.length ct, .bool ap, .bool an, .int .i64 as_, .bool am, .int .i64 addr, .int .u8 ch]] W fun e w' => e = .returned (.tuple #[]) ∧ Aside0 (w'.heap[g]? = some (.cells #[.int .i64 r, .int .i64 c, .slice (some ⟨go, 0, none⟩) l.length co, .int .i64 cu, .bool lo, .bool ins, .int .i64 (tabI l at_)] 79 (0, 0))) ∧ Aside0 (Kd.R k47 47 w' B ok (.slice (some ⟨go, 0, none⟩) l.length co) l) ∧ Aside0 (Fr g go W w') := by
 have BK := Z hb
 have HO := Z hr
 have HN := Z hn
 have H0 := Z x
 have H1 := Z y
 have FR := Z (Fr.refl g go W)
 have GO := Z (show go < W.heap.size from own_lt hr.2.choose_spec.1 go rfl)
 have hu := Tryz.underlying24
 have I := Tryz.underlying79
 have J := Tryz.underlying47
 have K := Tryz.underlying49
 have L := Tryz.underlying45
 clear hb hr hn x y
 have z := cells7 BK.out
 go_enter Tryz.func40, Tryz.ntmps40
 go_wp2_with (first | ((with_reducible refine gD_ 3 rfl ?_); refine bx_ 3 49 #[.int .i64 5, .slice At tx.length ct, .bool ap, .bool an, .int .i64 as_, .bool am, .int .i64 addr, .int .u8 ch] ?_; intro H hg w1 hbox hb; have k := kb' BK hb; have m := rb' HO hb; have n := Z (FR.out.trans (Fr.of_below hb)); have o := Z hbox; have p := nl' BK hg; have q := Z (own_newB HO.out hg); have s : Aside0 (W.heap.size ≤ H) := ⟨by rw [hg]; exact FR.out.size⟩; clear BK HO FR hb hbox hg z; have BK := k; have HO := m; have FR := n; have BX := o; have NX := p; have NO := q; have GE := s; clear k m n o p q s; have z := cells7 BK.out; have k0 := cells8 BX.out))
 refine (brush_tab r c go co l cu lo ins at_ g B ok _ BK.out HO.out HN.out H0.out H1.out).mono ?_
 rintro e S ⟨rfl, u, w, v⟩
 go_wp2
 (first | go_end0 | ((try simp only [Exit.inBlock, Exit.then]); refine bodyPost_ret (results_none rfl _ _ _) rfl ?_))
 exact ⟨rfl, u, w, ⟨FR.out.trans v.out⟩⟩
/-- brush.do: a field begins. -/
theorem brush_do2 (r c : Int) (go co : Nat) (l : List (S47)) (cu : Int) (lo ins : Bool) (at_ : Int) (At : Option Addr) (ct : Nat) (tx : List Int) (ap an : Bool) (as_ : Int) (am : Bool) (addr ch : Int) (g B : Nat) (ok : Nat → Prop) (W : World) (hb : W.heap[g]? = some (.cells #[.int .i64 r, .int .i64 c, .slice (some ⟨go, 0, none⟩) l.length co, .int .i64 cu, .bool lo, .bool ins, .int .i64 at_] 79 (0, 0))) (hr : Kd.R k47 47 W B ok (.slice (some ⟨go, 0, none⟩) l.length co) l) (hn : l.length ≤ 16383) (x : 0 ≤ at_) (y : at_ < l.length) :
  Calls Tryz.prog 40 #[.pointer (some ⟨g, 0, none⟩), .agg #[.int .i64 2, .slice At tx.length ct, .bool ap, .bool an, .int .i64 as_, .bool am, .int .i64 addr, .int .u8 ch]] W fun e w' => e = .returned (.tuple #[]) ∧ Aside0 (w'.heap[g]? = some (.cells #[.int .i64 r, .int .i64 c, .slice (some ⟨go, 0, none⟩) l.length co, .int .i64 cu, .bool lo, .bool ins, .int .i64 (onI l.length at_ 1)] 79 (0, 0))) ∧ Aside0 (Kd.R k47 47 w' B ok (.slice (some ⟨go, 0, none⟩) l.length co) (l.set at_.toNat (⟨true, ⟨ap, an, as_, am⟩, 0⟩ : S47))) ∧ Aside0 (Fr g go W w') := by
 have BK := Z hb
 have HO := Z hr
 have HN := Z hn
 have H0 := Z x
 have H1 := Z y
 have FR := Z (Fr.refl g go W)
 have GO := Z (show go < W.heap.size from own_lt hr.2.choose_spec.1 go rfl)
 have hu := Tryz.underlying24
 have I := Tryz.underlying79
 have J := Tryz.underlying47
 have K := Tryz.underlying49
 have L := Tryz.underlying45
 clear hb hr hn x y
 have z := cells7 BK.out
 go_enter Tryz.func40, Tryz.ntmps40
 go_wp2_with (first | ((with_reducible refine gD_ 3 rfl ?_); refine bx_ 3 49 #[.int .i64 2, .slice At tx.length ct, .bool ap, .bool an, .int .i64 as_, .bool am, .int .i64 addr, .int .u8 ch] ?_; intro H hg w1 hbox hb; have k := kb' BK hb; have m := rb' HO hb; have n := Z (FR.out.trans (Fr.of_below hb)); have o := Z hbox; have p := nl' BK hg; have q := Z (own_newB HO.out hg); have s : Aside0 (W.heap.size ≤ H) := ⟨by rw [hg]; exact FR.out.size⟩; clear BK HO FR hb hbox hg z; have BK := k; have HO := m; have FR := n; have BX := o; have NX := p; have NO := q; have GE := s; clear k m n o p q s; have z := cells7 BK.out; have k0 := cells8 BX.out))
 refine (brush_put r c go co l cu lo ins at_ true ap an as_ am 0 g B ok _ BK.out HO.out HN.out H0.out H1.out).mono ?_
 rintro e S ⟨rfl, u, w, v⟩
 go_wp2
 (first | go_end0 | ((try simp only [Exit.inBlock, Exit.then]); refine bodyPost_ret (results_none rfl _ _ _) rfl ?_))
 exact ⟨rfl, u, w, ⟨FR.out.trans v.out⟩⟩
/-- brush.do: what is open is emptied. -/
theorem brush_do7 (kz : Nat) (sp : List Int) (op : Int → Bool) (r c : Int) (go co : Nat) (l : List (S47)) (cu : Int) (lo ins : Bool) (at_ : Int) (At : Option Addr) (ct : Nat) (tx : List Int) (ap an : Bool) (as_ : Int) (am : Bool) (addr ch : Int) (g B : Nat) (ok : Nat → Prop) (W : World) (hb : W.heap[g]? = some (.cells #[.int .i64 r, .int .i64 c, .slice (some ⟨go, 0, none⟩) l.length co, .int .i64 cu, .bool lo, .bool ins, .int .i64 at_] 79 (0, 0))) (hr : Kd.R k47 47 W B ok (.slice (some ⟨go, 0, none⟩) l.length co) l) (hn : l.length ≤ 16383) (J : 0 ≤ at_) (K : at_ < l.length) (hS : grid_Span.f kz r c l cu lo ins at_ addr = some sp) (hsn : sp.length ≤ 16383) (hop : ∀ i ∈ sp, 0 ≤ i ∧ i < l.length ∧ field_Open.f r c l cu lo ins i = some (op i)) :
  Calls Tryz.prog 40 #[.pointer (some ⟨g, 0, none⟩), .agg #[.int .i64 7, .slice At tx.length ct, .bool ap, .bool an, .int .i64 as_, .bool am, .int .i64 addr, .int .u8 ch]] W fun e w' => e = .returned (.tuple #[]) ∧ Aside0 (w'.heap[g]? = some (.cells #[.int .i64 r, .int .i64 c, .slice (some ⟨go, 0, none⟩) l.length co, .int .i64 cu, .bool lo, .bool ins, .int .i64 addr] 79 (0, 0))) ∧ Aside0 (Kd.R k47 47 w' B ok (.slice (some ⟨go, 0, none⟩) l.length co) (eraseN op l sp sp.length)) ∧ Aside0 (Fr g go W w') := by
 have BK := Z hb
 have HO := Z hr
 have HN := Z hn
 have H0 := Z J
 have H1 := Z K
 have FR := Z (Fr.refl g go W)
 have GO := Z (show go < W.heap.size from own_lt hr.2.choose_spec.1 go rfl)
 have hu := Tryz.underlying24
 have Q := Tryz.underlying79
 have S := Tryz.underlying47
 have T := Tryz.underlying49
 have U := Tryz.underlying45
 clear hb hr hn J K
 have o := cells7 BK.out
 go_enter Tryz.func40, Tryz.ntmps40
 go_wp2_with (first | ((with_reducible refine gD_ 3 rfl ?_); refine bx_ 3 49 #[.int .i64 7, .slice At tx.length ct, .bool ap, .bool an, .int .i64 as_, .bool am, .int .i64 addr, .int .u8 ch] ?_; intro P hg w1 hbox hb; have z := kb' BK hb; have A := rb' HO hb; have C := Z (FR.out.trans (Fr.of_below hb)); have D := Z hbox; have E := nl' BK hg; have F := Z (own_newB HO.out hg); have G : Aside0 (W.heap.size ≤ P) := ⟨by rw [hg]; exact FR.out.size⟩; clear BK HO FR hb hbox hg o; have BK := z; have HO := A; have FR := C; have BX := D; have NX := E; have NO := F; have GE := G; clear z A C D E F G; have o := cells7 BK.out; have k0 := cells8 BX.out))
 refine (brush_erase kz r c go co l cu lo ins at_ addr sp op g B ok _ BK.out HO.out HN.out hS hsn hop).mono ?_
 rintro e V ⟨rfl, n, I, x⟩
 have H := Z (x.out.blk BX.out NX.out.symm (by have := GO.out; have := GE.out; omega))
 clear o k0
 have o := cells7 n.out
 have k0 := cells8 H.out
 go_wp2
 (first | go_end0 | ((try simp only [Exit.inBlock, Exit.then]); refine bodyPost_ret (results_none rfl _ _ _) rfl ?_))
 exact ⟨rfl, ⟨by refine blk_put (cs := #[.int .i64 r, .int .i64 c, .slice (some ⟨go, 0, none⟩) l.length co, .int .i64 cu, .bool lo, .bool ins, .int .i64 at_]) ?_ 6 _ rfl; exact n.out⟩, ⟨R_off I.out n.out (by decide) off2_⟩, ⟨FR.out.trans (x.out.trans (Fr.set _ _ _))⟩⟩
/-- a character put -/
def put1 (s : List S47 × Int) (c : Int) : List S47 × Int := (s.1.set s.2.toNat ⟨false, ⟨false, false, 0, false⟩, c⟩, onI s.1.length s.2 1)
def textN (s : List S47 × Int) (tx : List Int) (n : Nat) : List S47 × Int := (tx.take n).foldl put1 s
def repN (s : List S47 × Int) (c : Int) : Nat → List S47 × Int
 | 0 => s
 | n + 1 => put1 (repN s c n) c
def InS (n : Nat) (s : List S47 × Int) : Prop := s.1.length = n ∧ 0 ≤ s.2 ∧ s.2 < n
theorem put1_in {n : Nat} {s : List S47 × Int} (h : InS n s) (c : Int) : InS n (put1 s c) := by
 obtain ⟨a, b, d⟩ := h
 unfold put1 InS
 refine ⟨by simp [a], ?_, ?_⟩
 ·exact onI_nonneg (by omega) _ _
 ·rw [← a]; exact onI_lt (by omega) _ _
theorem fold_in {n : Nat} : ∀ (tx : List Int) (s : List S47 × Int), InS n s → InS n (tx.foldl put1 s)
 | [], s, h => h
 | c :: t, s, h => fold_in t _ (put1_in h c)
theorem repN_in {n : Nat} {s : List S47 × Int} (h : InS n s) (c : Int) : ∀ k, InS n (repN s c k)
 | 0 => h
 | k + 1 => put1_in (repN_in h c k) c
theorem textN_next (s : List S47 × Int) (tx : List Int) (y : Int) (a : 0 ≤ y) (b : y < tx.length) : textN s tx (y + 1).toNat = put1 (textN s tx y.toNat) (rd tx y) := by
 obtain ⟨n, rfl⟩ := Int.eq_ofNat_of_zero_le a
 have hn : n < tx.length := by omega
 have e : rd tx (n : Int) = tx[n] := by unfold rd; simp [hn]
 rw [e, show ((n : Int) + 1).toNat = n + 1 by omega, show (n : Int).toNat = n by omega]
 unfold textN
 rw [List.take_succ_eq_append_getElem hn, List.foldl_append]; rfl
/-- brush.do: characters, one behind the other. -/
theorem brush_do1 (r c : Int) (go co : Nat) (l : List (S47)) (cu : Int) (lo ins : Bool) (at_ : Int) (At : Option Addr) (ct : Nat) (tx : List Int) (ap an : Bool) (as_ : Int) (am : Bool) (addr ch : Int) (g B : Nat) (ok : Nat → Prop) (W : World) (hb : W.heap[g]? = some (.cells #[.int .i64 r, .int .i64 c, .slice (some ⟨go, 0, none⟩) l.length co, .int .i64 cu, .bool lo, .bool ins, .int .i64 at_] 79 (0, 0))) (hr : Kd.R k47 47 W B ok (.slice (some ⟨go, 0, none⟩) l.length co) l) (hn : l.length ≤ 16383) (T : 0 ≤ at_) (U : at_ < l.length) (ht : ∀ W', Fr g go W W' → Kd.C (Kd.int .u8) W' At tx.length tx) (htn : tx.length ≤ 16383) :
  Calls Tryz.prog 40 #[.pointer (some ⟨g, 0, none⟩), .agg #[.int .i64 1, .slice At tx.length ct, .bool ap, .bool an, .int .i64 as_, .bool am, .int .i64 addr, .int .u8 ch]] W fun e w' => e = .returned (.tuple #[]) ∧ Aside0 (w'.heap[g]? = some (.cells #[.int .i64 r, .int .i64 c, .slice (some ⟨go, 0, none⟩) l.length co, .int .i64 cu, .bool lo, .bool ins, .int .i64 (textN (l, at_) tx tx.length).2] 79 (0, 0))) ∧ Aside0 (Kd.R k47 47 w' B ok (.slice (some ⟨go, 0, none⟩) l.length co) (textN (l, at_) tx tx.length).1) ∧ Aside0 (Fr g go W w') := by
 have BK := Z hb
 have HO := Z hr
 have HN := Z hn
 have H0 := Z T
 have H1 := Z U
 have FR := Z (Fr.refl g go W)
 have GO := Z (show go < W.heap.size from own_lt hr.2.choose_spec.1 go rfl)
 have hu := Tryz.underlying24
 have ad := Tryz.underlying79
 have ae := Tryz.underlying47
 have af := Tryz.underlying49
 have ag := Tryz.underlying45
 clear hb hr hn T U
 have H := cells7 BK.out
 go_enter Tryz.func40, Tryz.ntmps40
 go_wp2_with (first | ((with_reducible refine gD_ 3 rfl ?_); refine bx_ 3 49 #[.int .i64 1, .slice At tx.length ct, .bool ap, .bool an, .int .i64 as_, .bool am, .int .i64 addr, .int .u8 ch] ?_; intro S hg w1 hbox hb; have x := kb' BK hb; have z := rb' HO hb; have A := Z (FR.out.trans (Fr.of_below hb)); have D := Z hbox; have E := nl' BK hg; have F := Z (own_newB HO.out hg); have G : Aside0 (W.heap.size ≤ S) := ⟨by rw [hg]; exact FR.out.size⟩; clear BK HO FR hb hbox hg H; have BK := x; have HO := z; have FR := A; have BX := D; have NX := E; have NO := F; have GE := G; clear x z A D E F G; have H := cells7 BK.out; obtain ⟨k0, w, k2, k3, k4, k5, k6, k7, V, X, Y, n3, n4, n5, n6, n7⟩ := cells8 BX.out))
 have LN := Z htn
 have HT := Z ht
 go_loopg [25] tx.length (fun m aa w' => ∃ y : Int, aa = .int .i64 y ∧ Aside0 (0 ≤ y) ∧ Aside0 (y + (m : Int) = tx.length) ∧ Aside0 (w'.heap[g]? = some (.cells #[.int .i64 r, .int .i64 c, .slice (some ⟨go, 0, none⟩) l.length co, .int .i64 cu, .bool lo, .bool ins, .int .i64 (textN (l, at_) tx y.toNat).2] 79 (0, 0))) ∧ Aside0 (Kd.R k47 47 w' B ok (.slice (some ⟨go, 0, none⟩) l.length co) (textN (l, at_) tx y.toNat).1) ∧ Aside0 (Fr g go W w') ∧ Aside0 (w'.heap[S]? = some (.cells #[.int .i64 1, .slice At tx.length ct, .bool ap, .bool an, .int .i64 as_, .bool am, .int .i64 addr, .int .u8 ch] 49 (0, 0))))
 case atStart => exact ⟨0, by first | rfl | (simp; done), ⟨by omega⟩, ⟨by omega⟩, BK, HO, FR, BX⟩
 case round =>
  (try clear H)
  (try clear k0 w k2 k3 k4 k5 k6 k7 V X Y n3 n4 n5 n6 n7)
  clear BK HO FR BX
  obtain ⟨y, rfl, Q, YM, BK, HO, FR, BX⟩ := hrel
  obtain ⟨k0, w, k2, k3, k4, k5, k6, k7, V, X, Y, n3, n4, n5, n6, n7⟩ := cells8 BX.out
  have n := Q.out
  have ym := YM.out
  by_cases cy : y < (tx.length : Int)
  rotate_left
  ·have c0 := decide_eq_false cy
   cases gk with
   | succ k1 => exact absurd (by omega : y < (tx.length : Int)) cy
   | zero =>
    have ye : y.toNat = tx.length := by omega
    rw [ye] at BK HO
    clear cy ym n
    go_wp2
    (first | go_end0 | ((try simp only [Exit.inBlock, Exit.then]); refine bodyPost_ret (results_none rfl _ _ _) rfl ?_))
    exact ⟨rfl, BK, HO, FR⟩
  have c0 := decide_eq_true cy
  cases gk with
  | zero => exact absurd cy (by omega)
  | succ k1 =>
   have EN := Z (show y + 1 + ((k1 : Nat) : Int) = tx.length by omega)
   have EW := Z (show wrap64 (y + 1) = y + 1 by have := LN.out; unfold wrap64; omega)
   have q0 : (0 ≤ y) = True := eq_true n
   have q1 : (y < (tx.length : Int)) = True := eq_true cy
   obtain ⟨ad_, ea_, hx⟩ := Kd.at_int (HT.out _ FR.out) y n cy
   cases ea_
   have YN := Z (textN_next (l, at_) tx y n cy)
   have INS : InS l.length (textN (l, at_) tx y.toNat) := fold_in _ _ ⟨rfl, H0.out, H1.out⟩
   obtain ⟨s, hs⟩ : ∃ s, s = textN (l, at_) tx y.toNat := ⟨_, rfl⟩
   have IS : InS l.length s := by rw [hs]; exact INS
   rw [← hs] at BK HO YN
   obtain ⟨l1, a1⟩ := s
   obtain ⟨a, u, v⟩ := IS
   have a : l1.length = l.length := a
   have HL := Z a
   have P0 := Z (show 0 ≤ a1 from u)
   have P1 := Z (show a1 < (l1.length : Int) by rw [a]; exact v)
   have HOl : Aside0 (Kd.R k47 47 wr B ok (.slice (some ⟨go, 0, none⟩) l1.length co) l1) := by rw [a]; exact HO
   have BKl : Aside0 (wr.heap[g]? = some (.cells #[.int .i64 r, .int .i64 c, .slice (some ⟨go, 0, none⟩) l1.length co, .int .i64 cu, .bool lo, .bool ins, .int .i64 a1] 79 (0, 0))) := by rw [a]; exact BK
   clear a u v hs cy n ym INS
   go_wp2_with (fail)
   refine (brush_put r c go co l1 cu lo ins a1 false false false 0 false (rd tx y) g B ok _ BKl.out HOl.out (by rw [HL.out]; exact HN.out) P0.out P1.out).mono ?_
   rintro e w9 ⟨rfl, o, q, p⟩
   rw [HL.out] at o q
   have P := Z (p.out.blk BX.out NX.out.symm (by have := GO.out; have := GE.out; omega))
   go_wp2
   go_roundg k1
   case measure => omega
   case rel => exact ⟨y + 1, by first | (rw [EW.out]; done) | rw [EW.out], ⟨by have := Q.out; omega⟩, EN, ⟨by rw [YN.out]; unfold put1; rw [show (l1, a1).1.length = l.length from HL.out]; exact o.out⟩, ⟨by rw [YN.out]; exact q.out⟩, ⟨FR.out.trans p.out⟩, P⟩
/-- brush.do: a character, up to a place. -/
theorem brush_do6 (kz : Nat) (sp : List Int) (r c : Int) (go co : Nat) (l : List (S47)) (cu : Int) (lo ins : Bool) (at_ : Int) (At : Option Addr) (ct : Nat) (tx : List Int) (ap an : Bool) (as_ : Int) (am : Bool) (addr ch : Int) (g B : Nat) (ok : Nat → Prop) (W : World) (hb : W.heap[g]? = some (.cells #[.int .i64 r, .int .i64 c, .slice (some ⟨go, 0, none⟩) l.length co, .int .i64 cu, .bool lo, .bool ins, .int .i64 at_] 79 (0, 0))) (hr : Kd.R k47 47 W B ok (.slice (some ⟨go, 0, none⟩) l.length co) l) (hn : l.length ≤ 16383) (h0 : 0 ≤ at_) (h1 : at_ < l.length) (hS : grid_Span.f kz r c l cu lo ins at_ addr = some sp) (hsn : sp.length ≤ 16383) :
  Calls Tryz.prog 40 #[.pointer (some ⟨g, 0, none⟩), .agg #[.int .i64 6, .slice At tx.length ct, .bool ap, .bool an, .int .i64 as_, .bool am, .int .i64 addr, .int .u8 ch]] W fun e w' => e = .returned (.tuple #[]) ∧ Aside0 (w'.heap[g]? = some (.cells #[.int .i64 r, .int .i64 c, .slice (some ⟨go, 0, none⟩) l.length co, .int .i64 cu, .bool lo, .bool ins, .int .i64 addr] 79 (0, 0))) ∧ Aside0 (Kd.R k47 47 w' B ok (.slice (some ⟨go, 0, none⟩) l.length co) (repN (l, at_) ch sp.length).1) ∧ Aside0 (Fr g go W w') := by
 have BK := Z hb
 have HO := Z hr
 have HN := Z hn
 have H0 := Z h0
 have H1 := Z h1
 have FR := Z (Fr.refl g go W)
 have GO := Z (show go < W.heap.size from own_lt hr.2.choose_spec.1 go rfl)
 have hu := Tryz.underlying24
 have aw := Tryz.underlying79
 have ax := Tryz.underlying47
 have ay := Tryz.underlying49
 have az := Tryz.underlying45
 clear hb hr hn h0 h1
 obtain ⟨D, E, F, G, H, I, J, o, p, q, u, w, x, z⟩ := cells7 BK.out
 go_enter Tryz.func40, Tryz.ntmps40
 go_wp2_with (first | ((with_reducible refine gD_ 3 rfl ?_); refine bx_ 3 49 #[.int .i64 6, .slice At tx.length ct, .bool ap, .bool an, .int .i64 as_, .bool am, .int .i64 addr, .int .u8 ch] ?_; intro V hg w1 hbox hb; have a := kb' BK hb; have b := rb' HO hb; have d := Z (FR.out.trans (Fr.of_below hb)); have j := Z hbox; have T := nl' BK hg; have A := Z (own_newB HO.out hg); have U : Aside0 (W.heap.size ≤ V) := ⟨by rw [hg]; exact FR.out.size⟩; clear BK HO FR hb hbox hg D E F G H I J o p q u w x z; have BK := a; have HO := b; have FR := d; have BX := j; have NX := T; have NO := A; have GE := U; clear a b d j T A U; obtain ⟨D, E, F, G, H, I, J, o, p, q, u, w, x, z⟩ := cells7 BK.out; have k0 := cells8 BX.out))
 have LN := Z hsn
 have HSP := Z hS
 replace BK := Z (blk_drew BK.out)
 replace HO := Z (Kd.R_drew HO.out)
 replace FR := Z (FR.out.drew)
 replace BX := Z (blk_drew BX.out)
 clear D E F G H I J o p q u w x z k0
 refine start_ (n := 13) (S := fun w' => w'.cell? ⟨g, 0, none⟩ = some (.int .i64 r) ∧ w'.cell? ⟨g, 1, none⟩ = some (.int .i64 c) ∧ w'.cell? ⟨g, 2, none⟩ = some (.slice (some ⟨go, 0, none⟩) l.length co) ∧ w'.cell? ⟨g, 3, none⟩ = some (.int .i64 cu) ∧ w'.cell? ⟨g, 4, none⟩ = some (.bool lo) ∧ w'.cell? ⟨g, 5, none⟩ = some (.bool ins) ∧ w'.cell? ⟨g, 6, none⟩ = some (.int .i64 at_) ∧ w'.cell? ⟨V, 6, none⟩ = some (.int .i64 addr)) (ds := []) (bv 13 0) (by kernel_rfl) rfl rfl hd_ (fun hHeld => ?_)
 generalize World.drew _ = w7 at BK HO FR BX hHeld ⊢
 refine pA_ 0 13 1 (some 49) ?_
 refine pA_ 1 13 3 (some 50) ?_
 refine pA_ 2 13 7 (some 51) ?_
 refine pA_ 4 13 23 (some 53) ?_
 refine pA_ 5 13 55 (some 54) ?_
 refine pA_ 6 13 119 (some 55) ?_
 refine pA_ 8 13 375 (some 57) ?_
 refine pA_ 12 13 4471 (some 61) ?_
 refine tA_ hHeld 3 13 4479 (some 52) ?_
 refine tA_ hHeld 7 13 4607 (some 56) ?_
 refine tA_ hHeld 9 13 5119 (some 58) ?_
 refine one_ (i := 10) (N := some 59) (bv 13 6143) rfl rfl (by kernel_rfl) (by decide) (fun K hK => ?_)
 refine goes_ Tryz.func68 (by kernel_rfl) rfl #[.agg #[.int .i64 r, .int .i64 c, .slice (some ⟨go, 0, none⟩) l.length co, .int .i64 cu, .bool lo, .bool ins], .int .i64 at_, .int .i64 addr] (by rfl) rfl rfl (by simp only [List.map_toArray, List.map_cons, List.map_nil]; rfl) ?_
 with_reducible refine (grid_Span.calls kz r c _ _ l cu lo ins at_ addr sp _ ?side1 ?side2 HSP.out).mono ?_
 (case side1 => exact (Kd.R_reads' HO.out).2.2)
 (case side2 => exact (Kd.R_reads' HO.out).2.1)
 rintro e w8 ⟨vs, rfl, hs, hb⟩
 refine ⟨_, rfl, ?_⟩
 have a := kb' BK hb
 have b := rb' HO hb
 have d := Z (FR.out.trans (Fr.of_below hb))
 have j := kb' BX hb
 have A := Z hs
 clear BK HO FR BX hb hs
 have BK := a
 have HO := b
 have FR := d
 have BX := j
 have HS := A
 clear a b d j A
 obtain ⟨As, cs, es⟩ := Kd.R_slice HS.out
 subst es
 clear HS
 refine hK.out _ _ hd_ (fun hHeld => ?_)
 clear hK K
 refine nA_ (some 59) ?_
 refine pA_ 11 13 8191 (some 60) ?_
 refine done_ (by kernel_rfl) ?_
 try go_wp2
 go_loopg [61] sp.length (fun m ar w' => ∃ y : Int, ar = .int .i64 y ∧ Aside0 (0 ≤ y) ∧ Aside0 (y + (m : Int) = sp.length) ∧ Aside0 (w'.heap[g]? = some (.cells #[.int .i64 r, .int .i64 c, .slice (some ⟨go, 0, none⟩) l.length co, .int .i64 cu, .bool lo, .bool ins, .int .i64 (repN (l, at_) ch y.toNat).2] 79 (0, 0))) ∧ Aside0 (Kd.R k47 47 w' B ok (.slice (some ⟨go, 0, none⟩) l.length co) (repN (l, at_) ch y.toNat).1) ∧ Aside0 (Fr g go W w') ∧ Aside0 (w'.heap[V]? = some (.cells #[.int .i64 6, .slice At tx.length ct, .bool ap, .bool an, .int .i64 as_, .bool am, .int .i64 addr, .int .u8 ch] 49 (0, 0))))
 case atStart => exact ⟨0, by first | rfl | (simp; done), ⟨by omega⟩, ⟨by omega⟩, BK, HO, FR, BX⟩
 case round =>
  (try clear D E F G H I J o p q u w x z)
  (try clear k0)
  clear BK HO FR BX
  obtain ⟨y, rfl, Y0, YM, BK, HO, FR, BX⟩ := hrel
  have k0 := cells8 BX.out
  have y0 := Y0.out
  have ym := YM.out
  by_cases cy : y < (sp.length : Int)
  rotate_left
  ·have c0 := decide_eq_false cy
   cases gk with
   | succ k1 => exact absurd (by omega : y < (sp.length : Int)) cy
   | zero =>
    have ye : y.toNat = sp.length := by omega
    rw [ye] at BK HO
    obtain ⟨D, E, F, G, H, I, J, o, p, q, u, w, x, z⟩ := cells7 BK.out
    clear cy ym y0
    go_wp2
    (first | go_end0 | ((try simp only [Exit.inBlock, Exit.then]); refine bodyPost_ret (results_none rfl _ _ _) rfl ?_))
    exact ⟨rfl, ⟨by refine blk_put (cs := #[.int .i64 r, .int .i64 c, .slice (some ⟨go, 0, none⟩) l.length co, .int .i64 cu, .bool lo, .bool ins, .int .i64 (repN (l, at_) ch sp.length).2]) ?_ 6 _ rfl; exact BK.out⟩, ⟨R_off HO.out BK.out (by decide) off2_⟩, ⟨FR.out.trans (Fr.set _ _ _)⟩⟩
  have c0 := decide_eq_true cy
  cases gk with
  | zero => exact absurd cy (by omega)
  | succ k1 =>
   have EN := Z (show y + 1 + ((k1 : Nat) : Int) = sp.length by omega)
   have EW := Z (show wrap64 (y + 1) = y + 1 by have := LN.out; unfold wrap64; omega)
   have q0 : (0 ≤ y) = True := eq_true y0
   have q1 : (y < (sp.length : Int)) = True := eq_true cy
   have YN := Z (show repN (l, at_) ch (y + 1).toNat = put1 (repN (l, at_) ch y.toNat) ch by rw [show (y + 1).toNat = y.toNat + 1 by omega]; rfl)
   have INS : InS l.length (repN (l, at_) ch y.toNat) := repN_in ⟨rfl, H0.out, H1.out⟩ ch _
   obtain ⟨s, hs⟩ : ∃ s, s = repN (l, at_) ch y.toNat := ⟨_, rfl⟩
   have IS : InS l.length s := by rw [hs]; exact INS
   rw [← hs] at BK HO YN
   obtain ⟨l1, a1⟩ := s
   obtain ⟨k, P, Q⟩ := IS
   have k : l1.length = l.length := k
   have HL := Z k
   have P0 := Z (show 0 ≤ a1 from P)
   have P1 := Z (show a1 < (l1.length : Int) by rw [k]; exact Q)
   have HOl : Aside0 (Kd.R k47 47 wr B ok (.slice (some ⟨go, 0, none⟩) l1.length co) l1) := by rw [k]; exact HO
   have BKl : Aside0 (wr.heap[g]? = some (.cells #[.int .i64 r, .int .i64 c, .slice (some ⟨go, 0, none⟩) l1.length co, .int .i64 cu, .bool lo, .bool ins, .int .i64 a1] 79 (0, 0))) := by rw [k]; exact BK
   clear k P Q hs cy y0 ym INS
   go_wp2_with (fail)
   refine (brush_put r c go co l1 cu lo ins a1 false false false 0 false ch g B ok _ BKl.out HOl.out (by rw [HL.out]; exact HN.out) P0.out P1.out).mono ?_
   rintro e w9 ⟨rfl, L, O, M⟩
   rw [HL.out] at L O
   have ac := Z (M.out.blk BX.out NX.out.symm (by have := GO.out; have := GE.out; omega))
   go_wp2
   go_roundg k1
   case measure => omega
   case rel => exact ⟨y + 1, by first | (rw [EW.out]; done) | rw [EW.out], ⟨by have := Y0.out; omega⟩, EN, ⟨by rw [YN.out]; unfold put1; rw [show (l1, a1).1.length = l.length from HL.out]; exact L.out⟩, ⟨by rw [YN.out]; exact O.out⟩, ⟨FR.out.trans M.out⟩, ac⟩
end

section
/-- brush.do: the cells, the cursor, the place. -/
def doF (kz : Nat) (r c : Int) (l : List S47) (cu : Int) (lo ins : Bool) (at_ k : Int) (tx : List Int) (ap an : Bool) (as_ : Int) (am : Bool) (addr ch : Int) : Option (List S47 × Int × Int) :=
 if l.length ≤ 16383 ∧ 0 ≤ at_ ∧ at_ < l.length ∧ tx.length ≤ 16383 then
  if k = 1 then some ((textN (l, at_) tx tx.length).1, cu, (textN (l, at_) tx tx.length).2)
  else if k = 2 then some (l.set at_.toNat ⟨true, ⟨ap, an, as_, am⟩, 0⟩, cu, onI l.length at_ 1)
  else if k = 3 then some (l, cu, addr)
  else if k = 4 then some (l, at_, at_)
  else if k = 5 then some (l, cu, tabI l at_)
  else if k = 6 then (grid_Span.f kz r c l cu lo ins at_ addr).bind fun sp => if sp.length ≤ 16383 then some ((repN (l, at_) ch sp.length).1, cu, addr) else none
  else if k = 7 then (grid_Span.f kz r c l cu lo ins at_ addr).bind fun sp => if sp.length ≤ 16383 ∧ (sp.all fun i => (decide (0 ≤ i) && decide (i < l.length)) && (field_Open.f r c l cu lo ins i).isSome) = true then some (eraseN (fun i => (field_Open.f r c l cu lo ins i).getD false) l sp sp.length, cu, addr) else none
  else none
 else none
theorem brush_do (kz : Nat) (r c : Int) (go co : Nat) (l : List (S47)) (cu : Int) (lo ins : Bool) (at_ : Int) (At : Option Addr) (ct : Nat) (k : Int) (tx : List Int) (ap an : Bool) (as_ : Int) (am : Bool) (addr ch : Int) (l' : List (S47)) (cu' at' : Int) (g B : Nat) (ok : Nat → Prop) (W : World) (hb : W.heap[g]? = some (.cells #[.int .i64 r, .int .i64 c, .slice (some ⟨go, 0, none⟩) l.length co, .int .i64 cu, .bool lo, .bool ins, .int .i64 at_] 79 (0, 0))) (hr : Kd.R k47 47 W B ok (.slice (some ⟨go, 0, none⟩) l.length co) l) (ht : ∀ W', Fr g go W W' → Kd.C (Kd.int .u8) W' At tx.length tx) (h : doF kz r c l cu lo ins at_ k tx ap an as_ am addr ch = some (l', cu', at')) :
  Calls Tryz.prog 40 #[.pointer (some ⟨g, 0, none⟩), .agg #[.int .i64 k, .slice At tx.length ct, .bool ap, .bool an, .int .i64 as_, .bool am, .int .i64 addr, .int .u8 ch]] W fun e w' => e = .returned (.tuple #[]) ∧ Aside0 (w'.heap[g]? = some (.cells #[.int .i64 r, .int .i64 c, .slice (some ⟨go, 0, none⟩) l.length co, .int .i64 cu', .bool lo, .bool ins, .int .i64 at'] 79 (0, 0))) ∧ Aside0 (Kd.R k47 47 w' B ok (.slice (some ⟨go, 0, none⟩) l.length co) l') ∧ Aside0 (Fr g go W w') := by
 unfold doF at h
 by_cases hc : l.length ≤ 16383 ∧ 0 ≤ at_ ∧ at_ < l.length ∧ tx.length ≤ 16383
 ·rw [if_pos hc] at h
  obtain ⟨hn, a, b, htn⟩ := hc
  by_cases d : k = 1
  ·rw [if_pos d] at h
   simp only [Option.some.injEq, Prod.mk.injEq] at h
   obtain ⟨rfl, rfl, rfl⟩ := h
   subst d
   exact brush_do1 r c go co l cu lo ins at_ At ct tx ap an as_ am addr ch g B ok W hb hr hn a b ht htn
  rw [if_neg d] at h
  by_cases j : k = 2
  ·rw [if_pos j] at h
   simp only [Option.some.injEq, Prod.mk.injEq] at h
   obtain ⟨rfl, rfl, rfl⟩ := h
   subst j
   exact brush_do2 r c go co l cu lo ins at_ At ct tx ap an as_ am addr ch g B ok W hb hr hn a b
  rw [if_neg j] at h
  by_cases m : k = 3
  ·rw [if_pos m] at h
   simp only [Option.some.injEq, Prod.mk.injEq] at h
   obtain ⟨rfl, rfl, rfl⟩ := h
   subst m
   exact brush_do3 r c go co l cu lo ins at_ At ct tx ap an as_ am addr ch g B ok W hb hr hn a b
  rw [if_neg m] at h
  by_cases n : k = 4
  ·rw [if_pos n] at h
   simp only [Option.some.injEq, Prod.mk.injEq] at h
   obtain ⟨rfl, rfl, rfl⟩ := h
   subst n
   exact brush_do4 r c go co l cu lo ins at_ At ct tx ap an as_ am addr ch g B ok W hb hr hn a b
  rw [if_neg n] at h
  by_cases o : k = 5
  ·rw [if_pos o] at h
   simp only [Option.some.injEq, Prod.mk.injEq] at h
   obtain ⟨rfl, rfl, rfl⟩ := h
   subst o
   exact brush_do5 r c go co l cu lo ins at_ At ct tx ap an as_ am addr ch g B ok W hb hr hn a b
  rw [if_neg o] at h
  by_cases p : k = 6
  ·rw [if_pos p] at h
   obtain ⟨sp, hS, h⟩ := Option.bind_eq_some_iff.mp h
   by_cases hs : sp.length ≤ 16383
   ·rw [if_pos hs] at h
    simp only [Option.some.injEq, Prod.mk.injEq] at h
    obtain ⟨rfl, rfl, rfl⟩ := h
    subst p
    exact brush_do6 kz sp r c go co l cu lo ins at_ At ct tx ap an as_ am addr ch g B ok W hb hr hn a b hS hs
   ·rw [if_neg hs] at h; cases h
  rw [if_neg p] at h
  by_cases q : k = 7
  ·rw [if_pos q] at h
   obtain ⟨sp, hS, h⟩ := Option.bind_eq_some_iff.mp h
   by_cases hs : sp.length ≤ 16383 ∧ (sp.all fun i => (decide (0 ≤ i) && decide (i < l.length)) && (field_Open.f r c l cu lo ins i).isSome) = true
   ·rw [if_pos hs] at h
    simp only [Option.some.injEq, Prod.mk.injEq] at h
    obtain ⟨rfl, rfl, rfl⟩ := h
    subst q
    obtain ⟨hs, ha⟩ := hs
    rw [List.all_eq_true] at ha
    refine brush_do7 kz sp (fun i => (field_Open.f r c l cu lo ins i).getD false) r c go co l cu lo ins at_ At ct tx ap an as_ am addr ch g B ok W hb hr hn a b hS hs (fun i hi => ?_)
    have := ha i hi
    rw [Bool.and_eq_true, Bool.and_eq_true] at this
    refine ⟨of_decide_eq_true this.1.1, of_decide_eq_true this.1.2, ?_⟩
    obtain ⟨v, hv⟩ := Option.isSome_iff_exists.mp this.2
    rw [hv]; rfl
   ·rw [if_neg hs] at h; cases h
  rw [if_neg q] at h; cases h
 ·rw [if_neg hc] at h; cases h
theorem cl_offB {w w1 : World} {g a j : Nat} {v : Value} (h : w.cell? ⟨g, j, none⟩ = some v) (ne : g ≠ a) (hm : ∀ k, k ≠ a → w1.heap[k]? = w.heap[k]?) : w1.cell? ⟨g, j, none⟩ = some v := by
 rw [← h]; simp only [World.cell?, hm g ne]
theorem Fr.below {g go : Nat} {w W W' : World} (F : Fr g go W W') (h : Below w.heap.size w W) (hg : w.heap.size ≤ g) (ho : w.heap.size ≤ go) : Below w.heap.size w W' := ⟨F.os.trans h.os, F.tape.trans h.tape, F.output.trans h.output, Nat.le_trans h.size F.size, fun k hk => (F.block k (Nat.lt_of_lt_of_le hk h.size) (by omega) (by omega)).trans (h.block k hk)⟩
theorem doF_len {kz : Nat} {r c : Int} {l : List S47} {cu : Int} {lo ins : Bool} {at_ k : Int} {tx : List Int} {ap an : Bool} {as_ : Int} {am : Bool} {addr ch : Int} {d : List S47 × Int × Int} (h : doF kz r c l cu lo ins at_ k tx ap an as_ am addr ch = some d) : d.1.length = l.length := by
 unfold doF at h
 by_cases hc : l.length ≤ 16383 ∧ 0 ≤ at_ ∧ at_ < l.length ∧ tx.length ≤ 16383
 ·rw [if_pos hc] at h
  obtain ⟨hn, p, q, htn⟩ := hc
  by_cases a : k = 1
  ·rw [if_pos a] at h
   obtain rfl := Option.some.inj h
   exact (fold_in (n := l.length) (tx.take tx.length) (l, at_) ⟨rfl, p, q⟩).1
  rw [if_neg a] at h
  by_cases b : k = 2
  ·rw [if_pos b] at h
   obtain rfl := Option.some.inj h
   exact List.length_set
  rw [if_neg b] at h
  by_cases e : k = 3
  ·rw [if_pos e] at h
   obtain rfl := Option.some.inj h
   rfl
  rw [if_neg e] at h
  by_cases g : k = 4
  ·rw [if_pos g] at h
   obtain rfl := Option.some.inj h
   rfl
  rw [if_neg g] at h
  by_cases j : k = 5
  ·rw [if_pos j] at h
   obtain rfl := Option.some.inj h
   rfl
  rw [if_neg j] at h
  by_cases m : k = 6
  ·rw [if_pos m] at h
   obtain ⟨sp, hS, h⟩ := Option.bind_eq_some_iff.mp h
   by_cases hs : sp.length ≤ 16383
   ·rw [if_pos hs] at h
    obtain rfl := Option.some.inj h
    exact (repN_in (n := l.length) (s := (l, at_)) ⟨rfl, p, q⟩ ch sp.length).1
   ·rw [if_neg hs] at h; cases h
  rw [if_neg m] at h
  by_cases o : k = 7
  ·rw [if_pos o] at h
   obtain ⟨sp, hS, h⟩ := Option.bind_eq_some_iff.mp h
   by_cases hs : sp.length ≤ 16383 ∧ (sp.all fun i => (decide (0 ≤ i) && decide (i < l.length)) && (field_Open.f r c l cu lo ins i).isSome) = true
   ·rw [if_pos hs] at h
    obtain rfl := Option.some.inj h
    exact eraseN_len _ _ _ _
   ·rw [if_neg hs] at h; cases h
  rw [if_neg o] at h; cases h
 ·rw [if_neg hc] at h; cases h
theorem doF_mono (kz : Nat) (r c : Int) (l : List S47) (cu : Int) (lo ins : Bool) (at_ k : Int) (tx : List Int) (ap an : Bool) (as_ : Int) (am : Bool) (addr ch : Int) : LeO (doF kz r c l cu lo ins at_ k tx ap an as_ am addr ch) (doF (kz + 1) r c l cu lo ins at_ k tx ap an as_ am addr ch) := by
 unfold doF
 repeat' first
  | (with_reducible exact grid_Span.mono _ _ _ _ _ _ _ _ _)
  | (with_reducible exact LeO.refl _)
  | (with_reducible exact LeO.none _)
  | (with_reducible refine LeO.ite ?_ ?_)
  | (with_reducible refine LeO.bind ?_ (fun _ => ?_))
end

end Go.Proofs.YtphboakgkmjpbaaGreatDoor.P
