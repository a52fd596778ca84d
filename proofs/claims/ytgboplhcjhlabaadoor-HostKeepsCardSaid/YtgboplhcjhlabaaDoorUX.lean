/- More of the kit's words for this seat: what its later texts use (wip/tools/prune.py). -/
import Derived.Test.YtgboplhcjhlabaaDoorUWords
import Derived.Test.YtgboplhcjhlabaaDoorULast
import Derived.Test.YtgboplhcjhlabaaDoorUApart
import Derived.Test.YtgboplhcjhlabaaDoorUArr
import Derived.Test.YtgboplhcjhlabaaDoorUFoot
import Derived.Test.YtgboplhcjhlabaaDoorUKept
import Derived.Test.YtgboplhcjhlabaaDoorUShare
import Derived.Test.YtgboplhcjhlabaaDoorUZeros
import Derived.Test.YtgboplhcjhlabaaDoorUN
import Derived.Test.YtgboplhcjhlabaaDoorUFootNe
import Derived.Test.YtgboplhcjhlabaaDoorUAt
import Derived.Test.YtgboplhcjhlabaaDoorUEqStruct
import Derived.Test.YtgboplhcjhlabaaDoorUTab
import Derived.Test.YtgboplhcjhlabaaDoorUFour
import Derived.Test.YtgboplhcjhlabaaDoorUGuard
import Derived.Test.YtgboplhcjhlabaaDoorUInv
import Derived.Test.YtgboplhcjhlabaaDoorUInvWords
import Derived.Test.YtgboplhcjhlabaaDoorUQPut
import Derived.Test.YtgboplhcjhlabaaDoorUNEv
import Derived.Test.YtgboplhcjhlabaaDoorUMore
import Derived.Test.YtgboplhcjhlabaaDoorURepsOne
import Derived.Test.YtgboplhcjhlabaaDoorUSized
namespace Go.Proofs.YtgboplhcjhlabaaDoorW.PrintWords
open Go.RowKit
section
variable {w W W2 : World} {S S2 S' : Nat → Prop}
theorem blk_kept {g : Nat} {o : Obj} (hb : W.heap[g]? = some o) (hk : Kept W W2 S) (hne : ¬ S g) : W2.heap[g]? = some o := (hk.2 g (blk_lt hb) hne).trans hb
end
namespace Kd
section
variable {α : Type} {d : Kd α} {e base n c : Nat} {ok oki S S2 : Nat → Prop} {w w0 W W1 W2 : World} {v : Value} {A : Option Addr} {xs : List α} {i : Int} {cs : List Value}
theorem R_kept (h : d.R e W base ok v xs) (hk : Kept W W2 S) (hne : ∀ k, ok k → ¬ S k) : d.R e W2 base ok v xs := R_step h (fun k ho hlt => hk.2 k hlt (hne k ho))
end
end Kd
end Go.Proofs.YtgboplhcjhlabaaDoorW.PrintWords
namespace Go.Proofs.YtgboplhcjhlabaaDoorW.PrintWords
open Go.RowKit
namespace Foot
variable {P Q : World → Prop} {W W1 : World} {ok ok' : Nat → Prop}
end Foot
namespace Kd
section
variable {α β : Type} {d : Kd α} {e base n n' cc g N : Nat} {ok ok' okp S : Nat → Prop} {w w0 w1 W W1 : World} {A A' : Option Addr} {u v v1 : Value} {xs : List α} {xs' : List β} {d' : Kd β} {x : α} {c : List Value}
theorem F_kept (h : F d W ok A n xs) (hk : Kept W W1 S) (hok : ∀ k, ok k → ¬ S k) : F d W1 ok A n xs := F_step h (fun k ho hlt => hk.2 k hlt (hok k ho))
end
end Kd
end Go.Proofs.YtgboplhcjhlabaaDoorW.PrintWords
namespace Go.Proofs.YtgboplhcjhlabaaDoorW.PrintMore
open Go.RowKit Go.Proofs.YtgboplhcjhlabaaDoorW.PrintWords
namespace Kd
open Go.Proofs.YtgboplhcjhlabaaDoorW.PrintWords.Kd
end Kd
namespace Kd
open Go.Proofs.YtgboplhcjhlabaaDoorW.PrintWords.Kd
section
variable {α : Type} {d : Kd α} {e base g N : Nat} {ok : Nat → Prop} {W w1 : World} {u v : Value} {xs : List α}
end
end Kd
end Go.Proofs.YtgboplhcjhlabaaDoorW.PrintMore
namespace Go.Proofs.YtgboplhcjhlabaaDoorW.PrintWords
open Go.RowKit
section
variable {P : Program} {ops : Array Oper} {rest : List Oper} {o : Oper} {a : Act} {Q : Exit → Act → World → Prop} {W : World}
end
namespace Kd
section
variable {α : Type} {d : Kd α} {e base : Nat} {ok : Nat → Prop} {W w1 : World} {v : Value} {xs : List α}
end
section
variable {α : Type} {d : Kd α} {e base g n cap : Nat} {ok oki okp : Nat → Prop} {W : World} {xs : List α} {i : Int} {c : List Value}
end
section
variable {α : Type} {d : Kd α} {e base b b' g N : Nat} {ok ok1 : Nat → Prop} {W W2 w1 : World} {u v : Value} {xs ys : List α} {S : Nat → Prop}
theorem R_keptB (h : d.R e W base ok v xs) (hk : Kept W W2 S) (hne : ∀ k, ok k → ¬ S k) : d.R e W2 base (fun k => ok k ∧ (¬ S k ∧ k < W.heap.size)) v xs :=
  R_kept (R_mono (R_bound h) (fun k hk => ⟨hk.1, hne k hk.1, hk.2.2.1⟩)) hk (fun _ hk => hk.2.1)
end
end Kd
end Go.Proofs.YtgboplhcjhlabaaDoorW.PrintWords
namespace Go.Proofs.YtgboplhcjhlabaaDoorW.PrintWords
open Go.RowKit
namespace Kd
section
variable {α β : Type} {d : Kd α} {e base base' n m c g N' lo hi : Nat} {ok ok' S : Nat → Prop} {w W w1 : World} {A : Option Addr} {ad : Addr} {u v v1 : Value} {xs : List α}
theorem V_bound (h : V d e W base ok v xs) : V d e W base (fun k => ok k ∧ k < W.heap.size) v xs := V_map h (fun _ hf => F_bound hf)
theorem V_kept (h : V d e W base ok v xs) (hk : Kept W w1 S) (hok : ∀ k, ok k → ¬ S k) : V d e w1 base ok v xs := V_map h (fun _ hf => F_kept hf hk hok)
theorem V_keptB (h : V d e W base ok v xs) (hk : Kept W w1 S) (hne : ∀ k, ok k → ¬ S k) : V d e w1 base (fun k => ok k ∧ (¬ S k ∧ k < W.heap.size)) v xs :=
  V_kept (V_mono (V_bound h) (fun k hk => ⟨hk.1, hne k hk.1, hk.2⟩)) hk (fun _ hk => hk.2.1)
end
end Kd
end Go.Proofs.YtgboplhcjhlabaaDoorW.PrintWords
