/-
  A region that draws its order, whose operations only read and whose callees leave all that was as it was (Below): walked once, in the text's order.
-/
import Derived.Test.YthaapijjjgkacaaDoorQuote
import Derived.Test.YthaapijjjgkacaaDoorItoa
import Derived.Deep.QuietTactic
set_option linter.unusedVariables false
namespace Go.Proofs.YthaapijjjgkacaaDoor.Mine
open Go.RowKit Go.Proofs.YthaapijjjgkacaaDoorW.PrintWords

structure BelowP (W : World) where
  w : World
  h : Below W.heap.size W w
instance BelowP.inh (W : World) : Inhabited (BelowP W) := ⟨⟨W, Below.refl _ _⟩⟩
theorem BelowP.cell {W : World} {a : Addr} {v : Value} (h : W.cell? a = some v) (p : BelowP W) : p.w.cell? a = some v := (p.h.cell (World.block_lt_of_cell? W _ h)).trans h
theorem wp_region_quiet_below {P : Program} {id : Nat} {Q : Exit → Act → World → Prop} {a : Act} {W : World} {l : List Oper} (hm : P.follows .mixedOrders = true) (hB : Region.lexB .any l.toArray = true)
    (h : wpQuiet P l.toArray (fun w' => ∃ p : BelowP W, w' = p.w) (fun a' => ∀ w', (∃ p : BelowP W, w' = p.w) → Q .normal a' w') l a) : (Code.region id l.toArray true).wp P Q a W :=
  wp_region_quiet (C := fun w' => ∃ p : BelowP W, w' = p.w) hm hB ⟨⟨W.drew, (Below.refl _ _).drew⟩, rfl⟩ (by simpa using h)
theorem Calls.below_of {P : Program} {f : FuncId} {args : Array Value} {W : World} {p : BelowP W} {v : Value}
    (h : Calls P f args p.w fun e w' => e = .returned v ∧ Below p.w.heap.size p.w w') : Calls P f args p.w fun e w'' => e = .returned v ∧ ∃ q : BelowP W, w'' = q.w :=
  h.mono fun _ w' ⟨he, hb⟩ => ⟨he, ⟨w', below_then p.h p.h.size hb⟩, rfl⟩
end Go.Proofs.YthaapijjjgkacaaDoor.Mine
