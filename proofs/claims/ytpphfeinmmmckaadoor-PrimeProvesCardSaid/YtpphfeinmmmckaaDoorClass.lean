/-
  A region that draws its order and holds calls that make memory, walked once in the order of the text: the class of worlds is 'every world that meets Pr'.
-/
import Derived.WalkKit
import Derived.Deep.QuietTactic
import Derived.BigQuiet
namespace Go.Proofs.YtpphfeinmmmckaaDoor

/-- A world that meets Pr. -/
structure Within (Pr : World → Prop) where
  val : World
  ok : Pr val

theorem wp_region_class {P : Program} {id : Nat} {Q : Exit → Act → World → Prop} {a : Act} {w : World} {l : List Oper} (Pr : World → Prop) (hP : Pr w.drew) (hm : P.follows .mixedOrders = true) (hB : Region.lexB .any l.toArray = true)
    (h : wpQuiet P l.toArray (fun w' => ∃ u : Within Pr, w' = u.val) (fun a' => ∀ w', (∃ u : Within Pr, w' = u.val) → Q .normal a' w') l a) : (Code.region id l.toArray true).wp P Q a w :=
  wp_region_quiet (C := fun w' => ∃ u : Within Pr, w' = u.val) hm hB ⟨⟨_, hP⟩, rfl⟩ (by simpa using h)

/-- A callee's contract, met in a world of the class, that hands back a world of the class. -/
theorem class_call {P : Program} {f : FuncId} {args : Array Value} {v : Value} {Pr : World → Prop} {u : Within Pr} {R : World → Prop} (hc : Calls P f args u.val fun e w' => e = .returned v ∧ R w') (hR : ∀ w', R w' → Pr w') :
    Calls P f args u.val fun e w'' => e = .returned v ∧ ∃ u' : Within Pr, w'' = u'.val :=
  hc.mono fun _ w' ⟨he, hr⟩ => ⟨he, ⟨w', hR w' hr⟩, rfl⟩
end Go.Proofs.YtpphfeinmmmckaaDoor
