/- Functions of the given program as Lean functions, each with its contract, and what they answer; words for it. No condition but those of each. -/
import Derived.Test.YtjknpmibdkoklaaMB1
import Derived.SliceStrings
import Derived.SizedLaws
import Derived.ChangeSlices
namespace Go.Proofs.Ytjknpmibdkoklaa.Open
open Go.ChangeShapes Go.WideShapes Go.Proofs.YtjknpmibdkoklaaW.PrintWords
section
variable {H : Type} {enc : TypeId × Value → H} {P : Program} {W : World} {base : Nat} {spare : Nat → Bool} {held : Bool}
theorem mem_weightsAll {e : TypeId} : ∀ {l : List (DataW H)} {d : DataW H} {n : Nat}, d ∈ l → n ∈ d.weights P e → n ∈ DataW.weightsAll P e l
  | x :: l, d, n, hd, hn => by
    simp only [DataW.weightsAll, List.mem_append]
    rcases List.mem_cons.1 hd with rfl | hd
    · exact .inl hn
    · exact .inr (mem_weightsAll hd hn)
theorem mem_weights_slice {t e : TypeId} {l r : List (DataW H)} {d : DataW H} {n : Nat} (hu : P.underlying t = some (.slice e)) (hd : d ∈ l) (hn : n ∈ d.weights P e) : n ∈ (DataW.slice l r).weights P t := by
  simp only [DataW.weights, hu, List.mem_cons, List.mem_append]
  exact .inr (.inl (mem_weightsAll hd hn))
theorem sized_at {ts : List TypeId} {ds : List (DataW H)} {j : Nat} {t : TypeId} {d : DataW H} (hsz : (DataW.weightsEach P ts ds).all (· ≤ reachBytes) = true) (ht : ts[j]? = some t) (hd : ds[j]? = some d) : ∀ n ∈ d.weights P t, n ≤ reachBytes := fun n hn => by
  simpa using List.all_eq_true.1 hsz _ (DataW.weights_mem_each ht hd n hn)
end
end Go.Proofs.Ytjknpmibdkoklaa.Open
