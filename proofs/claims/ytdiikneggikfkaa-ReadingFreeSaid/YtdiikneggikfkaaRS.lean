/- Contracts of functions of the program, each proved by running its code symbolically (RS). -/
import Derived.Test.YtdiikneggikfkaaRE
import Derived.Test.YtdiikneggikfkaaRY
import Derived.Test.YtdiikneggikfkaaSxSort
namespace Go.Sx.T
open Go Go.Proofs Go.Sx
theorem s44 (e : TypeId) (l : List Int) (h : l.length ≤ 4000000000000000000) : SpecSort Try.prog 44 [] e 1 l.length (fun i => [.int .i64 (l.getD i 0)]) [] (fun i => [.int .i64 ((isort l).getD i 0)]) :=
  sort_spec lays189 (hasBody_of_slim Try.func44 F44_ok) e l h
end Go.Sx.T
