/- The law's tag, walked. -/
import Derived.Test.YtdjbanhoejegjaaDqPut
namespace Go.Proofs.Ytdjbanhoejegjaa.LikW
open Go.RowKit Go.Proofs.YtdjbanhoejegjaaW.PrintWords Go.Proofs.YtdjbanhoejegjaaW.PrintLast Go.Proofs.Ytdjbanhoejegjaa.P
set_option linter.unusedVariables false
set_option linter.unusedSimpArgs false
set_option maxRecDepth 100000 in
set_option maxHeartbeats 4000000 in
theorem tag_calls (a b c : ByteArray) (w : World) : Calls Try.prog 13 #[.agg #[.string a, .string b, .string c]] w fun e w' => e = .returned (.agg #[.string a, .slice none 0 0, .string b, .string c, .slice none 0 0, .slice none 0 0, .slice none 0 0, .string ⟨#[]⟩]) ∧ Below w.heap.size w w' := by
  have hu30 := Try.underlying30
  have hu44 := Try.underlying44
  go_enter Try.func13, Try.ntmps13
  go_wp2
  have hk : ((w.alloc (.cells #[.string a, .string b, .string c] 30)).alloc (.cells #[.string a, .slice none 0 0, .string b, .string c, .slice none 0 0, .slice none 0 0, .slice none 0 0, .string ⟨#[]⟩] 44)).heap[w.heap.size + 1]? = some (.cells #[.string a, .slice none 0 0, .string b, .string c, .slice none 0 0, .slice none 0 0, .slice none 0 0, .string ⟨#[]⟩] 44 (0, 0)) := by
    have := World.alloc_heap_new (w.alloc (.cells #[.string a, .string b, .string c] 30)) (.cells #[.string a, .slice none 0 0, .string b, .string c, .slice none 0 0, .slice none 0 0, .slice none 0 0, .string ⟨#[]⟩] 44)
    rwa [World.size_alloc] at this
  refine bodyPost_ret (results_cell_row rfl _ _ (w.heap.size + 1) 44 #[.string a, .slice none 0 0, .string b, .string c, .slice none 0 0, .slice none 0 0, .slice none 0 0, .string ⟨#[]⟩] (0, 0) _ rfl hk hu44 rfl (by kernel_rfl)) rfl ?_
  exact ⟨rfl, below_alloc (below_alloc (Below.refl _ _) _) _⟩
end Go.Proofs.Ytdjbanhoejegjaa.LikW
