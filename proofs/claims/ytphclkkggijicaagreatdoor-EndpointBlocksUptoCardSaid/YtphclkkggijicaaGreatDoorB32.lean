/- slices.SortFunc out of what the library's law says of worlds: rows of structs. -/
import Derived.Test.YtphclkkggijicaaGreatDoorB31
import Derived.Shelf.SlSortCmp.NoneTotal
set_option linter.unusedVariables false
set_option linter.unusedSimpArgs false
section
namespace Av
open Go Go.Sort Go.Proofs Go.Lib
theorem Good.grown {C:Ctx} {w w':World} {Z:Nat→Nat→Prop} {μ:Nat→Option Cn} {o:Nat→Option Ob} (h:Good C w Z μ o) (hs:w.heap.size≤w'.heap.size) (hk:∀ k,k < w.heap.size→w'.heap[k]? = w.heap[k]?) (ho:Vq C.dr w w'):Good C w' Z μ o:=by
 have hc:∀ b i,Z b i→w'.cell? ⟨b,i,none⟩ = w.cell? ⟨b,i,none⟩:=fun b i hz=>by
  simp only [World.cell?,hk b (h.zlt b i hz)]
 refine ⟨fun a x ha=>?_,h.sep,fun b i hz=>km (h.zlt b i hz) hs,kD h.grow hs,fun b hb hf=>(hk b (km hb h.grow)).trans (h.frame b hb hf),h.zsub,h.zsup,fun b i hz=>(hc b i (h.zsup b i hz)).trans (h.zkeep b i hz),h.fix,h.oo.trans ho⟩
 obtain ⟨c,hm,hok,hl⟩:=h.ob a x ha
 exact ⟨c,hm,hok.mono hc (fun _ _ hz=>hz) (fun _ _ h=>h) (fun lx=>hk _ (hl lx).1) (fun _ _ h=>h),fun lx=>⟨km (hl lx).1 hs,(hl lx).2⟩⟩
end Av
end
