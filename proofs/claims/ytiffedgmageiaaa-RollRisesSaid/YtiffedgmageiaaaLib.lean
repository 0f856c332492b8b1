/- The library's functions over maps, at this program's numbers. -/
import Derived.Test.YtiffedgmageiaaaShelf
import Derived.Test.YtiffedgmageiaaaKeys
namespace Go.Proofs.Ytiffedgmageiaaa.B
open Go.Proofs Go.RowKit Go.Maps Go.Sort Go.Shelf
set_option maxRecDepth 100000
theorem k_keysA : ∀ mb W, CallsIn Fence.wide 5 Try.prog 26 #[.map mb] W fun e w' => e = .returned (.func (.func 31) #[] #[.pointer (some ⟨W.heap.size, 0, none⟩)]) ∧ w' = W.alloc (.cells #[.map mb] 56) := fun mb W => AnyZI.keys_in Try.keysA Fence.wide 5 trivial rfl mb W
theorem k_sortsA (m : Nat) : AnyZI.SortsIn Try.prog Try.sortedA_ren Fence.wide m :=
  ⟨fun blk off cap ss W hH hblk hsz => callsIn_wide.2 (AnyM.slices_Sort_int Try.sortA blk off cap ss W hH hblk hsz), fun p cap W => callsIn_wide.2 (AnyM.slices_Sort_int_none Try.sortA p cap W)⟩
theorem k_sortedA : SortedC Try.prog 25 31 2 2 := fun bp b nn D0 w h1 h2 h3 h4 h5 =>
  AnyZI.sorted_in Try.sortedA Fence.wide 5 trivial trivial trivial trivial rfl (by omega) (k_sortsA _) (enters_of Try.func30 (by kernel_rfl) rfl) 31 #[.pointer (some ⟨bp, 0, none⟩)] trivial (enters_of Try.func31 (by kernel_rfl) rfl) _ _ h4 h5 _
    (AnyZI.keys_gives (ρ := Try.keysA_ren) { Try.keysA with } Fence.wide _ trivial rfl (by omega) bp b nn D0 w h1 h2 h3)
theorem k_cloneA : ∀ (b : Nat) (es : Array MapEntry) (clock : Nat) (w : World), w.heap[b]? = some (.map es clock) → Calls Try.prog 24 #[.map (some b)] w fun e w' => e = .returned (.map (some w.heap.size)) ∧ w' = w.alloc (.map es clock) := AnyW.maps_Clone Try.cloneA
end Go.Proofs.Ytiffedgmageiaaa.B
