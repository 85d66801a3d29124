/- The reference's checker of a body: globals. -/
import Derived.Test.YtacohbllbjgdgaaDoorVw
import Derived.Test.YtacohbllbjgdgaaDoorMj
import Derived.Lib.MinMax
import Derived.Test.YtacohbllbjgdgaaDoorXn
import Derived.Test.YtacohbllbjgdgaaDoorXl
namespace Go.Proofs.YtacohbllbjgdgaaDoor
open Go.RowKit
set_option linter.unusedVariables false
set_option linter.unusedSimpArgs false

section
variable {wa : World} {N p : Nat} {A : MA} {lv : Value} {m : Md} {E : Ev} {w w' : World} {sv fv sv' fv' : Value} {s u : Rs}
end
end Go.Proofs.YtacohbllbjgdgaaDoor
namespace Go.Proofs.YtacohbllbjgdgaaDoor
open Go.RowKit
set_option linter.unusedVariables false
set_option linter.unusedSimpArgs false

section
variable {wa : World} {N p : Nat} {A : MA} {lv : Value} {m : Md} {E : Ev} {w w' : World} {sv fv sv' fv' : Value} {s u : Rs}
end
end Go.Proofs.YtacohbllbjgdgaaDoor
namespace Go.Proofs.YtacohbllbjgdgaaDoor
open Go.RowKit
set_option linter.unusedVariables false
set_option linter.unusedSimpArgs false

section
variable {wa : World} {N p : Nat} {A : MA} {lv : Value} {m : Md} {E : Ev} {w w' : World} {sv fv sv' fv' : Value} {s u : Rs}
end
end Go.Proofs.YtacohbllbjgdgaaDoor
namespace Go.Proofs.YtacohbllbjgdgaaDoor
open Go.RowKit
set_option linter.unusedVariables false
set_option linter.unusedSimpArgs false

section
variable {wa : World} {N p : Nat} {A : MA} {lv : Value} {m : Md} {E : Ev} {w w' : World} {sv fv sv' fv' : Value} {s u : Rs}
end
end Go.Proofs.YtacohbllbjgdgaaDoor
namespace Go.Proofs.YtacohbllbjgdgaaDoor
open Go.RowKit
set_option linter.unusedVariables false
set_option linter.unusedSimpArgs false

theorem Below.setAt {M b j : Nat} {w : World} {u : Value} (h : M ≤ b) : Below M w (w.setCell ⟨b, j, none⟩ u) := ⟨rfl, rfl, rfl, by simp [World.setCell], fun k hk => Below.heap_setCell _ _ _ _ (by show k ≠ b; omega)⟩
theorem set2 {w : World} {b t : Nat} {x y u v : Value} (h : w.heap[b]? = some (.cells #[x, y] t (0, 0))) : ((w.setCell ⟨b, 0, none⟩ u).setCell ⟨b, 1, none⟩ v).heap[b]? = some (.cells #[u, v] t (0, 0)) := by
  have h1 : (w.setCell ⟨b, 0, none⟩ u).heap[b]? = some (.cells #[u, y] t (0, 0)) := by rw [heap_setCell_same w b 0 _ _ _ h]; rfl
  rw [heap_setCell_same _ b 1 _ _ _ h1]; rfl
section
variable {wa : World} {N p : Nat} {A : MA} {lv : Value} {m : Md} {E : Ev} {w w' : World} {sv fv sv' fv' : Value} {s u : Rs}
end
end Go.Proofs.YtacohbllbjgdgaaDoor
namespace Go.Proofs.YtacohbllbjgdgaaDoor
open Go.RowKit
set_option linter.unusedVariables false
set_option linter.unusedSimpArgs false

section
variable {wa : World} {N p : Nat} {A : MA} {lv : Value} {m : Md} {E : Ev} {w w' : World} {sv fv sv' fv' : Value} {s u : Rs}
end
end Go.Proofs.YtacohbllbjgdgaaDoor
namespace Go.Proofs.YtacohbllbjgdgaaDoor
open Go.RowKit
set_option linter.unusedVariables false
set_option linter.unusedSimpArgs false

section
variable {wa : World} {N p : Nat} {A : MA} {lv : Value} {m : Md} {E : Ev} {w w' : World} {sv fv sv' fv' : Value} {s u : Rs}
end
end Go.Proofs.YtacohbllbjgdgaaDoor
namespace Go.Proofs.YtacohbllbjgdgaaDoor
open Go.RowKit
set_option linter.unusedVariables false
set_option linter.unusedSimpArgs false

section
variable {wa : World} {N p : Nat} {A : MA} {lv : Value} {m : Md} {E : Ev} {w w' : World} {sv fv sv' fv' : Value} {s u : Rs}
end
section
variable {wa : World} {N p : Nat} {A : MA} {lv : Value} {m : Md} {E : Ev} {w w' : World} {sv fv sv' fv' : Value} {s u : Rs}
end
end Go.Proofs.YtacohbllbjgdgaaDoor
namespace Go.Proofs.YtacohbllbjgdgaaDoor
open Go.RowKit
set_option linter.unusedVariables false
set_option linter.unusedSimpArgs false

section
variable {wa : World} {N p : Nat} {A : MA} {lv : Value} {m : Md} {E : Ev} {w w' : World} {sv fv sv' fv' : Value} {s u : Rs}
end
end Go.Proofs.YtacohbllbjgdgaaDoor
namespace Go.Proofs.YtacohbllbjgdgaaDoor
open Go.RowKit
set_option linter.unusedVariables false
set_option linter.unusedSimpArgs false

section
variable {wa : World} {N p : Nat} {A : MA} {lv : Value} {m : Md} {E : Ev} {w w' : World} {sv fv sv' fv' : Value} {s u : Rs}
end
end Go.Proofs.YtacohbllbjgdgaaDoor
