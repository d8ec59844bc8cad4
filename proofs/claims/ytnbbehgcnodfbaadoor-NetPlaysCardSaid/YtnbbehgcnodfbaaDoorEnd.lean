/-
  The end of a drawn region's head that makes three or four variables.
-/
import Derived.Test.YtnbbehgcnodfbaaDoorEnv
namespace Go.Proofs.YtnbbehgcnodfbaaDoor
open Go.RowKit
set_option maxRecDepth 100000
set_option linter.unusedVariables false
section walk
variable {P : Program} {ops : Array Oper} {Q : Exit → Act → World → Prop} {a : Act} {w w0 : World} {l : List Blk} {o : Oper} {rest : List Oper} {v : Value}
theorem endK3 {tail : List Oper} {a' : Act} {m1 m2 m3 : MadeVar} (h : ∀ g1 g2 g3 w', Env w0 (⟨g1, m1.ty, m1.zs⟩ :: ⟨g2, m2.ty, m2.zs⟩ :: ⟨g3, m3.ty, m3.zs⟩ :: l) w' → wpList P ops Q tail (((a'.put (some m1.dst) (.pointer (some ⟨g1, 0, none⟩))).put (some m2.dst) (.pointer (some ⟨g2, 0, none⟩))).put (some m3.dst) (.pointer (some ⟨g3, 0, none⟩))) w') :
    ∀ (gs : List Nat) (w' : World), gs.length = ([] ++ [m1] ++ [m2] ++ [m3]).length → Env w0 (madeBlks ([] ++ [m1] ++ [m2] ++ [m3]) gs ++ l) w' → wpList P ops Q tail (putAll a' ([] ++ [m1] ++ [m2] ++ [m3]) gs) w' := by
  intro gs w' hl hE
  match gs, hl with
  | [g1, g2, g3], _ => exact h g1 g2 g3 w' hE
theorem endK4 {tail : List Oper} {a' : Act} {m1 m2 m3 m4 : MadeVar} (h : ∀ g1 g2 g3 g4 w', Env w0 (⟨g1, m1.ty, m1.zs⟩ :: ⟨g2, m2.ty, m2.zs⟩ :: ⟨g3, m3.ty, m3.zs⟩ :: ⟨g4, m4.ty, m4.zs⟩ :: l) w' → wpList P ops Q tail ((((a'.put (some m1.dst) (.pointer (some ⟨g1, 0, none⟩))).put (some m2.dst) (.pointer (some ⟨g2, 0, none⟩))).put (some m3.dst) (.pointer (some ⟨g3, 0, none⟩))).put (some m4.dst) (.pointer (some ⟨g4, 0, none⟩))) w') :
    ∀ (gs : List Nat) (w' : World), gs.length = ([] ++ [m1] ++ [m2] ++ [m3] ++ [m4]).length → Env w0 (madeBlks ([] ++ [m1] ++ [m2] ++ [m3] ++ [m4]) gs ++ l) w' → wpList P ops Q tail (putAll a' ([] ++ [m1] ++ [m2] ++ [m3] ++ [m4]) gs) w' := by
  intro gs w' hl hE
  match gs, hl with
  | [g1, g2, g3, g4], _ => exact h g1 g2 g3 g4 w' hE
end walk
end Go.Proofs.YtnbbehgcnodfbaaDoor
