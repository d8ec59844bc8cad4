/-
  Two results, of which the first lies in memory; function values.
-/
import Derived.Test.YtnbbehgcnodfbaaDoorStep
namespace Go.Proofs.YtnbbehgcnodfbaaDoor
open Go.RowKit
set_option maxRecDepth 100000
set_option linter.unusedVariables false
set_option linter.unusedSimpArgs false

theorem results_ct {P : Program} {fn : Func} {p s : Tmp} {ty : TypeId} (h : fn.results = #[.cell p ty, .tmp s]) (tmps : Array Value) (w : World) (g : Nat) (t : TypeId) (cs : Array Value) (fr : Nat × Nat) (d : TypeDesc) {v : Value}
    (hp : tmps.getD p undef = .pointer (some ⟨g, 0, none⟩)) (hg : w.heap[g]? = some (.cells cs t fr))
    (hu : P.underlying ty = some d) (hd : (match d with | .struct _ | .array _ _ => true | _ => false) = true) (hi : (P.info? ty).map (·.size) = some cs.size) (hv : tmps.getD s undef = v) :
    (results fn tmps).run P w = .ok (.tuple #[.agg cs, v]) w := by
  have hp' : tmps[p]?.getD undef = .pointer (some ⟨g, 0, none⟩) := by simpa using hp
  have hv' : tmps[s]?.getD undef = v := by simpa using hv
  simp [results, h, hp', hv', asAddr, run_loadVar_row w g t ty cs fr d hg hu hd hi]

theorem v_makeFunc {P : Program} {o : Oper} {a : Act} {w : World} {fn : Fn} {C : List Operand} {vs : List Value} (ho : o.op = .makeFunc fn #[] C.toArray) (hv : C.map a.eval = vs) : Val P o a (.func fn #[] vs.toArray) w := v_run fun w => by
  subst hv
  unfold execOp
  simp [ho, Instr.makeFunc]
end Go.Proofs.YtnbbehgcnodfbaaDoor
