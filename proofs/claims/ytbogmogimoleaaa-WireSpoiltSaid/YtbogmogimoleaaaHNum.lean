/- The walk of reader.number: too few bytes are told by a panic; else their number, and the reader is behind them. -/
import Derived.Test.YtbogmogimoleaaaWx0
import Derived.LoopTactic
import Derived.Outline
namespace Go.Proofs.Ytbogmogimoleaaa.Given
open Go.RowKit Go.Proofs.YtbogmogimoleaaaW.PrintWords Go.Proofs.YtbogmogimoleaaaW.PrintLast Go.Proofs.YtbogmogimoleaaaW.PrintMore Go.Proofs.Ytbogmogimoleaaa.W
set_option linter.unusedVariables false
set_option linter.unusedSimpArgs false
set_option maxHeartbeats 4000000 in
set_option maxRecDepth 100000 in
theorem number_short (g n c : Nat) (A : Option Addr) (size : Nat) (w : World) (hc : w.cell? ⟨g, 0, none⟩ = some (.slice A n c)) (hn : n < size) :
    Calls Try.prog 44 #[.pointer (some ⟨g, 0, none⟩), .int .i64 (size : Int)] w fun e w' => e = .panicked [{ v := .iface 66 (.agg #[]), recovered := false }] ∧ w' = w := by
  have hd : decide ((n : Int) < (size : Int)) = true := decide_eq_true (by omega)
  go_enter Try.func44, Try.ntmps44
  go_wp2
  exact ⟨rfl, rfl, rfl⟩
end Go.Proofs.Ytbogmogimoleaaa.Given
