/- A part of the proof of the claim: what it uses of the text HandErr. -/
import Derived.Test.YtdjpelcdijpihaaVHandCrc
namespace Go.Proofs.Ytdjpelcdijpihaa.Print
@[go_sem] theorem assert_nil (w : World) : (Instr.typeAssert .nilIface 77 123 true).run Try.prog w = .ok (.tuple #[.int .i64 0, .bool false]) w := by kernel_rfl
@[go_sem] theorem assert_err (v : Value) (w : World) : (Instr.typeAssert (.iface 123 v) 77 123 true).run Try.prog w = .ok (.tuple #[v, .bool true]) w := by kernel_rfl
end Go.Proofs.Ytdjpelcdijpihaa.Print
