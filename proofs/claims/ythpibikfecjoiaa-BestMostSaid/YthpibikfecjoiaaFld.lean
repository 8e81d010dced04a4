import Derived.Test.YthpibikfecjoiaaOwnx0
namespace Go.Proofs.Ythpibikfecjoiaa.Own
theorem field28_0 (a c : Int) (v : Value) (w : World) : (Instr.field 28 (.agg #[.int .i64 a, v, .int .i64 c]) 0).run Try.prog w = .ok (.int .i64 a) w := by kernel_rfl
end Go.Proofs.Ythpibikfecjoiaa.Own
