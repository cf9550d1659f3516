/- Tables of the types and functions of the program, and that they are so. No condition. -/
import Derived.Test.YtcddhifkfakcjaaVmLibThree
import Derived.Test.YtcddhifkfakcjaaProg
import Derived.KernelRfl
namespace Go.Proofs.Ytcddhifkfakcjaa.Vm
open Go Go.Proofs.Ytcddhifkfakcjaa.Lib
set_option maxRecDepth 100000
@[reducible] noncomputable def y7 : Ty := (.pair (.int .i64) (.pair (.int .i64) (.pair .bool (.int .u8))))
@[reducible] noncomputable def y13 : Ty := (.pair .str (.int .u64))
@[reducible] noncomputable def y34 : Ty := (.pair (.int .i64) (.pair (.int .i64) (.pair (.int .i64) (.pair (.int .i64) (.pair (.int .i64) (.pair (.int .i64) .bool))))))
@[reducible] noncomputable def y37 : Ty := (.pair (.int .i64) (.pair (.int .i64) (.pair (.int .i64) (.pair (.int .i64) (.pair y34 (.pair (.sl 35 y34) (.pair (.int .i64) (.int .i64))))))))
@[reducible] noncomputable def y41 : Ty := (.pair (.int .i64) (.pair (.int .i64) (.pair (.int .i64) (.pair (.int .i64) (.pair y34 (.pair (.sl 39 y34) (.pair (.int .i64) (.int .i64))))))))
@[reducible] noncomputable def y52 : Ty := (.pair (.nul false) (.pair (.nul false) (.pair (.nul false) .str)))
@[reducible] noncomputable def y65 : Ty := (.pair (.int .u64) (.pair (.int .u64) (.pair (.int .u32) (.pair (.int .u8) (.pair (.int .u8) (.pair (.int .u8) (.pair (.int .u8) (.pair (.nul true) (.pair (.nul false) (.pair (.int .i32) (.int .i32)))))))))))
theorem ti3 : TI.Ok Try.prog 3 ⟨.scal, 1, 8, some (.int .i64)⟩ := TI.ok_int Try.type3 Try.underlying3 ⟨rfl, rfl⟩ ⟨rfl, rfl⟩
theorem ti4 : TI.Ok Try.prog 4 ⟨.scal, 1, 1, some .bool⟩ := TI.ok_bool Try.type4 Try.underlying4 ⟨rfl, rfl⟩ ⟨rfl, rfl⟩
theorem ti22 : TI.Ok Try.prog 22 ⟨(.slice 38), 1, 24, some (.sl 38 y37)⟩ := TI.ok_slice Try.type22 Try.underlying22 ⟨rfl, rfl⟩ ⟨rfl, rfl⟩
theorem ti24 : TI.Ok Try.prog 24 ⟨(.slice 3), 1, 24, some (.sl 3 (.int .i64))⟩ := TI.ok_slice Try.type24 Try.underlying24 ⟨rfl, rfl⟩ ⟨rfl, rfl⟩
theorem ti26 : TI.Ok Try.prog 26 ⟨(.slice 42), 1, 24, some (.sl 42 y41)⟩ := TI.ok_slice Try.type26 Try.underlying26 ⟨rfl, rfl⟩ ⟨rfl, rfl⟩
theorem ti35 : TI.Ok Try.prog 35 ⟨(.struct [(3, 0), (3, 1), (3, 2), (3, 3), (3, 4), (3, 5), (4, 6)]), 7, 56, some y34⟩ := TI.ok_struct Try.type35 Try.underlying35 ⟨rfl, rfl⟩ ⟨rfl, rfl⟩ rfl rfl (by kernel_rfl)
theorem ti36 : TI.Ok Try.prog 36 ⟨(.slice 35), 1, 24, some (.sl 35 y34)⟩ := TI.ok_slice Try.type36 Try.underlying36 ⟨rfl, rfl⟩ ⟨rfl, rfl⟩
theorem ti38 : TI.Ok Try.prog 38 ⟨(.struct [(3, 0), (3, 1), (3, 2), (3, 3), (35, 4), (36, 11), (3, 12), (3, 13)]), 14, 128, some y37⟩ := TI.ok_struct Try.type38 Try.underlying38 ⟨rfl, rfl⟩ ⟨rfl, rfl⟩ rfl rfl (by kernel_rfl)
theorem ti39 : TI.Ok Try.prog 39 ⟨(.struct [(3, 0), (3, 1), (3, 2), (3, 3), (3, 4), (3, 5), (4, 6)]), 7, 56, some y34⟩ := TI.ok_struct Try.type39 Try.underlying39 ⟨rfl, rfl⟩ ⟨rfl, rfl⟩ rfl rfl (by kernel_rfl)
theorem ti40 : TI.Ok Try.prog 40 ⟨(.slice 39), 1, 24, some (.sl 39 y34)⟩ := TI.ok_slice Try.type40 Try.underlying40 ⟨rfl, rfl⟩ ⟨rfl, rfl⟩
theorem ti42 : TI.Ok Try.prog 42 ⟨(.struct [(3, 0), (3, 1), (3, 2), (3, 3), (39, 4), (40, 11), (3, 12), (3, 13)]), 14, 128, some y41⟩ := TI.ok_struct Try.type42 Try.underlying42 ⟨rfl, rfl⟩ ⟨rfl, rfl⟩ rfl rfl (by kernel_rfl)
noncomputable def ti : List (TypeId × TI) := [(3, ⟨.scal, 1, 8, some (.int .i64)⟩), (4, ⟨.scal, 1, 1, some .bool⟩), (22, ⟨.slice 38, 1, 24, some (.sl 38 y37)⟩), (24, ⟨.slice 3, 1, 24, some (.sl 3 (.int .i64))⟩), (26, ⟨.slice 42, 1, 24, some (.sl 42 y41)⟩), (35, ⟨.struct [(3, 0), (3, 1), (3, 2), (3, 3), (3, 4), (3, 5), (4, 6)], 7, 56, some y34⟩), (36, ⟨.slice 35, 1, 24, some (.sl 35 y34)⟩), (38, ⟨.struct [(3, 0), (3, 1), (3, 2), (3, 3), (35, 4), (36, 11), (3, 12), (3, 13)], 14, 128, some y37⟩), (39, ⟨.struct [(3, 0), (3, 1), (3, 2), (3, 3), (3, 4), (3, 5), (4, 6)], 7, 56, some y34⟩), (40, ⟨.slice 39, 1, 24, some (.sl 39 y34)⟩), (42, ⟨.struct [(3, 0), (3, 1), (3, 2), (3, 3), (39, 4), (40, 11), (3, 12), (3, 13)], 14, 128, some y41⟩)]
theorem tiOk : ∀ q ∈ ti, TI.Ok Try.prog q.1 q.2 := mem_cons ti3 <| mem_cons ti4 <| mem_cons ti22 <| mem_cons ti24 <| mem_cons ti26 <| mem_cons ti35 <| mem_cons ti36 <| mem_cons ti38 <| mem_cons ti39 <| mem_cons ti40 <| mem_cons ti42 <| mem_nil
noncomputable def fns : List (FuncId × Func) := [(3, Try.f3), (4, Try.f4), (5, Try.f5), (6, Try.f6), (7, Try.f7), (8, Try.f8), (9, Try.f9), (10, Try.f10), (11, Try.f11), (12, Try.f12), (13, Try.f13), (14, Try.f14), (15, Try.f15), (16, Try.f16), (17, Try.f17), (18, Try.f18), (19, Try.f19), (20, Try.f20), (21, Try.f21)]
theorem fnOk : ∀ q ∈ fns, Try.prog.funcs[q.1]? = some q.2 ∧ (q.2.name == "runtime.NumGoroutine") = false := mem_cons ⟨Try.func3, by kernel_rfl⟩ <| mem_cons ⟨Try.func4, by kernel_rfl⟩ <| mem_cons ⟨Try.func5, by kernel_rfl⟩ <| mem_cons ⟨Try.func6, by kernel_rfl⟩ <| mem_cons ⟨Try.func7, by kernel_rfl⟩ <| mem_cons ⟨Try.func8, by kernel_rfl⟩ <| mem_cons ⟨Try.func9, by kernel_rfl⟩ <| mem_cons ⟨Try.func10, by kernel_rfl⟩ <| mem_cons ⟨Try.func11, by kernel_rfl⟩ <| mem_cons ⟨Try.func12, by kernel_rfl⟩ <| mem_cons ⟨Try.func13, by kernel_rfl⟩ <| mem_cons ⟨Try.func14, by kernel_rfl⟩ <| mem_cons ⟨Try.func15, by kernel_rfl⟩ <| mem_cons ⟨Try.func16, by kernel_rfl⟩ <| mem_cons ⟨Try.func17, by kernel_rfl⟩ <| mem_cons ⟨Try.func18, by kernel_rfl⟩ <| mem_cons ⟨Try.func19, by kernel_rfl⟩ <| mem_cons ⟨Try.func20, by kernel_rfl⟩ <| mem_cons ⟨Try.func21, by kernel_rfl⟩ <| mem_nil
noncomputable def eqts : List TypeId := []
theorem eqtOk : ∀ t ∈ eqts, EqT Try.prog t := mem_nil
theorem orders : Try.prog.follows .mixedOrders = true := by kernel_rfl
noncomputable def E0 : EnvOk Try.prog := EnvOk.base _ ti fns eqts tiOk fnOk eqtOk
noncomputable def Et : Env := { ti := ti, fn := fns, eqt := eqts }
theorem hEt : Env.Ok Try.prog Et := E0.ok
end Go.Proofs.Ytcddhifkfakcjaa.Vm
