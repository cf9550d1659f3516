/- Tables of the types and functions of the program, and that they are so. No condition. -/
import Derived.Test.YteimleeiikelbaaDoorVmLibThree
import Derived.Test.YteimleeiikelbaaDoorProg
import Derived.KernelRfl
namespace Go.Proofs.YteimleeiikelbaaDoor.Vm
open Go Go.Proofs.YteimleeiikelbaaDoor.Lib
set_option maxRecDepth 100000
@[reducible] noncomputable def y7 : Ty := (.pair (.int .i64) (.pair (.int .i64) (.pair .bool (.int .u8))))
@[reducible] noncomputable def y13 : Ty := (.pair .str (.int .u64))
@[reducible] noncomputable def y63 : Ty := (.pair (.int .i64) (.pair (.int .i64) .bool))
@[reducible] noncomputable def y27 : Ty := (.pair (.int .i64) (.pair (.int .i64) (.pair (.int .i64) (.pair (.int .i64) y63))))
@[reducible] noncomputable def y65 : Ty := (.pair (.int .i64) (.pair (.int .i64) (.pair (.int .i64) (.pair (.int .i64) (.pair (.int .i64) (.pair (.int .i64) (.pair (.int .i64) (.pair (.int .i64) (.pair (.int .i64) (.pair (.int .i64) (.pair (.int .i64) (.pair .bool .bool))))))))))))
@[reducible] noncomputable def y47 : Ty := (.pair (.sl 66 y65) (.pair (.sl 64 y63) (.pair (.int .i64) (.int .i64))))
@[reducible] noncomputable def y57 : Ty := (.pair (.sl 5 (.int .u8)) (.pair (.int .i64) (.int .i64)))
@[reducible] noncomputable def y69 : Ty := (.pair (.nul false) (.sl 5 (.int .u8)))
@[reducible] noncomputable def y94 : Ty := (.pair (.int .u8) (.int .u8))
@[reducible] noncomputable def y100 : Ty := (.pair (.nul false) (.pair (.nul false) (.pair (.nul false) .str)))
@[reducible] noncomputable def y111 : Ty := (.pair (.int .u64) (.pair (.int .u64) (.pair (.int .u32) (.pair (.int .u8) (.pair (.int .u8) (.pair (.int .u8) (.pair (.int .u8) (.pair (.nul true) (.pair (.nul false) (.pair (.int .i32) (.int .i32)))))))))))
theorem ti3 : TI.Ok Tryd.prog 3 ⟨.scal, 1, 8, some (.int .i64)⟩ := TI.ok_int Tryd.type3 Tryd.underlying3 ⟨rfl, rfl⟩ ⟨rfl, rfl⟩
theorem ti4 : TI.Ok Tryd.prog 4 ⟨.scal, 1, 1, some .bool⟩ := TI.ok_bool Tryd.type4 Tryd.underlying4 ⟨rfl, rfl⟩ ⟨rfl, rfl⟩
theorem ti5 : TI.Ok Tryd.prog 5 ⟨.scal, 1, 1, some (.int .u8)⟩ := TI.ok_int Tryd.type5 Tryd.underlying5 ⟨rfl, rfl⟩ ⟨rfl, rfl⟩
theorem ti9 : TI.Ok Tryd.prog 9 ⟨.scal, 1, 16, some .str⟩ := TI.ok_str Tryd.type9 Tryd.underlying9 ⟨rfl, rfl⟩ ⟨rfl, rfl⟩
theorem ti21 : TI.Ok Tryd.prog 21 ⟨.scal, 1, 4, some (.int .i32)⟩ := TI.ok_int Tryd.type21 Tryd.underlying21 ⟨rfl, rfl⟩ ⟨rfl, rfl⟩
theorem ti22 : TI.Ok Tryd.prog 22 ⟨(.slice 9), 1, 24, some (.sl 9 .str)⟩ := TI.ok_slice Tryd.type22 Tryd.underlying22 ⟨rfl, rfl⟩ ⟨rfl, rfl⟩
theorem ti32 : TI.Ok Tryd.prog 32 ⟨(.slice 5), 1, 24, some (.sl 5 (.int .u8))⟩ := TI.ok_slice Tryd.type32 Tryd.underlying32 ⟨rfl, rfl⟩ ⟨rfl, rfl⟩
theorem ti95 : TI.Ok Tryd.prog 95 ⟨(.struct [(5, 0), (5, 1)]), 2, 2, some y94⟩ := TI.ok_struct Tryd.type95 Tryd.underlying95 ⟨rfl, rfl⟩ ⟨rfl, rfl⟩ rfl rfl (by kernel_rfl)
theorem ti97 : TI.Ok Tryd.prog 97 ⟨.scal, 1, 4, some (.int .u32)⟩ := TI.ok_int Tryd.type97 Tryd.underlying97 ⟨rfl, rfl⟩ ⟨rfl, rfl⟩
noncomputable def ti : List (TypeId × TI) := [(3, ⟨.scal, 1, 8, some (.int .i64)⟩), (4, ⟨.scal, 1, 1, some .bool⟩), (5, ⟨.scal, 1, 1, some (.int .u8)⟩), (9, ⟨.scal, 1, 16, some .str⟩), (21, ⟨.scal, 1, 4, some (.int .i32)⟩), (22, ⟨.slice 9, 1, 24, some (.sl 9 .str)⟩), (32, ⟨.slice 5, 1, 24, some (.sl 5 (.int .u8))⟩), (95, ⟨.struct [(5, 0), (5, 1)], 2, 2, some y94⟩), (97, ⟨.scal, 1, 4, some (.int .u32)⟩)]
theorem tiOk : ∀ q ∈ ti, TI.Ok Tryd.prog q.1 q.2 := mem_cons ti3 <| mem_cons ti4 <| mem_cons ti5 <| mem_cons ti9 <| mem_cons ti21 <| mem_cons ti22 <| mem_cons ti32 <| mem_cons ti95 <| mem_cons ti97 <| mem_nil
noncomputable def fns : List (FuncId × Func) := [(3, Tryd.f3), (6, Tryd.f6), (7, Tryd.f7), (8, Tryd.f8), (9, Tryd.f9), (10, Tryd.f10), (20, Tryd.f20), (21, Tryd.f21), (37, Tryd.f37), (55, Tryd.f55), (56, Tryd.f56), (57, Tryd.f57), (65, Tryd.f65), (66, Tryd.f66), (68, Tryd.f68), (71, Tryd.f71), (72, Tryd.f72), (74, Tryd.f74), (75, Tryd.f75), (77, Tryd.f77)]
theorem fnOk : ∀ q ∈ fns, Tryd.prog.funcs[q.1]? = some q.2 ∧ (q.2.name == "runtime.NumGoroutine") = false := mem_cons ⟨Tryd.func3, by kernel_rfl⟩ <| mem_cons ⟨Tryd.func6, by kernel_rfl⟩ <| mem_cons ⟨Tryd.func7, by kernel_rfl⟩ <| mem_cons ⟨Tryd.func8, by kernel_rfl⟩ <| mem_cons ⟨Tryd.func9, by kernel_rfl⟩ <| mem_cons ⟨Tryd.func10, by kernel_rfl⟩ <| mem_cons ⟨Tryd.func20, by kernel_rfl⟩ <| mem_cons ⟨Tryd.func21, by kernel_rfl⟩ <| mem_cons ⟨Tryd.func37, by kernel_rfl⟩ <| mem_cons ⟨Tryd.func55, by kernel_rfl⟩ <| mem_cons ⟨Tryd.func56, by kernel_rfl⟩ <| mem_cons ⟨Tryd.func57, by kernel_rfl⟩ <| mem_cons ⟨Tryd.func65, by kernel_rfl⟩ <| mem_cons ⟨Tryd.func66, by kernel_rfl⟩ <| mem_cons ⟨Tryd.func68, by kernel_rfl⟩ <| mem_cons ⟨Tryd.func71, by kernel_rfl⟩ <| mem_cons ⟨Tryd.func72, by kernel_rfl⟩ <| mem_cons ⟨Tryd.func74, by kernel_rfl⟩ <| mem_cons ⟨Tryd.func75, by kernel_rfl⟩ <| mem_cons ⟨Tryd.func77, by kernel_rfl⟩ <| mem_nil
noncomputable def eqts : List TypeId := []
theorem eqtOk : ∀ t ∈ eqts, EqT Tryd.prog t := mem_nil
theorem orders : Tryd.prog.follows .mixedOrders = true := by kernel_rfl
noncomputable def E0 : EnvOk Tryd.prog := EnvOk.base _ ti fns eqts tiOk fnOk eqtOk
noncomputable def Et : Env := { ti := ti, fn := fns, eqt := eqts }
theorem hEt : Env.Ok Tryd.prog Et := E0.ok
end Go.Proofs.YteimleeiikelbaaDoor.Vm
