/- Tables of the types and functions of the program, and that they are so. No condition. -/
import Derived.Test.YteimleeiikelbaaDoorVmLibThree
import Derived.Test.YteimleeiikelbaaDoorProg
import Derived.KernelRfl
namespace Go.Proofs.YteimleeiikelbaaDoor.Vm
open Go Go.Proofs.YteimleeiikelbaaDoor.Lib
set_option maxRecDepth 100000
@[reducible] noncomputable def y7 : Ty := (.pair (.int .i64) (.pair (.int .i64) (.pair .bool (.int .u8))))
@[reducible] noncomputable def y13 : Ty := (.pair .str (.int .u64))
@[reducible] noncomputable def y63 : Ty := (.pair (.int .i64) (.pair (.int .i64) .bool))
@[reducible] noncomputable def y27 : Ty := (.pair (.int .i64) (.pair (.int .i64) (.pair (.int .i64) (.pair (.int .i64) y63))))
@[reducible] noncomputable def y65 : Ty := (.pair (.int .i64) (.pair (.int .i64) (.pair (.int .i64) (.pair (.int .i64) (.pair (.int .i64) (.pair (.int .i64) (.pair (.int .i64) (.pair (.int .i64) (.pair (.int .i64) (.pair (.int .i64) (.pair (.int .i64) (.pair .bool .bool))))))))))))
@[reducible] noncomputable def y47 : Ty := (.pair (.sl 66 y65) (.pair (.sl 64 y63) (.pair (.int .i64) (.int .i64))))
@[reducible] noncomputable def y57 : Ty := (.pair (.sl 5 (.int .u8)) (.pair (.int .i64) (.int .i64)))
@[reducible] noncomputable def y69 : Ty := (.pair (.nul false) (.sl 5 (.int .u8)))
@[reducible] noncomputable def y94 : Ty := (.pair (.int .u8) (.int .u8))
@[reducible] noncomputable def y100 : Ty := (.pair (.nul false) (.pair (.nul false) (.pair (.nul false) .str)))
@[reducible] noncomputable def y111 : Ty := (.pair (.int .u64) (.pair (.int .u64) (.pair (.int .u32) (.pair (.int .u8) (.pair (.int .u8) (.pair (.int .u8) (.pair (.int .u8) (.pair (.nul true) (.pair (.nul false) (.pair (.int .i32) (.int .i32)))))))))))
theorem ti3 : TI.Ok Tryd.prog 3 ⟨.scal, 1, 8, some (.int .i64)⟩ := TI.ok_int Tryd.type3 Tryd.underlying3 ⟨rfl, rfl⟩ ⟨rfl, rfl⟩
theorem ti4 : TI.Ok Tryd.prog 4 ⟨.scal, 1, 1, some .bool⟩ := TI.ok_bool Tryd.type4 Tryd.underlying4 ⟨rfl, rfl⟩ ⟨rfl, rfl⟩
theorem ti5 : TI.Ok Tryd.prog 5 ⟨.scal, 1, 1, some (.int .u8)⟩ := TI.ok_int Tryd.type5 Tryd.underlying5 ⟨rfl, rfl⟩ ⟨rfl, rfl⟩
theorem ti9 : TI.Ok Tryd.prog 9 ⟨.scal, 1, 16, some .str⟩ := TI.ok_str Tryd.type9 Tryd.underlying9 ⟨rfl, rfl⟩ ⟨rfl, rfl⟩
theorem ti21 : TI.Ok Tryd.prog 21 ⟨.scal, 1, 4, some (.int .i32)⟩ := TI.ok_int Tryd.type21 Tryd.underlying21 ⟨rfl, rfl⟩ ⟨rfl, rfl⟩
theorem ti22 : TI.Ok Tryd.prog 22 ⟨(.slice 9), 1, 24, some (.sl 9 .str)⟩ := TI.ok_slice Tryd.type22 Tryd.underlying22 ⟨rfl, rfl⟩ ⟨rfl, rfl⟩
theorem ti28 : TI.Ok Tryd.prog 28 ⟨(.struct [(3, 0), (3, 1), (3, 2), (3, 3), (3, 4), (3, 5), (4, 6)]), 7, 56, some y27⟩ := TI.ok_struct Tryd.type28 Tryd.underlying28 ⟨rfl, rfl⟩ ⟨rfl, rfl⟩ rfl rfl (by kernel_rfl)
theorem ti32 : TI.Ok Tryd.prog 32 ⟨(.slice 5), 1, 24, some (.sl 5 (.int .u8))⟩ := TI.ok_slice Tryd.type32 Tryd.underlying32 ⟨rfl, rfl⟩ ⟨rfl, rfl⟩
theorem ti40 : TI.Ok Tryd.prog 40 ⟨(.slice 3), 1, 24, some (.sl 3 (.int .i64))⟩ := TI.ok_slice Tryd.type40 Tryd.underlying40 ⟨rfl, rfl⟩ ⟨rfl, rfl⟩
theorem ti68 : TI.Ok Tryd.prog 68 ⟨.other, 1, 8, some (.nul false)⟩ := TI.ok_nul Tryd.type68 Tryd.underlying68 ⟨rfl, rfl⟩ ⟨rfl, rfl⟩ rfl
theorem ti70 : TI.Ok Tryd.prog 70 ⟨(.struct [(68, 0), (32, 1)]), 2, 32, some y69⟩ := TI.ok_struct Tryd.type70 Tryd.underlying70 ⟨rfl, rfl⟩ ⟨rfl, rfl⟩ rfl rfl (by kernel_rfl)
theorem ti84 : TI.Ok Tryd.prog 84 ⟨.other, 1, 8, some (.nul false)⟩ := TI.ok_nul Tryd.type84 Tryd.underlying84 ⟨rfl, rfl⟩ ⟨rfl, rfl⟩ rfl
theorem ti95 : TI.Ok Tryd.prog 95 ⟨(.struct [(5, 0), (5, 1)]), 2, 2, some y94⟩ := TI.ok_struct Tryd.type95 Tryd.underlying95 ⟨rfl, rfl⟩ ⟨rfl, rfl⟩ rfl rfl (by kernel_rfl)
theorem ti97 : TI.Ok Tryd.prog 97 ⟨.scal, 1, 4, some (.int .u32)⟩ := TI.ok_int Tryd.type97 Tryd.underlying97 ⟨rfl, rfl⟩ ⟨rfl, rfl⟩
noncomputable def ti : List (TypeId × TI) := [(3, ⟨.scal, 1, 8, some (.int .i64)⟩), (4, ⟨.scal, 1, 1, some .bool⟩), (5, ⟨.scal, 1, 1, some (.int .u8)⟩), (9, ⟨.scal, 1, 16, some .str⟩), (21, ⟨.scal, 1, 4, some (.int .i32)⟩), (22, ⟨.slice 9, 1, 24, some (.sl 9 .str)⟩), (28, ⟨.struct [(3, 0), (3, 1), (3, 2), (3, 3), (3, 4), (3, 5), (4, 6)], 7, 56, some y27⟩), (32, ⟨.slice 5, 1, 24, some (.sl 5 (.int .u8))⟩), (40, ⟨.slice 3, 1, 24, some (.sl 3 (.int .i64))⟩), (68, ⟨.other, 1, 8, some (.nul false)⟩), (70, ⟨.struct [(68, 0), (32, 1)], 2, 32, some y69⟩), (84, ⟨.other, 1, 8, some (.nul false)⟩), (95, ⟨.struct [(5, 0), (5, 1)], 2, 2, some y94⟩), (97, ⟨.scal, 1, 4, some (.int .u32)⟩)]
theorem tiOk : ∀ q ∈ ti, TI.Ok Tryd.prog q.1 q.2 := mem_cons ti3 <| mem_cons ti4 <| mem_cons ti5 <| mem_cons ti9 <| mem_cons ti21 <| mem_cons ti22 <| mem_cons ti28 <| mem_cons ti32 <| mem_cons ti40 <| mem_cons ti68 <| mem_cons ti70 <| mem_cons ti84 <| mem_cons ti95 <| mem_cons ti97 <| mem_nil
noncomputable def fns : List (FuncId × Func) := [(4, Tryd.f4), (6, Tryd.f6), (7, Tryd.f7), (11, Tryd.f11), (12, Tryd.f12), (13, Tryd.f13), (16, Tryd.f16), (19, Tryd.f19), (20, Tryd.f20), (22, Tryd.f22), (23, Tryd.f23), (24, Tryd.f24), (28, Tryd.f28), (29, Tryd.f29), (32, Tryd.f32), (33, Tryd.f33), (34, Tryd.f34), (35, Tryd.f35), (36, Tryd.f36), (37, Tryd.f37), (38, Tryd.f38), (39, Tryd.f39), (40, Tryd.f40), (41, Tryd.f41), (48, Tryd.f48), (49, Tryd.f49), (50, Tryd.f50), (53, Tryd.f53), (54, Tryd.f54), (55, Tryd.f55), (56, Tryd.f56), (57, Tryd.f57), (58, Tryd.f58), (59, Tryd.f59), (63, Tryd.f63), (64, Tryd.f64), (65, Tryd.f65), (66, Tryd.f66), (68, Tryd.f68), (71, Tryd.f71), (72, Tryd.f72), (74, Tryd.f74), (75, Tryd.f75), (77, Tryd.f77)]
theorem fnOk : ∀ q ∈ fns, Tryd.prog.funcs[q.1]? = some q.2 ∧ (q.2.name == "runtime.NumGoroutine") = false := mem_cons ⟨Tryd.func4, by kernel_rfl⟩ <| mem_cons ⟨Tryd.func6, by kernel_rfl⟩ <| mem_cons ⟨Tryd.func7, by kernel_rfl⟩ <| mem_cons ⟨Tryd.func11, by kernel_rfl⟩ <| mem_cons ⟨Tryd.func12, by kernel_rfl⟩ <| mem_cons ⟨Tryd.func13, by kernel_rfl⟩ <| mem_cons ⟨Tryd.func16, by kernel_rfl⟩ <| mem_cons ⟨Tryd.func19, by kernel_rfl⟩ <| mem_cons ⟨Tryd.func20, by kernel_rfl⟩ <| mem_cons ⟨Tryd.func22, by kernel_rfl⟩ <| mem_cons ⟨Tryd.func23, by kernel_rfl⟩ <| mem_cons ⟨Tryd.func24, by kernel_rfl⟩ <| mem_cons ⟨Tryd.func28, by kernel_rfl⟩ <| mem_cons ⟨Tryd.func29, by kernel_rfl⟩ <| mem_cons ⟨Tryd.func32, by kernel_rfl⟩ <| mem_cons ⟨Tryd.func33, by kernel_rfl⟩ <| mem_cons ⟨Tryd.func34, by kernel_rfl⟩ <| mem_cons ⟨Tryd.func35, by kernel_rfl⟩ <| mem_cons ⟨Tryd.func36, by kernel_rfl⟩ <| mem_cons ⟨Tryd.func37, by kernel_rfl⟩ <| mem_cons ⟨Tryd.func38, by kernel_rfl⟩ <| mem_cons ⟨Tryd.func39, by kernel_rfl⟩ <| mem_cons ⟨Tryd.func40, by kernel_rfl⟩ <| mem_cons ⟨Tryd.func41, by kernel_rfl⟩ <| mem_cons ⟨Tryd.func48, by kernel_rfl⟩ <| mem_cons ⟨Tryd.func49, by kernel_rfl⟩ <| mem_cons ⟨Tryd.func50, by kernel_rfl⟩ <| mem_cons ⟨Tryd.func53, by kernel_rfl⟩ <| mem_cons ⟨Tryd.func54, by kernel_rfl⟩ <| mem_cons ⟨Tryd.func55, by kernel_rfl⟩ <| mem_cons ⟨Tryd.func56, by kernel_rfl⟩ <| mem_cons ⟨Tryd.func57, by kernel_rfl⟩ <| mem_cons ⟨Tryd.func58, by kernel_rfl⟩ <| mem_cons ⟨Tryd.func59, by kernel_rfl⟩ <| mem_cons ⟨Tryd.func63, by kernel_rfl⟩ <| mem_cons ⟨Tryd.func64, by kernel_rfl⟩ <| mem_cons ⟨Tryd.func65, by kernel_rfl⟩ <| mem_cons ⟨Tryd.func66, by kernel_rfl⟩ <| mem_cons ⟨Tryd.func68, by kernel_rfl⟩ <| mem_cons ⟨Tryd.func71, by kernel_rfl⟩ <| mem_cons ⟨Tryd.func72, by kernel_rfl⟩ <| mem_cons ⟨Tryd.func74, by kernel_rfl⟩ <| mem_cons ⟨Tryd.func75, by kernel_rfl⟩ <| mem_cons ⟨Tryd.func77, by kernel_rfl⟩ <| mem_nil
noncomputable def eqts : List TypeId := [28]
theorem eqtOk : ∀ t ∈ eqts, EqT Tryd.prog t := mem_cons (EqT.of (by kernel_rfl) (by kernel_rfl) Tryd.underlying28 (by kernel_rfl)) <| mem_nil
theorem orders : Tryd.prog.follows .mixedOrders = true := by kernel_rfl
noncomputable def E0 : EnvOk Tryd.prog := EnvOk.base _ ti fns eqts tiOk fnOk eqtOk
noncomputable def Et : Env := { ti := ti, fn := fns, eqt := eqts }
theorem hEt : Env.Ok Tryd.prog Et := E0.ok
end Go.Proofs.YteimleeiikelbaaDoor.Vm
