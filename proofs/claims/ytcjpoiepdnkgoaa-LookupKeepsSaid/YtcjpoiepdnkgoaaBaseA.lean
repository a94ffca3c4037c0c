/- WHAT IS PROVED: part of the proof that posthouselaw11.LookupKeeps returns true at every input and leaves its arguments alone. CONDITIONS: none beyond the row. -/
import Derived.Test.YtcjpoiepdnkgoaaFrameC
import Derived.Test.YtcjpoiepdnkgoaaChecked
import Derived.Test.YtcjpoiepdnkgoaaBitsA
namespace Go.Ph
abbrev Id := Vector UInt8 32
@[reducible] def Id.zero : Id := Vector.replicate 32 0
instance : Inhabited Id := ⟨Id.zero⟩
structure Member where
  no : Int
  id : Id deriving DecidableEq, Inhabited
@[reducible] def Member.zero : Member := ⟨(0 : Int), Id.zero⟩
instance Member.rp {P : Program} : Rp P Member := Rp.via fun (x : Member) => (x.no, x.id)
instance Member.encI {P : Program} : Enc P Member := Enc.via fun (x : Member) => (x.no, x.id)
section
variable {P : Program}
theorem s_Member_no : Sub P 0 (fun x : Member => x.no) := ⟨fun h => (sub_fst (P := P) (α := Int) (δ := Id)).sub h⟩
theorem p_Member_no : Put P 0 (fun (x : Member) y => { x with no := y }) := ⟨fun h k => (put_fst (P := P) (α := Int) (δ := Id)).put h k⟩
theorem s_Member_id : Sub P 1 (fun x : Member => x.id) := ⟨fun h => (sub_snd (P := P) (α := Int) (δ := Id)).sub h⟩
theorem p_Member_id : Put P 1 (fun (x : Member) y => { x with id := y }) := ⟨fun h k => (put_snd (P := P) (α := Int) (δ := Id)).put h k⟩
end
structure Node where
  self : Member
  pred : Member
  succs : (List Member)
  fingers : (List Member) deriving DecidableEq, Inhabited
@[reducible] def Node.zero : Node := ⟨Member.zero, Member.zero, ([] : List Member), ([] : List Member)⟩
instance Node.rp {P : Program} : Rp P Node := Rp.via fun (x : Node) => (x.self, x.pred, x.succs, x.fingers)
section
variable {P : Program}
theorem s_Node_self : Sub P 0 (fun x : Node => x.self) := ⟨fun h => (sub_fst (P := P) (α := Member) (δ := Member × (List Member) × (List Member))).sub h⟩
theorem p_Node_self : Put P 0 (fun (x : Node) y => { x with self := y }) := ⟨fun h k => (put_fst (P := P) (α := Member) (δ := Member × (List Member) × (List Member))).put h k⟩
theorem s_Node_pred : Sub P 33 (fun x : Node => x.pred) := ⟨fun h => (sub_snd' (P := P) (α := Member) (sub_fst (P := P) (α := Member) (δ := (List Member) × (List Member)))).sub h⟩
theorem p_Node_pred : Put P 33 (fun (x : Node) y => { x with pred := y }) := ⟨fun h k => (put_snd' (P := P) (α := Member) (put_fst (P := P) (α := Member) (δ := (List Member) × (List Member)))).put h k⟩
theorem s_Node_succs : Sub P 66 (fun x : Node => x.succs) := ⟨fun h => (sub_snd' (P := P) (α := Member) (sub_snd' (P := P) (α := Member) (sub_fst (P := P) (α := (List Member)) (δ := (List Member))))).sub h⟩
theorem p_Node_succs : Put P 66 (fun (x : Node) y => { x with succs := y }) := ⟨fun h k => (put_snd' (P := P) (α := Member) (put_snd' (P := P) (α := Member) (put_fst (P := P) (α := (List Member)) (δ := (List Member))))).put h k⟩
theorem s_Node_fingers : Sub P 67 (fun x : Node => x.fingers) := ⟨fun h => (sub_snd' (P := P) (α := Member) (sub_snd' (P := P) (α := Member) (sub_snd (P := P) (α := (List Member)) (δ := (List Member))))).sub h⟩
theorem p_Node_fingers : Put P 67 (fun (x : Node) y => { x with fingers := y }) := ⟨fun h k => (put_snd' (P := P) (α := Member) (put_snd' (P := P) (α := Member) (put_snd (P := P) (α := (List Member)) (δ := (List Member))))).put h k⟩
theorem s_Node_self_no : Sub P 0 (fun x : Node => x.self.no) := ⟨fun h => (Sub.comp (P := P) s_Node_self s_Member_no).sub h⟩
theorem s_Node_self_id : Sub P 1 (fun x : Node => x.self.id) := ⟨fun h => (Sub.comp (P := P) s_Node_self s_Member_id).sub h⟩
theorem s_Node_pred_no : Sub P 33 (fun x : Node => x.pred.no) := ⟨fun h => (Sub.comp (P := P) s_Node_pred s_Member_no).sub h⟩
theorem s_Node_pred_id : Sub P 34 (fun x : Node => x.pred.id) := ⟨fun h => (Sub.comp (P := P) s_Node_pred s_Member_id).sub h⟩
end
structure Overlay where
  nodes : (List Node) deriving DecidableEq, Inhabited
@[reducible] def Overlay.zero : Overlay := ⟨([] : List Node)⟩
instance Overlay.rp {P : Program} : Rp P Overlay := Rp.via fun (x : Overlay) => (⟨x.nodes⟩ : One (List Node))
section
variable {P : Program}
theorem s_Overlay_nodes : Sub P 0 (fun x : Overlay => x.nodes) := ⟨fun h => (sub_one (P := P) (α := (List Node))).sub h⟩
theorem p_Overlay_nodes : Put P 0 (fun (x : Overlay) y => { x with nodes := y }) := ⟨fun h k => (put_one (P := P) (α := (List Node))).put h k⟩
end
structure LookupAnswer where
  who : Member
  owner : Bool deriving DecidableEq, Inhabited
@[reducible] def LookupAnswer.zero : LookupAnswer := ⟨Member.zero, false⟩
instance LookupAnswer.rp {P : Program} : Rp P LookupAnswer := Rp.via fun (x : LookupAnswer) => (x.who, x.owner)
instance LookupAnswer.encI {P : Program} : Enc P LookupAnswer := Enc.via fun (x : LookupAnswer) => (x.who, x.owner)
section
variable {P : Program}
theorem s_LookupAnswer_who : Sub P 0 (fun x : LookupAnswer => x.who) := ⟨fun h => (sub_fst (P := P) (α := Member) (δ := Bool)).sub h⟩
theorem p_LookupAnswer_who : Put P 0 (fun (x : LookupAnswer) y => { x with who := y }) := ⟨fun h k => (put_fst (P := P) (α := Member) (δ := Bool)).put h k⟩
theorem s_LookupAnswer_owner : Sub P 33 (fun x : LookupAnswer => x.owner) := ⟨fun h => (sub_snd (P := P) (α := Member) (δ := Bool)).sub h⟩
theorem p_LookupAnswer_owner : Put P 33 (fun (x : LookupAnswer) y => { x with owner := y }) := ⟨fun h k => (put_snd (P := P) (α := Member) (δ := Bool)).put h k⟩
theorem s_LookupAnswer_who_no : Sub P 0 (fun x : LookupAnswer => x.who.no) := ⟨fun h => (Sub.comp (P := P) s_LookupAnswer_who s_Member_no).sub h⟩
theorem s_LookupAnswer_who_id : Sub P 1 (fun x : LookupAnswer => x.who.id) := ⟨fun h => (Sub.comp (P := P) s_LookupAnswer_who s_Member_id).sub h⟩
end
end Go.Ph
namespace Go.Ph
theorem ty3 : Ty Go.Proofs.Try.prog 3 Int := ⟨Go.Proofs.Try.isAgg3, Go.Proofs.Try.sizeOf3⟩
theorem z3 : Zero Go.Proofs.Try.prog 3 (0 : Int) :=
  Zero.of ([.int .i64 0]) Go.Proofs.Try.zeroValue3 (by kernel_rfl) rfl fun m => ⟨rfl, by decide⟩
theorem eqT3 : EqT Go.Proofs.Try.prog 1 3 Int := eqT_int Go.Proofs.Try.underlying3
theorem ty4 : Ty Go.Proofs.Try.prog 4 Bool := ⟨Go.Proofs.Try.isAgg4, Go.Proofs.Try.sizeOf4⟩
theorem z4 : Zero Go.Proofs.Try.prog 4 false :=
  Zero.of ([.bool false]) Go.Proofs.Try.zeroValue4 (by kernel_rfl) rfl fun m => rfl
theorem eqT4 : EqT Go.Proofs.Try.prog 1 4 Bool := eqT_bool Go.Proofs.Try.underlying4
theorem ty5 : Ty Go.Proofs.Try.prog 5 UInt8 := ⟨Go.Proofs.Try.isAgg5, Go.Proofs.Try.sizeOf5⟩
theorem eqT5 : EqT Go.Proofs.Try.prog 1 5 UInt8 := eqT_u8 Go.Proofs.Try.underlying5
theorem ty26 : Ty Go.Proofs.Try.prog 26 Id := ⟨Go.Proofs.Try.isAgg26, Go.Proofs.Try.sizeOf26⟩
theorem z26 : Zero Go.Proofs.Try.prog 26 Id.zero :=
  Zero.of (List.replicate 32 (.int .u8 0)) Go.Proofs.Try.zeroValue26 (by kernel_rfl) rfl fun m => (rel_vec_rep rfl)
theorem el26 : Program.elem Go.Proofs.Try.prog 26 = 5 := by simp [Program.elem, Go.Proofs.Try.underlying26]
theorem tyar26 : TyAr Go.Proofs.Try.prog 26 32 UInt8 := ⟨by rw [el26]; exact Go.Proofs.Try.underlying26, by simp [Program.arrayLen, Go.Proofs.Try.underlying26], fun w => by rw [el26]; exact Go.Proofs.Try.sizeOf5 w⟩
theorem pl26 : TyPl Go.Proofs.Try.prog 26 (fun i => if i < 32 then some (i * Rp.sz Go.Proofs.Try.prog UInt8, Rp.sz Go.Proofs.Try.prog UInt8) else none) (32 * Rp.sz Go.Proofs.Try.prog UInt8) := TyPl.array tyar26
theorem eqT26 : EqT Go.Proofs.Try.prog 2 26 Id := eqT_vec Go.Proofs.Try.underlying26 (by kernel_rfl) eqT5 ty5
theorem eg26 : Go.Proofs.Try.prog.eqGuardType Go.Proofs.Try.prog.depth 26 = false := by kernel_rfl
theorem ty39 : Ty Go.Proofs.Try.prog 39 Member := ⟨Go.Proofs.Try.isAgg39, Go.Proofs.Try.sizeOf39⟩
theorem z39 : Zero Go.Proofs.Try.prog 39 Member.zero :=
  Zero.of (([.int .i64 0] ++ (List.replicate 32 (.int .u8 0)))) Go.Proofs.Try.zeroValue39 (by kernel_rfl) rfl fun m => ⟨_, _, rfl, ⟨rfl, by decide⟩, (rel_vec_rep rfl)⟩
theorem fo39_0 : FOff Go.Proofs.Try.prog 39 0 0 := FOff.of Go.Proofs.Try.underlying39 rfl rfl fun w => ⟨0, Go.Proofs.Try.sizeOf3 w⟩
theorem fo39_1 : FOff Go.Proofs.Try.prog 39 1 1 := FOff.of Go.Proofs.Try.underlying39 rfl rfl fun w => ⟨31, Go.Proofs.Try.sizeOf26 w⟩
theorem pl39 : TyPl Go.Proofs.Try.prog 39 (#[(0, 1), (1, 32)][·]?) 33 := TyPl.struct Go.Proofs.Try.underlying39 (fun w => by simp [Go.Proofs.Try.sizeOf26, Go.Proofs.Try.sizeOf3]) rfl
theorem eqT39 : EqT Go.Proofs.Try.prog 3 39 Member := eqT_struct Go.Proofs.Try.underlying39 (by kernel_rfl) rfl (by
  intro d m cs ds x y w hd hx hy
  exact (run_eqField (w := w) hx hy (f := { name := "No", type := 3, offset := 0, embedded := false, tag := "", pkgPath := "", byteOffset := 0 }) (by decide) s_Member_no ty3 eqT3 (d := d) (by omega) (run_eqField (w := w) hx hy (f := { name := "Id", type := 26, offset := 1, embedded := false, tag := "", pkgPath := "", byteOffset := 8 }) (by decide) s_Member_id ty26 eqT26 (d := d) (by omega) (fs := []) rfl)).trans (congrArg (Result.ok · w) (by rw [Bool.eq_iff_iff]; cases x; cases y; simp)))
theorem eg39 : Go.Proofs.Try.prog.eqGuardType Go.Proofs.Try.prog.depth 39 = false := by kernel_rfl
theorem ty28 : Ty Go.Proofs.Try.prog 28 (List Member) := ⟨Go.Proofs.Try.isAgg28, Go.Proofs.Try.sizeOf28⟩
theorem el28 : Program.elem Go.Proofs.Try.prog 28 = 39 := by simp [Program.elem, Go.Proofs.Try.underlying28]
theorem tysl28 : TySl Go.Proofs.Try.prog 28 Member := ⟨by rw [el28]; exact Go.Proofs.Try.underlying28, fun w => by rw [el28]; exact Go.Proofs.Try.sizeOf39 w⟩
theorem tyel28 : TyEl Go.Proofs.Try.prog 28 39 Member := ⟨Go.Proofs.Try.underlying28, TyEl.info_of (by kernel_rfl) (by kernel_rfl), by decide⟩
theorem ty44 : Ty Go.Proofs.Try.prog 44 Node := ⟨Go.Proofs.Try.isAgg44, Go.Proofs.Try.sizeOf44⟩
theorem z44 : Zero Go.Proofs.Try.prog 44 Node.zero :=
  Zero.of ((([.int .i64 0] ++ (List.replicate 32 (.int .u8 0))) ++ (([.int .i64 0] ++ (List.replicate 32 (.int .u8 0))) ++ ([.slice none 0 0] ++ ([.slice none 0 0]))))) Go.Proofs.Try.zeroValue44 (by kernel_rfl) rfl fun m => ⟨_, _, rfl, ⟨_, _, rfl, ⟨rfl, by decide⟩, (rel_vec_rep rfl)⟩, ⟨_, _, rfl, ⟨_, _, rfl, ⟨rfl, by decide⟩, (rel_vec_rep rfl)⟩, ⟨_, _, rfl, zslice, zslice⟩⟩⟩
theorem fo44_0 : FOff Go.Proofs.Try.prog 44 0 0 := FOff.of Go.Proofs.Try.underlying44 rfl rfl fun w => ⟨32, Go.Proofs.Try.sizeOf39 w⟩
theorem fo44_1 : FOff Go.Proofs.Try.prog 44 1 33 := FOff.of Go.Proofs.Try.underlying44 rfl rfl fun w => ⟨32, Go.Proofs.Try.sizeOf39 w⟩
theorem fo44_2 : FOff Go.Proofs.Try.prog 44 2 66 := FOff.of Go.Proofs.Try.underlying44 rfl rfl fun w => ⟨0, Go.Proofs.Try.sizeOf28 w⟩
theorem fo44_3 : FOff Go.Proofs.Try.prog 44 3 67 := FOff.of Go.Proofs.Try.underlying44 rfl rfl fun w => ⟨0, Go.Proofs.Try.sizeOf28 w⟩
theorem pl44 : TyPl Go.Proofs.Try.prog 44 (#[(0, 33), (33, 33), (66, 1), (67, 1)][·]?) 68 := TyPl.struct Go.Proofs.Try.underlying44 (fun w => by simp [Go.Proofs.Try.sizeOf28, Go.Proofs.Try.sizeOf39]) rfl
theorem ty22 : Ty Go.Proofs.Try.prog 22 (List Node) := ⟨Go.Proofs.Try.isAgg22, Go.Proofs.Try.sizeOf22⟩
theorem el22 : Program.elem Go.Proofs.Try.prog 22 = 44 := by simp [Program.elem, Go.Proofs.Try.underlying22]
theorem tysl22 : TySl Go.Proofs.Try.prog 22 Node := ⟨by rw [el22]; exact Go.Proofs.Try.underlying22, fun w => by rw [el22]; exact Go.Proofs.Try.sizeOf44 w⟩
theorem tyel22 : TyEl Go.Proofs.Try.prog 22 44 Node := ⟨Go.Proofs.Try.underlying22, TyEl.info_of (by kernel_rfl) (by kernel_rfl), by decide⟩
theorem ty24 : Ty Go.Proofs.Try.prog 24 Overlay := ⟨Go.Proofs.Try.isAgg24, Go.Proofs.Try.sizeOf24⟩
theorem z24 : Zero Go.Proofs.Try.prog 24 Overlay.zero :=
  Zero.of (([.slice none 0 0])) Go.Proofs.Try.zeroValue24 (by kernel_rfl) rfl fun m => zslice
theorem fo24_0 : FOff Go.Proofs.Try.prog 24 0 0 := FOff.of Go.Proofs.Try.underlying24 rfl rfl fun w => ⟨0, Go.Proofs.Try.sizeOf22 w⟩
theorem pl24 : TyPl Go.Proofs.Try.prog 24 (#[(0, 1)][·]?) 1 := TyPl.struct Go.Proofs.Try.underlying24 (fun w => by simp [Go.Proofs.Try.sizeOf22]) rfl
theorem ty29 : Ty Go.Proofs.Try.prog 29 Int := ⟨Go.Proofs.Try.isAgg29, Go.Proofs.Try.sizeOf29⟩
theorem z29 : Zero Go.Proofs.Try.prog 29 (0 : Int) :=
  Zero.of ([.int .i64 0]) Go.Proofs.Try.zeroValue29 (by kernel_rfl) rfl fun m => ⟨rfl, by decide⟩
theorem ty45 : Ty Go.Proofs.Try.prog 45 (List Int) := ⟨Go.Proofs.Try.isAgg45, Go.Proofs.Try.sizeOf45⟩
theorem z45 : Zero Go.Proofs.Try.prog 45 ([] : List Int) :=
  Zero.of ([.slice none 0 0]) Go.Proofs.Try.zeroValue45 (by kernel_rfl) rfl fun m => zslice
theorem el45 : Program.elem Go.Proofs.Try.prog 45 = 3 := by simp [Program.elem, Go.Proofs.Try.underlying45]
theorem tysl45 : TySl Go.Proofs.Try.prog 45 Int := ⟨by rw [el45]; exact Go.Proofs.Try.underlying45, fun w => by rw [el45]; exact Go.Proofs.Try.sizeOf3 w⟩
theorem tyel45 : TyEl Go.Proofs.Try.prog 45 3 Int := ⟨Go.Proofs.Try.underlying45, TyEl.info_of (by kernel_rfl) (by kernel_rfl), by decide⟩
theorem ty73 : Ty Go.Proofs.Try.prog 73 LookupAnswer := ⟨Go.Proofs.Try.isAgg73, Go.Proofs.Try.sizeOf73⟩
theorem z73 : Zero Go.Proofs.Try.prog 73 LookupAnswer.zero :=
  Zero.of ((([.int .i64 0] ++ (List.replicate 32 (.int .u8 0))) ++ ([.bool false]))) Go.Proofs.Try.zeroValue73 (by kernel_rfl) rfl fun m => ⟨_, _, rfl, ⟨_, _, rfl, ⟨rfl, by decide⟩, (rel_vec_rep rfl)⟩, rfl⟩
theorem fo73_0 : FOff Go.Proofs.Try.prog 73 0 0 := FOff.of Go.Proofs.Try.underlying73 rfl rfl fun w => ⟨32, Go.Proofs.Try.sizeOf39 w⟩
theorem fo73_1 : FOff Go.Proofs.Try.prog 73 1 33 := FOff.of Go.Proofs.Try.underlying73 rfl rfl fun w => ⟨0, Go.Proofs.Try.sizeOf4 w⟩
theorem pl73 : TyPl Go.Proofs.Try.prog 73 (#[(0, 33), (33, 1)][·]?) 34 := TyPl.struct Go.Proofs.Try.underlying73 (fun w => by simp [Go.Proofs.Try.sizeOf39, Go.Proofs.Try.sizeOf4]) rfl
theorem eqT73 : EqT Go.Proofs.Try.prog 4 73 LookupAnswer := eqT_struct Go.Proofs.Try.underlying73 (by kernel_rfl) rfl (by
  intro d m cs ds x y w hd hx hy
  exact (run_eqField (w := w) hx hy (f := { name := "who", type := 39, offset := 0, embedded := false, tag := "", pkgPath := "posthouse/lookup", byteOffset := 0 }) (by decide) s_LookupAnswer_who ty39 eqT39 (d := d) (by omega) (run_eqField (w := w) hx hy (f := { name := "owner", type := 4, offset := 33, embedded := false, tag := "", pkgPath := "posthouse/lookup", byteOffset := 40 }) (by decide) s_LookupAnswer_owner ty4 eqT4 (d := d) (by omega) (fs := []) rfl)).trans (congrArg (Result.ok · w) (by rw [Bool.eq_iff_iff]; cases x; cases y; simp)))
theorem eg73 : Go.Proofs.Try.prog.eqGuardType Go.Proofs.Try.prog.depth 73 = false := by kernel_rfl
theorem el75 : Program.elem Go.Proofs.Try.prog 75 = 5 := by simp [Program.elem, Go.Proofs.Try.underlying75]
theorem tysl75 : TySl Go.Proofs.Try.prog 75 UInt8 := ⟨by rw [el75]; exact Go.Proofs.Try.underlying75, fun w => by rw [el75]; exact Go.Proofs.Try.sizeOf5 w⟩
theorem ty90 : Ty Go.Proofs.Try.prog 90 (Fn1 Member Bool) := ⟨Go.Proofs.Try.isAgg90, Go.Proofs.Try.sizeOf90⟩
theorem el133 : Program.elem Go.Proofs.Try.prog 133 = 28 := by simp [Program.elem, Go.Proofs.Try.underlying133]
theorem tysl133 : TySl Go.Proofs.Try.prog 133 (List Member) := ⟨by rw [el133]; exact Go.Proofs.Try.underlying133, fun w => by rw [el133]; exact Go.Proofs.Try.sizeOf28 w⟩
theorem tyel133 : TyEl Go.Proofs.Try.prog 133 28 (List Member) := ⟨Go.Proofs.Try.underlying133, TyEl.info_of (by kernel_rfl) (by kernel_rfl), by decide⟩
theorem ty155 : Ty Go.Proofs.Try.prog 155 UInt64 := ⟨Go.Proofs.Try.isAgg155, Go.Proofs.Try.sizeOf155⟩
theorem z155 : Zero Go.Proofs.Try.prog 155 (0 : UInt64) :=
  Zero.of ([.int .u64 0]) Go.Proofs.Try.zeroValue155 (by kernel_rfl) rfl fun m => rfl
end Go.Ph
namespace Go.Ph
theorem hmix : Go.Proofs.Try.prog.follows .mixedOrders = true := by kernel_rfl
theorem c7 : callable Go.Proofs.Try.prog 7 = true := by kernel_rfl
theorem c8 : callable Go.Proofs.Try.prog 8 = true := by kernel_rfl
theorem c9 : callable Go.Proofs.Try.prog 9 = true := by kernel_rfl
theorem c10 : callable Go.Proofs.Try.prog 10 = true := by kernel_rfl
theorem c11 : callable Go.Proofs.Try.prog 11 = true := by kernel_rfl
theorem c12 : callable Go.Proofs.Try.prog 12 = true := by kernel_rfl
theorem c14 : callable Go.Proofs.Try.prog 14 = true := by kernel_rfl
theorem c15 : callable Go.Proofs.Try.prog 15 = true := by kernel_rfl
theorem c16 : callable Go.Proofs.Try.prog 16 = true := by kernel_rfl
theorem c17 : callable Go.Proofs.Try.prog 17 = true := by kernel_rfl
theorem c18 : callable Go.Proofs.Try.prog 18 = true := by kernel_rfl
theorem c23 : callable Go.Proofs.Try.prog 23 = true := by kernel_rfl
theorem c28 : callable Go.Proofs.Try.prog 28 = true := by kernel_rfl
theorem c29 : callable Go.Proofs.Try.prog 29 = true := by kernel_rfl
theorem c30 : callable Go.Proofs.Try.prog 30 = true := by kernel_rfl
theorem c31 : callable Go.Proofs.Try.prog 31 = true := by kernel_rfl
theorem c32 : callable Go.Proofs.Try.prog 32 = true := by kernel_rfl
theorem c33 : callable Go.Proofs.Try.prog 33 = true := by kernel_rfl
theorem c34 : callable Go.Proofs.Try.prog 34 = true := by kernel_rfl
theorem c35 : callable Go.Proofs.Try.prog 35 = true := by kernel_rfl
theorem c37 : callable Go.Proofs.Try.prog 37 = true := by kernel_rfl
theorem c38 : callable Go.Proofs.Try.prog 38 = true := by kernel_rfl
theorem c39 : callable Go.Proofs.Try.prog 39 = true := by kernel_rfl
theorem c40 : callable Go.Proofs.Try.prog 40 = true := by kernel_rfl
theorem c41 : callable Go.Proofs.Try.prog 41 = true := by kernel_rfl
theorem c42 : callable Go.Proofs.Try.prog 42 = true := by kernel_rfl
theorem c44 : callable Go.Proofs.Try.prog 44 = true := by kernel_rfl
theorem c48 : callable Go.Proofs.Try.prog 48 = true := by kernel_rfl
theorem c49 : callable Go.Proofs.Try.prog 49 = true := by kernel_rfl
theorem c55 : callable Go.Proofs.Try.prog 55 = true := by kernel_rfl
theorem c56 : callable Go.Proofs.Try.prog 56 = true := by kernel_rfl
theorem c59 : callable Go.Proofs.Try.prog 59 = true := by kernel_rfl
theorem c60 : callable Go.Proofs.Try.prog 60 = true := by kernel_rfl
theorem c61 : callable Go.Proofs.Try.prog 61 = true := by kernel_rfl
theorem c62 : callable Go.Proofs.Try.prog 62 = true := by kernel_rfl
theorem c63 : callable Go.Proofs.Try.prog 63 = true := by kernel_rfl
theorem c64 : callable Go.Proofs.Try.prog 64 = true := by kernel_rfl
theorem c65 : callable Go.Proofs.Try.prog 65 = true := by kernel_rfl
theorem c66 : callable Go.Proofs.Try.prog 66 = true := by kernel_rfl
theorem c67 : callable Go.Proofs.Try.prog 67 = true := by kernel_rfl
theorem c68 : callable Go.Proofs.Try.prog 68 = true := by kernel_rfl
theorem c69 : callable Go.Proofs.Try.prog 69 = true := by kernel_rfl
theorem c70 : callable Go.Proofs.Try.prog 70 = true := by kernel_rfl
theorem c71 : callable Go.Proofs.Try.prog 71 = true := by kernel_rfl
theorem c72 : callable Go.Proofs.Try.prog 72 = true := by kernel_rfl
theorem c74 : callable Go.Proofs.Try.prog 74 = true := by kernel_rfl
theorem c78 : callable Go.Proofs.Try.prog 78 = true := by kernel_rfl
theorem c79 : callable Go.Proofs.Try.prog 79 = true := by kernel_rfl
theorem c80 : callable Go.Proofs.Try.prog 80 = true := by kernel_rfl
theorem c81 : callable Go.Proofs.Try.prog 81 = true := by kernel_rfl
theorem c82 : callable Go.Proofs.Try.prog 82 = true := by kernel_rfl
theorem c83 : callable Go.Proofs.Try.prog 83 = true := by kernel_rfl
theorem c89 : callable Go.Proofs.Try.prog 89 = true := by kernel_rfl
theorem c90 : callable Go.Proofs.Try.prog 90 = true := by kernel_rfl
theorem c91 : callable Go.Proofs.Try.prog 91 = true := by kernel_rfl
theorem c92 : callable Go.Proofs.Try.prog 92 = true := by kernel_rfl
theorem c93 : callable Go.Proofs.Try.prog 93 = true := by kernel_rfl
theorem c94 : callable Go.Proofs.Try.prog 94 = true := by kernel_rfl
theorem c95 : callable Go.Proofs.Try.prog 95 = true := by kernel_rfl
theorem c96 : callable Go.Proofs.Try.prog 96 = true := by kernel_rfl
theorem c97 : callable Go.Proofs.Try.prog 97 = true := by kernel_rfl
theorem c98 : callable Go.Proofs.Try.prog 98 = true := by kernel_rfl
theorem c99 : callable Go.Proofs.Try.prog 99 = true := by kernel_rfl
theorem c100 : callable Go.Proofs.Try.prog 100 = true := by kernel_rfl
theorem c101 : callable Go.Proofs.Try.prog 101 = true := by kernel_rfl
theorem c102 : callable Go.Proofs.Try.prog 102 = true := by kernel_rfl
theorem c103 : callable Go.Proofs.Try.prog 103 = true := by kernel_rfl
theorem c104 : callable Go.Proofs.Try.prog 104 = true := by kernel_rfl
theorem c105 : callable Go.Proofs.Try.prog 105 = true := by kernel_rfl
theorem c106 : callable Go.Proofs.Try.prog 106 = true := by kernel_rfl
theorem c107 : callable Go.Proofs.Try.prog 107 = true := by kernel_rfl
theorem c109 : callable Go.Proofs.Try.prog 109 = true := by kernel_rfl
theorem c110 : callable Go.Proofs.Try.prog 110 = true := by kernel_rfl
theorem c113 : callable Go.Proofs.Try.prog 113 = true := by kernel_rfl
theorem c114 : callable Go.Proofs.Try.prog 114 = true := by kernel_rfl
theorem c115 : callable Go.Proofs.Try.prog 115 = true := by kernel_rfl
theorem c118 : callable Go.Proofs.Try.prog 118 = true := by kernel_rfl
theorem c119 : callable Go.Proofs.Try.prog 119 = true := by kernel_rfl
theorem c120 : callable Go.Proofs.Try.prog 120 = true := by kernel_rfl
theorem c121 : callable Go.Proofs.Try.prog 121 = true := by kernel_rfl
theorem c122 : callable Go.Proofs.Try.prog 122 = true := by kernel_rfl
theorem c123 : callable Go.Proofs.Try.prog 123 = true := by kernel_rfl
theorem c124 : callable Go.Proofs.Try.prog 124 = true := by kernel_rfl
theorem c125 : callable Go.Proofs.Try.prog 125 = true := by kernel_rfl
theorem c126 : callable Go.Proofs.Try.prog 126 = true := by kernel_rfl
theorem c127 : callable Go.Proofs.Try.prog 127 = true := by kernel_rfl
theorem c128 : callable Go.Proofs.Try.prog 128 = true := by kernel_rfl
theorem c129 : callable Go.Proofs.Try.prog 129 = true := by kernel_rfl
theorem c132 : callable Go.Proofs.Try.prog 132 = true := by kernel_rfl
theorem c133 : callable Go.Proofs.Try.prog 133 = true := by kernel_rfl
theorem c134 : callable Go.Proofs.Try.prog 134 = true := by kernel_rfl
theorem c135 : callable Go.Proofs.Try.prog 135 = true := by kernel_rfl
theorem c136 : callable Go.Proofs.Try.prog 136 = true := by kernel_rfl
theorem c137 : callable Go.Proofs.Try.prog 137 = true := by kernel_rfl
theorem c138 : callable Go.Proofs.Try.prog 138 = true := by kernel_rfl
end Go.Ph
/-! Contracts by hand. -/
namespace Go.Ph
open Go.Proofs
open Go.RowKit (Below)
theorem Fn.pure1 {P : Program} {α δ : Type} [Rp P α] [Rp P δ] {f : FuncId} {x : α} {r : δ} (h : ∀ m (v : Value) (w : World), vrel (P := P) m v x → ∃ u, vrel (P := P) m u r ∧ Calls P f #[v] w fun e w' => e = .returned u ∧ w' = w) : Fn P f [.d x] (.d r) := by
  intro m w vs hs hv
  match vs, hv with
  | [v], ⟨h1, _⟩ =>
    obtain ⟨u, hu, hc⟩ := h m v w h1
    refine hc.mono ?_
    rintro e w' ⟨rfl, rfl⟩
    exact ⟨u, m, rfl, hu, Snap.le_refl _, fun _ _ _ h => .inl h, hs, Below.refl _ _⟩
theorem bitLenAux_le : ∀ (k n : Nat), Lib.bitLenAux k n ≤ k
  | 0, _ => by simp [Lib.bitLenAux]
  | k + 1, n => by
    unfold Lib.bitLenAux
    have := bitLenAux_le k (n / 2)
    split <;> omega
def math_bits_Len (x : UInt64) : Option Int := some (Lib.bitLen x.toNat : Nat)
theorem math_bits_Len_ok {a0 : UInt64} {r : Int} (h : math_bits_Len a0 = some r) : Fn Try.prog 119 [.d a0] (.d r) := by
  unfold math_bits_Len at h
  obtain rfl := Option.some.inj h
  refine Fn.pure1 fun m v w hv => ⟨.int .i64 (Lib.bitLen a0.toNat : Nat), vint m ?_, ?_⟩
  · have := bitLenAux_le 64 a0.toNat
    unfold Lib.bitLen
    omega
  · rw [u64_of hv]
    have h1 := a0.toNat_lt
    have := Try.bits_Len (a0.toNat : Int) w (by omega) (by omega)
    simpa using this
end Go.Ph
namespace Go.Ph
open Go.Proofs
theorem rd3 : RdT Try.prog 3 Int := rd_int Try.underlying3 (by kernel_rfl)
theorem rd5 : RdT Try.prog 5 UInt8 := rd_u8 Try.underlying5 (by kernel_rfl)
theorem rd26 : RdT Try.prog 26 Id := rd_arr Try.underlying26 (by kernel_rfl) rd5
theorem rd39 : RdT Try.prog 39 Member := rd_struct Try.underlying39 (by kernel_rfl) fun _ cs hl hf =>
  rd_via (fun x : Member => (x.no, x.id)) (fun p => ⟨p.1, p.2⟩) (fun _ => rfl) (rd_cons (s := 1) (hf 0 _ Int _ rfl rd3) (rd_last (s := 32) (hl.trans (by kernel_rfl)) (hf 1 _ Id _ rfl rd26)))
theorem rd28 : RdT Try.prog 28 (List Member) := rd_slice Try.underlying28 (by kernel_rfl) rd39 rfl
theorem rd44 : RdT Try.prog 44 Node := rd_struct Try.underlying44 (by kernel_rfl) fun _ cs hl hf =>
  rd_via (fun x : Node => (x.self, x.pred, x.succs, x.fingers)) (fun p => ⟨p.1, p.2.1, p.2.2.1, p.2.2.2⟩) (fun _ => rfl) (rd_cons (s := 33) (hf 0 _ Member _ rfl rd39) (rd_cons (s := 33) (hf 1 _ Member _ rfl rd39) (rd_cons (s := 1) (hf 2 _ (List Member) _ rfl rd28) (rd_last (s := 1) (hl.trans (by kernel_rfl)) (hf 3 _ (List Member) _ rfl rd28)))))
theorem rd22 : RdT Try.prog 22 (List Node) := rd_slice Try.underlying22 (by kernel_rfl) rd44 rfl
theorem rd24 : RdT Try.prog 24 Overlay := rd_struct Try.underlying24 (by kernel_rfl) fun _ cs hl hf =>
  rd_via (fun x : Overlay => (⟨x.nodes⟩ : One (List Node))) (fun p => ⟨p.1⟩) (fun _ => rfl) (let ⟨x, hx⟩ := rd_last (s := 1) (off := 0) (hl.trans (by kernel_rfl)) (hf 0 _ (List Node) _ rfl rd22); ⟨⟨x⟩, hx⟩)
end Go.Ph
