/-
  Guards for the walk: each is the identity at one kind of operation. For every program.
-/
import Derived.Test.YtgofigkhdjjlmaaAvU
set_option linter.unusedVariables false
namespace Go.Av
open Go
section
variable {P : Program} {ops : Array Oper} {sz n n0 i m : Nat} {K : AK} {env env0 : Env} {h h0 : Heap} {dfs : Defs} {rest l : List Oper} {d : Option Tmp} {ty : TypeId} {pos : String} {aft : Array Edge} {gd : Option (Nat × Bool)} {ev : Evl} {v : AV}
theorem isA_move {x : Operand} (hh : AWL P ops sz (⟨d, .move x, ty, pos, aft, gd⟩ :: rest) K n env h dfs) : AWL P ops sz (⟨d, .move x, ty, pos, aft, gd⟩ :: rest) K n env h dfs := hh
theorem isD_move {x : Operand} (hh : Drw P l sz K dfs i n0 env0 h0 m (⟨d, .move x, ty, pos, aft, gd⟩ :: rest) n env h) : Drw P l sz K dfs i n0 env0 h0 m (⟨d, .move x, ty, pos, aft, gd⟩ :: rest) n env h := hh
theorem isS_move {x : Operand} (hh : Still P ⟨d, .move x, ty, pos, aft, gd⟩ ev h v) : Still P ⟨d, .move x, ty, pos, aft, gd⟩ ev h v := hh
theorem isA_assign {x : Operand} (hh : AWL P ops sz (⟨d, .assign x, ty, pos, aft, gd⟩ :: rest) K n env h dfs) : AWL P ops sz (⟨d, .assign x, ty, pos, aft, gd⟩ :: rest) K n env h dfs := hh
theorem isD_assign {x : Operand} (hh : Drw P l sz K dfs i n0 env0 h0 m (⟨d, .assign x, ty, pos, aft, gd⟩ :: rest) n env h) : Drw P l sz K dfs i n0 env0 h0 m (⟨d, .assign x, ty, pos, aft, gd⟩ :: rest) n env h := hh
theorem isS_assign {x : Operand} (hh : Still P ⟨d, .assign x, ty, pos, aft, gd⟩ ev h v) : Still P ⟨d, .assign x, ty, pos, aft, gd⟩ ev h v := hh
theorem isA_pick {x y z : Operand} (hh : AWL P ops sz (⟨d, .pick x y z, ty, pos, aft, gd⟩ :: rest) K n env h dfs) : AWL P ops sz (⟨d, .pick x y z, ty, pos, aft, gd⟩ :: rest) K n env h dfs := hh
theorem isD_pick {x y z : Operand} (hh : Drw P l sz K dfs i n0 env0 h0 m (⟨d, .pick x y z, ty, pos, aft, gd⟩ :: rest) n env h) : Drw P l sz K dfs i n0 env0 h0 m (⟨d, .pick x y z, ty, pos, aft, gd⟩ :: rest) n env h := hh
theorem isS_pick {x y z : Operand} (hh : Still P ⟨d, .pick x y z, ty, pos, aft, gd⟩ ev h v) : Still P ⟨d, .pick x y z, ty, pos, aft, gd⟩ ev h v := hh
theorem isA_alloc {T : TypeId} (hh : AWL P ops sz (⟨d, .alloc T, ty, pos, aft, gd⟩ :: rest) K n env h dfs) : AWL P ops sz (⟨d, .alloc T, ty, pos, aft, gd⟩ :: rest) K n env h dfs := hh
theorem isD_alloc {T : TypeId} (hh : Drw P l sz K dfs i n0 env0 h0 m (⟨d, .alloc T, ty, pos, aft, gd⟩ :: rest) n env h) : Drw P l sz K dfs i n0 env0 h0 m (⟨d, .alloc T, ty, pos, aft, gd⟩ :: rest) n env h := hh
theorem isS_alloc {T : TypeId} (hh : Still P ⟨d, .alloc T, ty, pos, aft, gd⟩ ev h v) : Still P ⟨d, .alloc T, ty, pos, aft, gd⟩ ev h v := hh
theorem isA_box {T : TypeId} {x : Operand} (hh : AWL P ops sz (⟨d, .box T x, ty, pos, aft, gd⟩ :: rest) K n env h dfs) : AWL P ops sz (⟨d, .box T x, ty, pos, aft, gd⟩ :: rest) K n env h dfs := hh
theorem isD_box {T : TypeId} {x : Operand} (hh : Drw P l sz K dfs i n0 env0 h0 m (⟨d, .box T x, ty, pos, aft, gd⟩ :: rest) n env h) : Drw P l sz K dfs i n0 env0 h0 m (⟨d, .box T x, ty, pos, aft, gd⟩ :: rest) n env h := hh
theorem isS_box {T : TypeId} {x : Operand} (hh : Still P ⟨d, .box T x, ty, pos, aft, gd⟩ ev h v) : Still P ⟨d, .box T x, ty, pos, aft, gd⟩ ev h v := hh
theorem isA_build {T : TypeId} {ps : Array (Nat × Operand)} (hh : AWL P ops sz (⟨d, .build T ps, ty, pos, aft, gd⟩ :: rest) K n env h dfs) : AWL P ops sz (⟨d, .build T ps, ty, pos, aft, gd⟩ :: rest) K n env h dfs := hh
theorem isD_build {T : TypeId} {ps : Array (Nat × Operand)} (hh : Drw P l sz K dfs i n0 env0 h0 m (⟨d, .build T ps, ty, pos, aft, gd⟩ :: rest) n env h) : Drw P l sz K dfs i n0 env0 h0 m (⟨d, .build T ps, ty, pos, aft, gd⟩ :: rest) n env h := hh
theorem isS_build {T : TypeId} {ps : Array (Nat × Operand)} (hh : Still P ⟨d, .build T ps, ty, pos, aft, gd⟩ ev h v) : Still P ⟨d, .build T ps, ty, pos, aft, gd⟩ ev h v := hh
theorem isA_bslice {T : TypeId} {k : Nat} {ps : Array (Nat × Operand)} (hh : AWL P ops sz (⟨d, .buildSlice T k ps, ty, pos, aft, gd⟩ :: rest) K n env h dfs) : AWL P ops sz (⟨d, .buildSlice T k ps, ty, pos, aft, gd⟩ :: rest) K n env h dfs := hh
theorem isD_bslice {T : TypeId} {k : Nat} {ps : Array (Nat × Operand)} (hh : Drw P l sz K dfs i n0 env0 h0 m (⟨d, .buildSlice T k ps, ty, pos, aft, gd⟩ :: rest) n env h) : Drw P l sz K dfs i n0 env0 h0 m (⟨d, .buildSlice T k ps, ty, pos, aft, gd⟩ :: rest) n env h := hh
theorem isS_bslice {T : TypeId} {k : Nat} {ps : Array (Nat × Operand)} (hh : Still P ⟨d, .buildSlice T k ps, ty, pos, aft, gd⟩ ev h v) : Still P ⟨d, .buildSlice T k ps, ty, pos, aft, gd⟩ ev h v := hh
theorem isA_load {T : TypeId} {x : Operand} (hh : AWL P ops sz (⟨d, .load T x, ty, pos, aft, gd⟩ :: rest) K n env h dfs) : AWL P ops sz (⟨d, .load T x, ty, pos, aft, gd⟩ :: rest) K n env h dfs := hh
theorem isD_load {T : TypeId} {x : Operand} (hh : Drw P l sz K dfs i n0 env0 h0 m (⟨d, .load T x, ty, pos, aft, gd⟩ :: rest) n env h) : Drw P l sz K dfs i n0 env0 h0 m (⟨d, .load T x, ty, pos, aft, gd⟩ :: rest) n env h := hh
theorem isS_load {T : TypeId} {x : Operand} (hh : Still P ⟨d, .load T x, ty, pos, aft, gd⟩ ev h v) : Still P ⟨d, .load T x, ty, pos, aft, gd⟩ ev h v := hh
theorem isA_store {T : TypeId} {x y : Operand} (hh : AWL P ops sz (⟨d, .store T x y, ty, pos, aft, gd⟩ :: rest) K n env h dfs) : AWL P ops sz (⟨d, .store T x y, ty, pos, aft, gd⟩ :: rest) K n env h dfs := hh
theorem isD_store {T : TypeId} {x y : Operand} (hh : Drw P l sz K dfs i n0 env0 h0 m (⟨d, .store T x y, ty, pos, aft, gd⟩ :: rest) n env h) : Drw P l sz K dfs i n0 env0 h0 m (⟨d, .store T x y, ty, pos, aft, gd⟩ :: rest) n env h := hh
theorem isS_store {T : TypeId} {x y : Operand} (hh : Still P ⟨d, .store T x y, ty, pos, aft, gd⟩ ev h v) : Still P ⟨d, .store T x y, ty, pos, aft, gd⟩ ev h v := hh
theorem isA_nil {x : Operand} (hh : AWL P ops sz (⟨d, .nilCheck x, ty, pos, aft, gd⟩ :: rest) K n env h dfs) : AWL P ops sz (⟨d, .nilCheck x, ty, pos, aft, gd⟩ :: rest) K n env h dfs := hh
theorem isD_nil {x : Operand} (hh : Drw P l sz K dfs i n0 env0 h0 m (⟨d, .nilCheck x, ty, pos, aft, gd⟩ :: rest) n env h) : Drw P l sz K dfs i n0 env0 h0 m (⟨d, .nilCheck x, ty, pos, aft, gd⟩ :: rest) n env h := hh
theorem isS_nil {x : Operand} (hh : Still P ⟨d, .nilCheck x, ty, pos, aft, gd⟩ ev h v) : Still P ⟨d, .nilCheck x, ty, pos, aft, gd⟩ ev h v := hh
theorem isA_bin {o : BinOp} {T T' : TypeId} {x y : Operand} (hh : AWL P ops sz (⟨d, .binOp o T x y T', ty, pos, aft, gd⟩ :: rest) K n env h dfs) : AWL P ops sz (⟨d, .binOp o T x y T', ty, pos, aft, gd⟩ :: rest) K n env h dfs := hh
theorem isD_bin {o : BinOp} {T T' : TypeId} {x y : Operand} (hh : Drw P l sz K dfs i n0 env0 h0 m (⟨d, .binOp o T x y T', ty, pos, aft, gd⟩ :: rest) n env h) : Drw P l sz K dfs i n0 env0 h0 m (⟨d, .binOp o T x y T', ty, pos, aft, gd⟩ :: rest) n env h := hh
theorem isS_bin {o : BinOp} {T T' : TypeId} {x y : Operand} (hh : Still P ⟨d, .binOp o T x y T', ty, pos, aft, gd⟩ ev h v) : Still P ⟨d, .binOp o T x y T', ty, pos, aft, gd⟩ ev h v := hh
theorem isA_un {o : UnOp} {T : TypeId} {x : Operand} (hh : AWL P ops sz (⟨d, .unOp o T x, ty, pos, aft, gd⟩ :: rest) K n env h dfs) : AWL P ops sz (⟨d, .unOp o T x, ty, pos, aft, gd⟩ :: rest) K n env h dfs := hh
theorem isD_un {o : UnOp} {T : TypeId} {x : Operand} (hh : Drw P l sz K dfs i n0 env0 h0 m (⟨d, .unOp o T x, ty, pos, aft, gd⟩ :: rest) n env h) : Drw P l sz K dfs i n0 env0 h0 m (⟨d, .unOp o T x, ty, pos, aft, gd⟩ :: rest) n env h := hh
theorem isS_un {o : UnOp} {T : TypeId} {x : Operand} (hh : Still P ⟨d, .unOp o T x, ty, pos, aft, gd⟩ ev h v) : Still P ⟨d, .unOp o T x, ty, pos, aft, gd⟩ ev h v := hh
theorem isA_conv {T T' : TypeId} {x : Operand} (hh : AWL P ops sz (⟨d, .convert T T' x, ty, pos, aft, gd⟩ :: rest) K n env h dfs) : AWL P ops sz (⟨d, .convert T T' x, ty, pos, aft, gd⟩ :: rest) K n env h dfs := hh
theorem isD_conv {T T' : TypeId} {x : Operand} (hh : Drw P l sz K dfs i n0 env0 h0 m (⟨d, .convert T T' x, ty, pos, aft, gd⟩ :: rest) n env h) : Drw P l sz K dfs i n0 env0 h0 m (⟨d, .convert T T' x, ty, pos, aft, gd⟩ :: rest) n env h := hh
theorem isS_conv {T T' : TypeId} {x : Operand} (hh : Still P ⟨d, .convert T T' x, ty, pos, aft, gd⟩ ev h v) : Still P ⟨d, .convert T T' x, ty, pos, aft, gd⟩ ev h v := hh
theorem isA_mkfn {f : Fn} {xs ys : Array Operand} (hh : AWL P ops sz (⟨d, .makeFunc f xs ys, ty, pos, aft, gd⟩ :: rest) K n env h dfs) : AWL P ops sz (⟨d, .makeFunc f xs ys, ty, pos, aft, gd⟩ :: rest) K n env h dfs := hh
theorem isD_mkfn {f : Fn} {xs ys : Array Operand} (hh : Drw P l sz K dfs i n0 env0 h0 m (⟨d, .makeFunc f xs ys, ty, pos, aft, gd⟩ :: rest) n env h) : Drw P l sz K dfs i n0 env0 h0 m (⟨d, .makeFunc f xs ys, ty, pos, aft, gd⟩ :: rest) n env h := hh
theorem isS_mkfn {f : Fn} {xs ys : Array Operand} (hh : Still P ⟨d, .makeFunc f xs ys, ty, pos, aft, gd⟩ ev h v) : Still P ⟨d, .makeFunc f xs ys, ty, pos, aft, gd⟩ ev h v := hh
theorem isA_mksl {T : TypeId} {x y : Operand} (hh : AWL P ops sz (⟨d, .makeSlice T x y, ty, pos, aft, gd⟩ :: rest) K n env h dfs) : AWL P ops sz (⟨d, .makeSlice T x y, ty, pos, aft, gd⟩ :: rest) K n env h dfs := hh
theorem isD_mksl {T : TypeId} {x y : Operand} (hh : Drw P l sz K dfs i n0 env0 h0 m (⟨d, .makeSlice T x y, ty, pos, aft, gd⟩ :: rest) n env h) : Drw P l sz K dfs i n0 env0 h0 m (⟨d, .makeSlice T x y, ty, pos, aft, gd⟩ :: rest) n env h := hh
theorem isS_mksl {T : TypeId} {x y : Operand} (hh : Still P ⟨d, .makeSlice T x y, ty, pos, aft, gd⟩ ev h v) : Still P ⟨d, .makeSlice T x y, ty, pos, aft, gd⟩ ev h v := hh
theorem isA_slice {T : TypeId} {x : Operand} {lo hi mx : Option Operand} (hh : AWL P ops sz (⟨d, .slice T x lo hi mx, ty, pos, aft, gd⟩ :: rest) K n env h dfs) : AWL P ops sz (⟨d, .slice T x lo hi mx, ty, pos, aft, gd⟩ :: rest) K n env h dfs := hh
theorem isD_slice {T : TypeId} {x : Operand} {lo hi mx : Option Operand} (hh : Drw P l sz K dfs i n0 env0 h0 m (⟨d, .slice T x lo hi mx, ty, pos, aft, gd⟩ :: rest) n env h) : Drw P l sz K dfs i n0 env0 h0 m (⟨d, .slice T x lo hi mx, ty, pos, aft, gd⟩ :: rest) n env h := hh
theorem isS_slice {T : TypeId} {x : Operand} {lo hi mx : Option Operand} (hh : Still P ⟨d, .slice T x lo hi mx, ty, pos, aft, gd⟩ ev h v) : Still P ⟨d, .slice T x lo hi mx, ty, pos, aft, gd⟩ ev h v := hh
theorem isA_fldA {T : TypeId} {x : Operand} {k : Nat} (hh : AWL P ops sz (⟨d, .fieldAddr T x k, ty, pos, aft, gd⟩ :: rest) K n env h dfs) : AWL P ops sz (⟨d, .fieldAddr T x k, ty, pos, aft, gd⟩ :: rest) K n env h dfs := hh
theorem isD_fldA {T : TypeId} {x : Operand} {k : Nat} (hh : Drw P l sz K dfs i n0 env0 h0 m (⟨d, .fieldAddr T x k, ty, pos, aft, gd⟩ :: rest) n env h) : Drw P l sz K dfs i n0 env0 h0 m (⟨d, .fieldAddr T x k, ty, pos, aft, gd⟩ :: rest) n env h := hh
theorem isS_fldA {T : TypeId} {x : Operand} {k : Nat} (hh : Still P ⟨d, .fieldAddr T x k, ty, pos, aft, gd⟩ ev h v) : Still P ⟨d, .fieldAddr T x k, ty, pos, aft, gd⟩ ev h v := hh
theorem isA_fld {T : TypeId} {x : Operand} {k : Nat} (hh : AWL P ops sz (⟨d, .field T x k, ty, pos, aft, gd⟩ :: rest) K n env h dfs) : AWL P ops sz (⟨d, .field T x k, ty, pos, aft, gd⟩ :: rest) K n env h dfs := hh
theorem isD_fld {T : TypeId} {x : Operand} {k : Nat} (hh : Drw P l sz K dfs i n0 env0 h0 m (⟨d, .field T x k, ty, pos, aft, gd⟩ :: rest) n env h) : Drw P l sz K dfs i n0 env0 h0 m (⟨d, .field T x k, ty, pos, aft, gd⟩ :: rest) n env h := hh
theorem isS_fld {T : TypeId} {x : Operand} {k : Nat} (hh : Still P ⟨d, .field T x k, ty, pos, aft, gd⟩ ev h v) : Still P ⟨d, .field T x k, ty, pos, aft, gd⟩ ev h v := hh
theorem isA_ixA {T : TypeId} {x y : Operand} (hh : AWL P ops sz (⟨d, .indexAddr T x y, ty, pos, aft, gd⟩ :: rest) K n env h dfs) : AWL P ops sz (⟨d, .indexAddr T x y, ty, pos, aft, gd⟩ :: rest) K n env h dfs := hh
theorem isD_ixA {T : TypeId} {x y : Operand} (hh : Drw P l sz K dfs i n0 env0 h0 m (⟨d, .indexAddr T x y, ty, pos, aft, gd⟩ :: rest) n env h) : Drw P l sz K dfs i n0 env0 h0 m (⟨d, .indexAddr T x y, ty, pos, aft, gd⟩ :: rest) n env h := hh
theorem isS_ixA {T : TypeId} {x y : Operand} (hh : Still P ⟨d, .indexAddr T x y, ty, pos, aft, gd⟩ ev h v) : Still P ⟨d, .indexAddr T x y, ty, pos, aft, gd⟩ ev h v := hh
theorem isA_ix {T : TypeId} {x y : Operand} (hh : AWL P ops sz (⟨d, .index T x y, ty, pos, aft, gd⟩ :: rest) K n env h dfs) : AWL P ops sz (⟨d, .index T x y, ty, pos, aft, gd⟩ :: rest) K n env h dfs := hh
theorem isD_ix {T : TypeId} {x y : Operand} (hh : Drw P l sz K dfs i n0 env0 h0 m (⟨d, .index T x y, ty, pos, aft, gd⟩ :: rest) n env h) : Drw P l sz K dfs i n0 env0 h0 m (⟨d, .index T x y, ty, pos, aft, gd⟩ :: rest) n env h := hh
theorem isS_ix {T : TypeId} {x y : Operand} (hh : Still P ⟨d, .index T x y, ty, pos, aft, gd⟩ ev h v) : Still P ⟨d, .index T x y, ty, pos, aft, gd⟩ ev h v := hh
theorem isA_ext {x : Operand} {k : Nat} (hh : AWL P ops sz (⟨d, .extract x k, ty, pos, aft, gd⟩ :: rest) K n env h dfs) : AWL P ops sz (⟨d, .extract x k, ty, pos, aft, gd⟩ :: rest) K n env h dfs := hh
theorem isD_ext {x : Operand} {k : Nat} (hh : Drw P l sz K dfs i n0 env0 h0 m (⟨d, .extract x k, ty, pos, aft, gd⟩ :: rest) n env h) : Drw P l sz K dfs i n0 env0 h0 m (⟨d, .extract x k, ty, pos, aft, gd⟩ :: rest) n env h := hh
theorem isS_ext {x : Operand} {k : Nat} (hh : Still P ⟨d, .extract x k, ty, pos, aft, gd⟩ ev h v) : Still P ⟨d, .extract x k, ty, pos, aft, gd⟩ ev h v := hh
theorem isA_bi {b : Builtin} {xs : Array Operand} {ts : Array TypeId} (hh : AWL P ops sz (⟨d, .call ⟨.builtin b, xs, ts⟩, ty, pos, aft, gd⟩ :: rest) K n env h dfs) : AWL P ops sz (⟨d, .call ⟨.builtin b, xs, ts⟩, ty, pos, aft, gd⟩ :: rest) K n env h dfs := hh
theorem isD_bi {b : Builtin} {xs : Array Operand} {ts : Array TypeId} (hh : Drw P l sz K dfs i n0 env0 h0 m (⟨d, .call ⟨.builtin b, xs, ts⟩, ty, pos, aft, gd⟩ :: rest) n env h) : Drw P l sz K dfs i n0 env0 h0 m (⟨d, .call ⟨.builtin b, xs, ts⟩, ty, pos, aft, gd⟩ :: rest) n env h := hh
theorem isS_bi {b : Builtin} {xs : Array Operand} {ts : Array TypeId} (hh : Still P ⟨d, .call ⟨.builtin b, xs, ts⟩, ty, pos, aft, gd⟩ ev h v) : Still P ⟨d, .call ⟨.builtin b, xs, ts⟩, ty, pos, aft, gd⟩ ev h v := hh
theorem isA_call {f : FuncId} {xs : Array Operand} {ts : Array TypeId} (hh : AWL P ops sz (⟨d, .call ⟨.value (.func f), xs, ts⟩, ty, pos, aft, gd⟩ :: rest) K n env h dfs) : AWL P ops sz (⟨d, .call ⟨.value (.func f), xs, ts⟩, ty, pos, aft, gd⟩ :: rest) K n env h dfs := hh
theorem isD_call {f : FuncId} {xs : Array Operand} {ts : Array TypeId} (hh : Drw P l sz K dfs i n0 env0 h0 m (⟨d, .call ⟨.value (.func f), xs, ts⟩, ty, pos, aft, gd⟩ :: rest) n env h) : Drw P l sz K dfs i n0 env0 h0 m (⟨d, .call ⟨.value (.func f), xs, ts⟩, ty, pos, aft, gd⟩ :: rest) n env h := hh
theorem isS_call {f : FuncId} {xs : Array Operand} {ts : Array TypeId} (hh : Still P ⟨d, .call ⟨.value (.func f), xs, ts⟩, ty, pos, aft, gd⟩ ev h v) : Still P ⟨d, .call ⟨.value (.func f), xs, ts⟩, ty, pos, aft, gd⟩ ev h v := hh
theorem isA_callv {q : Nat} {xs : Array Operand} {ts : Array TypeId} (hh : AWL P ops sz (⟨d, .call ⟨.value (.tmp q), xs, ts⟩, ty, pos, aft, gd⟩ :: rest) K n env h dfs) : AWL P ops sz (⟨d, .call ⟨.value (.tmp q), xs, ts⟩, ty, pos, aft, gd⟩ :: rest) K n env h dfs := hh
theorem isD_callv {q : Nat} {xs : Array Operand} {ts : Array TypeId} (hh : Drw P l sz K dfs i n0 env0 h0 m (⟨d, .call ⟨.value (.tmp q), xs, ts⟩, ty, pos, aft, gd⟩ :: rest) n env h) : Drw P l sz K dfs i n0 env0 h0 m (⟨d, .call ⟨.value (.tmp q), xs, ts⟩, ty, pos, aft, gd⟩ :: rest) n env h := hh
theorem isS_callv {q : Nat} {xs : Array Operand} {ts : Array TypeId} (hh : Still P ⟨d, .call ⟨.value (.tmp q), xs, ts⟩, ty, pos, aft, gd⟩ ev h v) : Still P ⟨d, .call ⟨.value (.tmp q), xs, ts⟩, ty, pos, aft, gd⟩ ev h v := hh
theorem isA_defer {c : Call} (hh : AWL P ops sz (⟨d, .defer c, ty, pos, aft, gd⟩ :: rest) K n env h dfs) : AWL P ops sz (⟨d, .defer c, ty, pos, aft, gd⟩ :: rest) K n env h dfs := hh
theorem isD_defer {c : Call} (hh : Drw P l sz K dfs i n0 env0 h0 m (⟨d, .defer c, ty, pos, aft, gd⟩ :: rest) n env h) : Drw P l sz K dfs i n0 env0 h0 m (⟨d, .defer c, ty, pos, aft, gd⟩ :: rest) n env h := hh
theorem isS_defer {c : Call} (hh : Still P ⟨d, .defer c, ty, pos, aft, gd⟩ ev h v) : Still P ⟨d, .defer c, ty, pos, aft, gd⟩ ev h v := hh
theorem isC_cond {x : Operand} {a b : Code} (hh : AW P sz (.cond x a b) K n env h dfs) : AW P sz (.cond x a b) K n env h dfs := hh
theorem isC_draw {a : Array Oper} (hh : AW P sz (.region i a true) K n env h dfs) : AW P sz (.region i a true) K n env h dfs := hh
theorem isC_loop {c : Code} (hh : AW P sz (.loop c) K n env h dfs) : AW P sz (.loop c) K n env h dfs := hh
theorem isDany {k : Nat} {r : List Oper} (hh : Drw P l sz K dfs i n0 env0 h0 k r n env h) : Drw P l sz K dfs i n0 env0 h0 k r n env h := hh
theorem isD_end (hh : Drw P l sz K dfs i n0 env0 h0 0 rest n env h) : Drw P l sz K dfs i n0 env0 h0 0 rest n env h := hh
theorem isA_any {o : Oper} (hh : AWL P ops sz (o :: rest) K n env h dfs) : AWL P ops sz (o :: rest) K n env h dfs := hh
theorem isA_g {op : Op} {g : Nat × Bool} (hh : AWL P ops sz (⟨d, op, ty, pos, aft, some g⟩ :: rest) K n env h dfs) : AWL P ops sz (⟨d, op, ty, pos, aft, some g⟩ :: rest) K n env h dfs := hh
theorem isD_g {op : Op} {g : Nat × Bool} (hh : Drw P l sz K dfs i n0 env0 h0 (m + 1) (⟨d, op, ty, pos, aft, some g⟩ :: rest) n env h) : Drw P l sz K dfs i n0 env0 h0 (m + 1) (⟨d, op, ty, pos, aft, some g⟩ :: rest) n env h := hh
theorem isD_any {o : Oper} (hh : Drw P l sz K dfs i n0 env0 h0 (m + 1) (o :: rest) n env h) : Drw P l sz K dfs i n0 env0 h0 (m + 1) (o :: rest) n env h := hh
end
mutual
def AV.noId : AV → Bool
  | .c _ | .ip _ _ | .junk => true
  | .ref _ _ | .own _ _ _ _ _ => false
  | .agg xs => AV.noIds xs
  | .tup xs => AV.noIds xs
  | .fn _ xs => AV.noIds xs
def AV.noIds : List AV → Bool
  | [] => true
  | x :: xs => AV.noId x && AV.noIds xs
end
mutual
theorem AV.sh_noId (k : Nat) : ∀ (x : AV), x.noId = true → x.sh k = x
  | .c _, _ => rfl
  | .ip _ _, _ => rfl
  | .junk, _ => rfl
  | .ref _ _, h => by cases h
  | .own _ _ _ _ _, h => by cases h
  | .agg xs, h => by rw [AV.sh, AV.shs_noId k xs h]
  | .tup xs, h => by rw [AV.sh, AV.shs_noId k xs h]
  | .fn _ xs, h => by rw [AV.sh, AV.shs_noId k xs h]
theorem AV.shs_noId (k : Nat) : ∀ (xs : List AV), AV.noIds xs = true → AV.shs k xs = xs
  | [], _ => rfl
  | x :: xs, h => by
    simp only [AV.noIds, Bool.and_eq_true] at h
    rw [AV.shs, AV.sh_noId k x h.1, AV.shs_noId k xs h.2]
end
section
variable {P : Program} {ops : Array Oper} {sz n n0 i m t : Nat} {K : AK} {env env0 : Env} {h h0 : Heap} {dfs : Defs} {rest l : List Oper} {op : Op} {ty : TypeId} {pos : String} {aft : Array Edge} {gd : Option (Nat × Bool)} {v : AV}
theorem a_still (hg : guardA ops env ⟨some t, op, ty, pos, aft, gd⟩ true) (hd : Nat.blt t sz = true) (hA : Still P ⟨some t, op, ty, pos, aft, gd⟩ (evA env) h v) (next : AWL P ops sz rest K n ((t, v) :: env) h dfs) : AWL P ops sz (⟨some t, op, ty, pos, aft, gd⟩ :: rest) K n env h dfs := awl_still hg hd hA next
theorem d_still (hg : guardA l.toArray env ⟨some t, op, ty, pos, aft, gd⟩ true) (hA : Still P ⟨some t, op, ty, pos, aft, gd⟩ (evT (Oper.looksAt l.toArray ⟨some t, op, ty, pos, aft, gd⟩) env) h v) (next : Drw P l sz K dfs i n0 env0 h0 m rest n ((t, v) :: env) h) : Drw P l sz K dfs i n0 env0 h0 (m + 1) (⟨some t, op, ty, pos, aft, gd⟩ :: rest) n env h := drw_still hg hA next
theorem a_one {obj : AObj} (hlv : obj.live = some obj) (hg : guardA ops env ⟨some t, op, ty, pos, aft, gd⟩ true) (hd : Nat.blt t sz = true) (hA : Adds P ⟨some t, op, ty, pos, aft, gd⟩ (evA env) h v [(n, obj)] n (n + 1)) (next : AWL P ops sz rest K (n + 1) ((t, v) :: env) ((n, obj) :: h) dfs) : AWL P ops sz (⟨some t, op, ty, pos, aft, gd⟩ :: rest) K n env h dfs := awl_one hlv hg hd hA next
theorem d_one {obj : AObj} (hlv : obj.live = some obj) (hg : guardA l.toArray env ⟨some t, op, ty, pos, aft, gd⟩ true) (hA : Adds P ⟨some t, op, ty, pos, aft, gd⟩ (evT (Oper.looksAt l.toArray ⟨some t, op, ty, pos, aft, gd⟩) env) h v [(n, obj)] n (n + 1)) (next : Drw P l sz K dfs i n0 env0 h0 m rest (n + 1) ((t, v) :: env) ((n, obj) :: h)) : Drw P l sz K dfs i n0 env0 h0 (m + 1) (⟨some t, op, ty, pos, aft, gd⟩ :: rest) n env h := drw_one hlv hg hA next
theorem a_skip (hg : guardA ops env ⟨some t, op, ty, pos, aft, gd⟩ false) (hd : Nat.blt t sz = true) (next : AWL P ops sz rest K n ((t, .junk) :: env) h dfs) : AWL P ops sz (⟨some t, op, ty, pos, aft, gd⟩ :: rest) K n env h dfs := awl_skip hg hd next
theorem d_skip (hg : guardA l.toArray env ⟨some t, op, ty, pos, aft, gd⟩ false) (next : Drw P l sz K dfs i n0 env0 h0 m rest n ((t, .junk) :: env) h) : Drw P l sz K dfs i n0 env0 h0 (m + 1) (⟨some t, op, ty, pos, aft, gd⟩ :: rest) n env h := drw_skip hg next
variable {f : FuncId} {xs : List Operand} {ats : Array TypeId} {r : AV} {hr : Heap} {nr : Nat} {cs cs' : List CV}
theorem a_call0 (hg : guardA ops env ⟨some t, .call ⟨.value (.func f), xs.toArray, ats⟩, ty, pos, aft, gd⟩ true) (hd : Nat.blt t sz = true) (hb : Body P f) (hx : argsC (evA env) xs = some cs) (hac : AC P f cs' r [] 0) (hcv : CvL cs cs') (hid : r.noId = true)
    (next : AWL P ops sz rest K n ((t, r) :: env) h dfs) : AWL P ops sz (⟨some t, .call ⟨.value (.func f), xs.toArray, ats⟩, ty, pos, aft, gd⟩ :: rest) K n env h dfs :=
  awl_call hg hd hb hx hac hcv rfl (by rw [AV.sh_noId _ _ hid]; exact next)
theorem d_call0 (hg : guardA l.toArray env ⟨some t, .call ⟨.value (.func f), xs.toArray, ats⟩, ty, pos, aft, gd⟩ true) (hb : Body P f) (hx : argsC (evT (Oper.looksAt l.toArray ⟨some t, .call ⟨.value (.func f), xs.toArray, ats⟩, ty, pos, aft, gd⟩) env) xs = some cs) (hac : AC P f cs' r [] 0) (hcv : CvL cs cs') (hid : r.noId = true)
    (next : Drw P l sz K dfs i n0 env0 h0 m rest n ((t, r) :: env) h) : Drw P l sz K dfs i n0 env0 h0 (m + 1) (⟨some t, .call ⟨.value (.func f), xs.toArray, ats⟩, ty, pos, aft, gd⟩ :: rest) n env h :=
  drw_call hg hb hx hac hcv rfl (by rw [AV.sh_noId _ _ hid]; exact next)
theorem n_call0 (hg : guardA ops env ⟨none, .call ⟨.value (.func f), xs.toArray, ats⟩, ty, pos, aft, gd⟩ true) (hb : Body P f) (hx : argsC (evA env) xs = some cs) (hac : AC P f cs' r [] 0) (hcv : CvL cs cs')
    (next : AWL P ops sz rest K n env h dfs) : AWL P ops sz (⟨none, .call ⟨.value (.func f), xs.toArray, ats⟩, ty, pos, aft, gd⟩ :: rest) K n env h dfs :=
  awl_call hg rfl hb hx hac hcv rfl next
/-- A call that hands over one own row. -/
theorem a_call1 {T : TypeId} {rc : List CV} {k size : Nat} (hg : guardA ops env ⟨some t, .call ⟨.value (.func f), xs.toArray, ats⟩, ty, pos, aft, gd⟩ true) (hd : Nat.blt t sz = true) (hb : Body P f) (hx : argsC (evA env) xs = some cs) (hac : AC P f cs' (.own 0 0 k size true) [(0, .row T rc)] 1) (hcv : CvL cs cs')
    (next : AWL P ops sz rest K (n + 1) ((t, .own n 0 k size true) :: env) ((n, .row T rc) :: h) dfs) : AWL P ops sz (⟨some t, .call ⟨.value (.func f), xs.toArray, ats⟩, ty, pos, aft, gd⟩ :: rest) K n env h dfs :=
  awl_call hg hd hb hx hac hcv rfl next
theorem d_call1 {T : TypeId} {rc : List CV} {k size : Nat} (hg : guardA l.toArray env ⟨some t, .call ⟨.value (.func f), xs.toArray, ats⟩, ty, pos, aft, gd⟩ true) (hb : Body P f) (hx : argsC (evT (Oper.looksAt l.toArray ⟨some t, .call ⟨.value (.func f), xs.toArray, ats⟩, ty, pos, aft, gd⟩) env) xs = some cs) (hac : AC P f cs' (.own 0 0 k size true) [(0, .row T rc)] 1) (hcv : CvL cs cs')
    (next : Drw P l sz K dfs i n0 env0 h0 m rest (n + 1) ((t, .own n 0 k size true) :: env) ((n, .row T rc) :: h)) : Drw P l sz K dfs i n0 env0 h0 (m + 1) (⟨some t, .call ⟨.value (.func f), xs.toArray, ats⟩, ty, pos, aft, gd⟩ :: rest) n env h :=
  drw_call hg hb hx hac hcv rfl next
variable {tab : Tab} {T : TypeId} {x y : Operand}
theorem a_append (tb : TabOk P tab) {e e' : TyE} {E size m k id : Nat} {vy : AV} {cs ys : List CV} (hg : guardA ops env ⟨some t, .call ⟨.builtin .append, #[x, y], #[T, T]⟩, ty, pos, aft, gd⟩ true) (hd : Nat.blt t sz = true) (hT : tyLook tab T = some e) (hk : e.kind = .slice E) (hE : tyLook tab E = some e') (hs : Nat.beq e'.size size = true) (hz : Nat.beq e'.zero.length size = true)
    (hx : evA env x = some (.own id 0 m size true)) (ho : lk h id = some (.row E cs)) (hcl : cs.length = m * size) (hy : evA env y = some vy) (hf : Src h vy size k ys) (h63 : m + k ≤ maxLen) (hb : (m + k) * e'.bytes ≤ 140737488355328)
    (next : AWL P ops sz rest K (n + 1) ((t, .own n 0 (m + k) size true) :: env) ((n, .row E (cs ++ ys)) :: (id, .dead) :: h) dfs) :
    AWL P ops sz (⟨some t, .call ⟨.builtin .append, #[x, y], #[T, T]⟩, ty, pos, aft, gd⟩ :: rest) K n env h dfs := awl_append tb hg hd hT hk hE hs hz hx ho hcl hy hf h63 hb next
theorem a_copy (tb : TabOk P tab) {e e' : TyE} {E T' Tb size k m id off : Nat} {full : Bool} {vy : AV} {cs ys : List CV} (hg : guardA ops env ⟨some t, .call ⟨.builtin .copy, #[x, y], #[T, T']⟩, ty, pos, aft, gd⟩ true) (hd : Nat.blt t sz = true) (hT : tyLook tab T = some e) (hk : e.kind = .slice E) (hE : tyLook tab E = some e') (hs : Nat.beq e'.size size = true)
    (hx : evA env x = some (.own id off k size full)) (ho : lk h id = some (.row Tb cs)) (hy : evA env y = some vy) (hf : Src h vy size m ys) (hmk : m ≤ k) (hfit : off + m * size ≤ cs.length)
    (next : AWL P ops sz rest K n ((t, .c (.v (.int .i64 m))) :: env) ((id, .row Tb (lay cs off ys)) :: h) dfs) :
    AWL P ops sz (⟨some t, .call ⟨.builtin .copy, #[x, y], #[T, T']⟩, ty, pos, aft, gd⟩ :: rest) K n env h dfs := awl_copy tb hg hd hT hk hE hs hx ho hy hf hmk hfit next
theorem n_copy (tb : TabOk P tab) {e e' : TyE} {E T' Tb size k m id off : Nat} {full : Bool} {vy : AV} {cs ys : List CV} (hg : guardA ops env ⟨none, .call ⟨.builtin .copy, #[x, y], #[T, T']⟩, ty, pos, aft, gd⟩ true) (hT : tyLook tab T = some e) (hk : e.kind = .slice E) (hE : tyLook tab E = some e') (hs : Nat.beq e'.size size = true)
    (hx : evA env x = some (.own id off k size full)) (ho : lk h id = some (.row Tb cs)) (hy : evA env y = some vy) (hf : Src h vy size m ys) (hmk : m ≤ k) (hfit : off + m * size ≤ cs.length)
    (next : AWL P ops sz rest K n env ((id, .row Tb (lay cs off ys)) :: h) dfs) :
    AWL P ops sz (⟨none, .call ⟨.builtin .copy, #[x, y], #[T, T']⟩, ty, pos, aft, gd⟩ :: rest) K n env h dfs := awl_copy tb hg rfl hT hk hE hs hx ho hy hf hmk hfit next
end
/-- The operations ahead of the first one that writes. -/
def writesB : Op → Bool
  | .assign _ | .store .. | .mapUpdate .. | .insert .. | .entryStore .. | .defer _ => true
  | .call ⟨.builtin b, _, _⟩ => match b with | .append | .copy | .delete | .clear => true | _ => false
  | _ => false
def headLen : List Oper → Nat
  | [] => 0
  | o :: r => match writesB o.op with | true => 0 | false => headLen r + 1
theorem aw_drw' {P : Program} {l : List Oper} {sz : Nat} {K : AK} {dfs : Defs} {id n0 : Nat} {env0 : Env} {h0 : Heap} (hx : Drw P l sz K dfs id n0 env0 h0 (headLen l) l n0 env0 h0) : AW P sz (.region id l.toArray true) K n0 env0 h0 dfs := aw_drw _ hx
def setF {α : Type} : List α → Nat → α → Option (List α)
  | [], _, _ => none
  | _ :: r, 0, v => some (v :: r)
  | x :: r, k + 1, v => match setF r k v with | some r' => some (x :: r') | none => none
theorem setF_eq {α : Type} : ∀ {cs : List α} {k : Nat} {v : α} {cs' : List α}, setF cs k v = some cs' → cs.set k v = cs' ∧ k < cs.length
  | [], k, v, cs', h => by cases h
  | x :: r, 0, v, cs', h => by simp [setF] at h; subst h; simp
  | x :: r, k + 1, v, cs', h => by
    simp only [setF] at h
    split at h
    · rename_i r' hr
      injection h with h; subst h
      obtain ⟨h1, h2⟩ := setF_eq hr
      exact ⟨by simp [h1], by simp; exact h2⟩
    · cases h
section
variable {P : Program} {sz n : Nat} {env : Env} {h : Heap} {dfs : Defs} {K : AK} {ops : Array Oper} {rest : List Oper} {tab : Tab} {T ty : TypeId} {x y : Operand} {pos : String} {aft : Array Edge} {gd : Option (Nat × Bool)}
theorem f_store1 (tb : TabOk P tab) {e : TyE} (hg : guardA ops env ⟨none, .store T x y, ty, pos, aft, gd⟩ true) (hT : tyLook tab T = some e) (hk : Nat.beq e.size 1 = true) {id off : Nat} {T' : TypeId} {cs cs' : List AV} {v : AV} (hx : evA env x = some (.ref id off)) (hy : evA env y = some v) (h1 : v.one = true) (ho : lk h id = some (.blk T' cs)) (hs : setF cs off v = some cs')
    (next : AWL P ops sz rest K n env ((id, .blk T' cs') :: h) dfs) : AWL P ops sz (⟨none, .store T x y, ty, pos, aft, gd⟩ :: rest) K n env h dfs :=
  awl_store1 tb hg hT hk hx hy h1 ho (setF_eq hs).2 (by rw [(setF_eq hs).1]; exact next)
theorem f_store1r (tb : TabOk P tab) {e : TyE} (hg : guardA ops env ⟨none, .store T x y, ty, pos, aft, gd⟩ true) (hT : tyLook tab T = some e) (hk : Nat.beq e.size 1 = true) {id off : Nat} {T' : TypeId} {cs cs' : List CV} {v : CV} (hx : evA env x = some (.ref id off)) (hy : evA env y = some (.c v)) (h1 : v.one = true) (ho : lk h id = some (.row T' cs)) (hs : setF cs off v = some cs')
    (next : AWL P ops sz rest K n env ((id, .row T' cs') :: h) dfs) : AWL P ops sz (⟨none, .store T x y, ty, pos, aft, gd⟩ :: rest) K n env h dfs :=
  awl_store1r tb hg hT hk hx hy h1 ho (setF_eq hs).2 (by rw [(setF_eq hs).1]; exact next)
end
section
variable {P : Program} {sz n : Nat} {env env' : Env} {h h' : Heap} {dfs : Defs} {K : AK}
theorem aw_seqk {x y : Code} (hx : ∀ K' : AK, (∀ n env h dfs, AW P sz y K n env h dfs → K' .normal n env h dfs) → (∀ e n env h dfs, e ≠ .normal → K e n env h dfs → K' e n env h dfs) → AW P sz x K' n env h dfs) : AW P sz (.seq x y) K n env h dfs :=
  aw_seq (hx _ (fun _ _ _ _ h => h) (fun e n env h dfs he hk => by cases e <;> first | exact absurd rfl he | exact hk))
theorem aw_loopk {ι : Type} {c : Code} (N : Nat) (E : ι → Env) (Hp : ι → Heap) (D : Defs) (Inv : ι → Prop) (μ : ι → Nat) (i0 : ι) (h0 : Inv i0) (hw : Weak n env h dfs N (E i0) (Hp i0) D)
    (round : ∀ i, Inv i → ∀ K' : AK, (∀ n' env' h' dfs', (∃ j, Inv j ∧ μ j < μ i ∧ Weak n' env' h' dfs' N (E j) (Hp j) D) → K' .normal n' env' h' dfs') → (∀ e n env h dfs, e ≠ .normal → K e n env h dfs → K' e n env h dfs) → AW P sz c K' N (E i) (Hp i) D) : AW P sz (.loop c) K n env h dfs :=
  aw_loop N E Hp D Inv μ i0 h0 hw (fun i hi => round i hi _ (fun _ _ _ _ h => h) (fun e n env h dfs he hk => by cases e <;> first | exact absurd rfl he | exact hk))
theorem awr_k {k : Nat} {c : Code} (hx : ∀ K' : AK, (∀ n env h dfs, AWR P sz c K k n env h dfs → K' .normal n env h dfs) → (∀ e n env h dfs, e ≠ .normal → K e n env h dfs → K' e n env h dfs) → AW P sz c K' n env h dfs) : AWR P sz c K (k + 1) n env h dfs :=
  awr_succ (hx _ (fun _ _ _ _ h => h) (fun e n env h dfs he hk => by cases e <;> first | exact absurd rfl he | exact hk))
def pruneE (env : Env) : List Nat → Option Env
  | [] => some []
  | k :: ks => match pruneE env ks with
    | some r => match lkE env k with | some v => some ((k, v) :: r) | none => some r
    | none => none
theorem pruneE_spec : ∀ {ks : List Nat} {env' : Env}, pruneE env ks = some env' → ∀ t av, lkE env' t = some av → lkE env t = some av
  | [], env', hp, t, av, ht => by simp [pruneE] at hp; subst hp; cases ht
  | k :: ks, env', hp, t, av, ht => by
    simp only [pruneE] at hp
    split at hp
    · rename_i r hr
      split at hp
      · rename_i v hv
        injection hp with hp; subst hp
        rw [lkE_cons] at ht
        split at ht
        · rename_i e; subst e; rw [hv]; exact ht
        · exact pruneE_spec hr t av ht
      · injection hp with hp; subst hp; exact pruneE_spec hr t av ht
    · cases hp
def pruneH (h : Heap) : Nat → Option Heap
  | 0 => some []
  | k + 1 => match pruneH h k with
    | some r => match lk h k with | some v => some ((k, v) :: r) | none => some r
    | none => none
theorem lk_live : ∀ {h : Heap} {k : Nat} {o : AObj}, lk h k = some o → o.live = some o
  | [], k, o, hh => by cases hh
  | (i, q) :: r, k, o, hh => by
    rw [lk_cons] at hh
    split at hh
    · have := live_eq hh; subst this; exact hh
    · exact lk_live hh
theorem pruneH_spec : ∀ {k : Nat} {h' : Heap}, pruneH h k = some h' → ∀ i o, lk h' i = some o → lk h i = some o
  | 0, h', hp, i, o, ho => by simp [pruneH] at hp; subst hp; cases ho
  | k + 1, h', hp, i, o, ho => by
    simp only [pruneH] at hp
    split at hp
    · rename_i r hr
      split at hp
      · rename_i v hv
        injection hp with hp; subst hp
        rw [lk_cons] at ho
        split at ho
        · rename_i e; subst e; rw [hv, ← live_eq ho]
        · exact pruneH_spec hr i o ho
      · injection hp with hp; subst hp; exact pruneH_spec hr i o ho
    · cases hp
theorem aw_prune {c : Code} (ks : List Nat) (hE : pruneE env ks = some env') (hH : pruneH h n = some h') (hx : AW P sz c K n env' h' dfs) : AW P sz c K n env h dfs := by
  intro B a w hc
  refine hx B a w ?_
  obtain ⟨M, c1, c2, c3, c4⟩ := hc
  have hext : Ext (cx B n M h w) (cx B n M h' w) := ⟨fun id hid => ⟨hid, rfl⟩, fun b hb hl => ⟨⟨hb.1, fun id o hid ho he => hb.2 id o hid (pruneH_spec hH id o ho) he⟩, hl, rfl⟩, fun _ _ h => h⟩
  refine ⟨M, ⟨c1.fr, fun id o hid ho => (c1.obj id o hid (pruneH_spec hH id o ho)).ext hext (fun _ _ => rfl), fun id id' o o' g k1 k2 k3 k4 => c1.inj id id' o o' g k1 k2 (pruneH_spec hH id o k3) (pruneH_spec hH id' o' k4), fun id o g k1 k2 => c1.lo id o g k1 (pruneH_spec hH id o k2)⟩, c2, fun t av ht => Rep.ext hext _ _ (c3 t av (pruneE_spec hE t av ht)), c4.ext hext⟩
theorem isC_reg {i : Nat} {a : Array Oper} (hh : AW P sz (.region i a false) K n env h dfs) : AW P sz (.region i a false) K n env h dfs := hh
theorem isC_any {c : Code} (hh : AW P sz c K n env h dfs) : AW P sz c K n env h dfs := hh
end
end Go.Av
