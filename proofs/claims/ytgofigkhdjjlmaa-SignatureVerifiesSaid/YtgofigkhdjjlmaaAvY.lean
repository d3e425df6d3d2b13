/-
  The walk's steps in two strokes: the operation's kind, then what it yields. For every program.
-/
import Derived.Test.YtgofigkhdjjlmaaAvX
set_option linter.unusedVariables false
set_option linter.unusedSimpArgs false
namespace Go.Av
open Go Go.RowKit
section
variable {P : Program} {ops : Array Oper} {sz n n0 i m t : Nat} {K : AK} {env env0 : Env} {h h0 : Heap} {dfs : Defs} {rest l : List Oper} {op : Op} {ty : TypeId} {pos : String} {aft : Array Edge} {gd : Option (Nat × Bool)}
theorem x_a (hg : guardA ops env ⟨some t, op, ty, pos, aft, gd⟩ true) (hd : Nat.blt t sz = true) (hh : ∃ v, Still P ⟨some t, op, ty, pos, aft, gd⟩ (evA env) h v ∧ AWL P ops sz rest K n ((t, v) :: env) h dfs) : AWL P ops sz (⟨some t, op, ty, pos, aft, gd⟩ :: rest) K n env h dfs :=
  let ⟨_, h1, h2⟩ := hh; a_still hg hd h1 h2
theorem x_d (hg : guardA l.toArray env ⟨some t, op, ty, pos, aft, gd⟩ true) (hh : ∃ v, Still P ⟨some t, op, ty, pos, aft, gd⟩ (evT (Oper.looksAt l.toArray ⟨some t, op, ty, pos, aft, gd⟩) env) h v ∧ Drw P l sz K dfs i n0 env0 h0 m rest n ((t, v) :: env) h) : Drw P l sz K dfs i n0 env0 h0 (m + 1) (⟨some t, op, ty, pos, aft, gd⟩ :: rest) n env h :=
  let ⟨_, h1, h2⟩ := hh; d_still hg h1 h2
theorem y_a (hg : guardA ops env ⟨some t, op, ty, pos, aft, gd⟩ true) (hd : Nat.blt t sz = true) (hh : ∃ v obj, obj.live = some obj ∧ Adds P ⟨some t, op, ty, pos, aft, gd⟩ (evA env) h v [(n, obj)] n (n + 1) ∧ AWL P ops sz rest K (n + 1) ((t, v) :: env) ((n, obj) :: h) dfs) : AWL P ops sz (⟨some t, op, ty, pos, aft, gd⟩ :: rest) K n env h dfs :=
  let ⟨_, _, h1, h2, h3⟩ := hh; a_one h1 hg hd h2 h3
theorem y_d (hg : guardA l.toArray env ⟨some t, op, ty, pos, aft, gd⟩ true) (hh : ∃ v obj, obj.live = some obj ∧ Adds P ⟨some t, op, ty, pos, aft, gd⟩ (evT (Oper.looksAt l.toArray ⟨some t, op, ty, pos, aft, gd⟩) env) h v [(n, obj)] n (n + 1) ∧ Drw P l sz K dfs i n0 env0 h0 m rest (n + 1) ((t, v) :: env) ((n, obj) :: h)) : Drw P l sz K dfs i n0 env0 h0 (m + 1) (⟨some t, op, ty, pos, aft, gd⟩ :: rest) n env h :=
  let ⟨_, _, h1, h2, h3⟩ := hh; d_one h1 hg h2 h3
variable {f : FuncId} {xs : List Operand} {ats : Array TypeId}
/-- What a call hands back: nothing that is own, or one own row. -/
def CallsTo (P : Program) (f : FuncId) (xs : List Operand) (ev : Evl) (N0 : AV → Prop) (N1 : Nat → Nat → TypeId → List CV → Prop) : Prop :=
  ∃ cs cs', Body P f ∧ argsC ev xs = some cs ∧ CvL cs cs' ∧ ((∃ r, AC P f cs' r [] 0 ∧ r.noId = true ∧ N0 r) ∨ ∃ k size T rc, AC P f cs' (.own 0 0 k size true) [(0, .row T rc)] 1 ∧ N1 k size T rc)
theorem z_a (hg : guardA ops env ⟨some t, .call ⟨.value (.func f), xs.toArray, ats⟩, ty, pos, aft, gd⟩ true) (hd : Nat.blt t sz = true)
    (hh : CallsTo P f xs (evA env) (fun r => AWL P ops sz rest K n ((t, r) :: env) h dfs) (fun k size T rc => AWL P ops sz rest K (n + 1) ((t, .own n 0 k size true) :: env) ((n, .row T rc) :: h) dfs)) : AWL P ops sz (⟨some t, .call ⟨.value (.func f), xs.toArray, ats⟩, ty, pos, aft, gd⟩ :: rest) K n env h dfs := by
  obtain ⟨cs, cs', h1, h2, h3, ⟨r, h4, h5, h6⟩ | ⟨k, size, T, rc, h4, h5⟩⟩ := hh
  · exact a_call0 hg hd h1 h2 h4 h3 h5 h6
  · exact a_call1 hg hd h1 h2 h4 h3 h5
theorem z_n (hg : guardA ops env ⟨none, .call ⟨.value (.func f), xs.toArray, ats⟩, ty, pos, aft, gd⟩ true)
    (hh : CallsTo P f xs (evA env) (fun r => AWL P ops sz rest K n env h dfs) (fun k size T rc => AWL P ops sz rest K (n + 1) env ((n, .row T rc) :: h) dfs)) : AWL P ops sz (⟨none, .call ⟨.value (.func f), xs.toArray, ats⟩, ty, pos, aft, gd⟩ :: rest) K n env h dfs := by
  obtain ⟨cs, cs', h1, h2, h3, ⟨r, h4, h5, h6⟩ | ⟨k, size, T, rc, h4, h5⟩⟩ := hh
  · exact n_call0 hg h1 h2 h4 h3 h6
  · exact awl_call hg rfl h1 h2 h4 h3 rfl h5
theorem z_d (hg : guardA l.toArray env ⟨some t, .call ⟨.value (.func f), xs.toArray, ats⟩, ty, pos, aft, gd⟩ true)
    (hh : CallsTo P f xs (evT (Oper.looksAt l.toArray ⟨some t, .call ⟨.value (.func f), xs.toArray, ats⟩, ty, pos, aft, gd⟩) env) (fun r => Drw P l sz K dfs i n0 env0 h0 m rest n ((t, r) :: env) h) (fun k size T rc => Drw P l sz K dfs i n0 env0 h0 m rest (n + 1) ((t, .own n 0 k size true) :: env) ((n, .row T rc) :: h))) : Drw P l sz K dfs i n0 env0 h0 (m + 1) (⟨some t, .call ⟨.value (.func f), xs.toArray, ats⟩, ty, pos, aft, gd⟩ :: rest) n env h := by
  obtain ⟨cs, cs', h1, h2, h3, ⟨r, h4, h5, h6⟩ | ⟨k, size, T, rc, h4, h5⟩⟩ := hh
  · exact d_call0 hg h1 h2 h4 h3 h5 h6
  · exact d_call1 hg h1 h2 h4 h3 h5
theorem ct_0 {cs cs' : List CV} {r : AV} {ev : Evl} {N0 : AV → Prop} {N1 : Nat → Nat → TypeId → List CV → Prop} (hac : AC P f cs' r [] 0) (hb : Body P f) (hx : argsC ev xs = some cs) (hcv : CvL cs cs') (hid : r.noId = true) (hn : N0 r) : CallsTo P f xs ev N0 N1 := ⟨cs, cs', hb, hx, hcv, .inl ⟨r, hac, hid, hn⟩⟩
theorem ct_1 {cs cs' : List CV} {k size : Nat} {T : TypeId} {rc : List CV} {ev : Evl} {N0 : AV → Prop} {N1 : Nat → Nat → TypeId → List CV → Prop} (hac : AC P f cs' (.own 0 0 k size true) [(0, .row T rc)] 1) (hb : Body P f) (hx : argsC ev xs = some cs) (hcv : CvL cs cs') (hn : N1 k size T rc) : CallsTo P f xs ev N0 N1 := ⟨cs, cs', hb, hx, hcv, .inr ⟨k, size, T, rc, hac, hn⟩⟩
end

def cellsF : AV → Option (List AV)
  | .agg xs => some xs
  | .c (.agg cs) => some (cs.map AV.c)
  | .c (.v x) => match x.oneCell' with | true => some [.c (.v x)] | false => none
  | .c (.sl a b c) => some [.c (.sl a b c)]
  | .ref a b => some [.ref a b]
  | .own a b c d e => some [.own a b c d e]
  | .ip a b => some [.ip a b]
  | .fn a b => some [.fn a b]
  | .tup _ => none
  | .junk => none
theorem cellsF_ok {v : AV} {xs : List AV} (h : cellsF v = some xs) : CellsA v xs := by
  unfold cellsF at h
  split at h <;> first | (injection h with h; subst h; first | exact .agg (.mixed _) | exact .agg (.closed _) | exact .one rfl) | (split at h <;> first | (rename_i h1; injection h with h; subst h; exact .one h1) | cases h) | cases h
def cellsLF : List AV → Option (List (List AV))
  | [] => some []
  | v :: r => match cellsF v with
    | some x => match cellsLF r with | some l => some (x :: l) | none => none
    | none => none
theorem cellsLF_ok : ∀ {vs : List AV} {ls : List (List AV)}, cellsLF vs = some ls → CellsL vs ls
  | [], ls, h => by simp [cellsLF] at h; subst h; exact .nil
  | v :: r, ls, h => by
    simp only [cellsLF] at h
    split at h
    · rename_i x hx
      split at h
      · rename_i l hl; injection h with h; subst h; exact .cons (cellsF_ok hx) (cellsLF_ok hl)
      · cases h
    · cases h
def flatF : CV → Option (List CV)
  | .agg cs => some cs
  | .v x => match x.oneCell' with | true => some [.v x] | false => none
  | .sl a b c => some [.sl a b c]
theorem flatF_ok {v : CV} {xs : List CV} (h : flatF v = some xs) : Flat1 v xs := by
  unfold flatF at h
  split at h <;> first | (injection h with h; subst h; first | exact .agg _ | exact .one rfl) | (split at h <;> first | (rename_i h1; injection h with h; subst h; exact .one h1) | cases h) | cases h
def flatLF : List CV → Option (List (List CV))
  | [] => some []
  | v :: r => match flatF v with
    | some x => match flatLF r with | some l => some (x :: l) | none => none
    | none => none
theorem flatLF_ok : ∀ {vs : List CV} {ls : List (List CV)}, flatLF vs = some ls → FlatL vs ls
  | [], ls, h => by simp [flatLF] at h; subst h; exact .nil
  | v :: r, ls, h => by
    simp only [flatLF] at h
    split at h
    · rename_i x hx
      split at h
      · rename_i l hl; injection h with h; subst h; exact .cons (flatF_ok hx) (flatLF_ok hl)
      · cases h
    · cases h
section comb
variable {P : Program} {tab : Tab} {ev : Evl} {h : Heap} {d : Option Tmp} {T ty T' : TypeId} {x y : Operand} {pos : String} {aft : Array Edge} {gd : Option (Nat × Bool)} {op : BinOp}
def cmpZ : BinOp → Int → Int → Option Bool
  | .eql, m, n => some (decide (m = n))
  | .neq, m, n => some (decide (m ≠ n))
  | .lss, m, n => some (decide (m < n))
  | .leq, m, n => some (decide (m ≤ n))
  | .gtr, m, n => some (decide (n < m))
  | .geq, m, n => some (decide (n ≤ m))
  | _, _, _ => none
theorem s_cmp {k : IntKind} {m n : Int} {b c : Bool} (hx : ev x = some (.c (.v (.int k m)))) (hy : ev y = some (.c (.v (.int k n)))) (hr : cmpZ op m n = some b) (hb : b = c) : Still P ⟨d, .binOp op T x y T', ty, pos, aft, gd⟩ ev h (.c (.v (.bool c))) := by
  subst hb
  cases op <;> simp only [cmpZ, Option.some.injEq, reduceCtorEq] at hr
  · exact s_eql hx hy hr
  · exact s_neq hx hy hr
  · exact s_lss hx hy hr
  · exact s_leq hx hy hr
  · exact s_gtr hx hy hr
  · exact s_geq hx hy hr
def aritZ : BinOp → Int → Int → Option Int
  | .add, m, n => some (m + n)
  | .sub, m, n => some (m - n)
  | .mul, m, n => some (m * n)
  | _, _, _ => none
theorem s_arit {k : IntKind} {m n r r' : Int} (hx : ev x = some (.c (.v (.int k m)))) (hy : ev y = some (.c (.v (.int k n)))) (hr : aritZ op m n = some r) (hw : k.wrap r = r') : Still P ⟨d, .binOp op T x y T', ty, pos, aft, gd⟩ ev h (.c (.v (.int k r'))) := by
  cases op <;> simp only [aritZ, Option.some.injEq, reduceCtorEq] at hr
  · exact s_add hx hy (by rw [hr]; exact hw)
  · exact s_sub hx hy (by rw [hr]; exact hw)
  · exact s_mul hx hy (by rw [hr]; exact hw)
theorem s_arit64 {m n r r' : Int} (hx : ev x = some (.c (.v (.int .i64 m)))) (hy : ev y = some (.c (.v (.int .i64 n)))) (hr : aritZ op m n = some r) (hw : IntKind.i64.wrap r = r') : Still P ⟨d, .binOp op T x y T', ty, pos, aft, gd⟩ ev h (.c (.v (.int .i64 r'))) := s_arit hx hy hr hw
def wordZ : BinOp → BitVec 64 → BitVec 64 → Option (BitVec 64)
  | .xor, x, y => some (x ^^^ y)
  | .and, x, y => some (x &&& y)
  | .or, x, y => some (x ||| y)
  | .add, x, y => some (x + y)
  | .sub, x, y => some (x - y)
  | .mul, x, y => some (x * y)
  | _, _, _ => none
theorem s_word {p q : Int} {u v z : BitVec 64} (hx : ev x = some (.c (.v (.int .u64 p)))) (hp : IsW p u) (hy : ev y = some (.c (.v (.int .u64 q)))) (hq : IsW q v) (hr : wordZ op u v = some z) : Still P ⟨d, .binOp op T x y T', ty, pos, aft, gd⟩ ev h (.c (.v (.int .u64 (z.toNat : Int)))) := by
  cases op <;> simp only [wordZ, Option.some.injEq, reduceCtorEq] at hr <;> subst hr
  · exact s_addW hx hp hy hq
  · exact s_subW hx hp hy hq
  · exact s_mulW hx hp hy hq
  · exact s_andW hx hp hy hq
  · exact s_orW hx hp hy hq
  · exact s_xorW hx hp hy hq
end comb
theorem ex_i {P : Program} {o : Oper} {ev : Evl} {h : Heap} {N : AV → Prop} {v : AV} (hs : Still P o ev h v) (hn : N v) : ∃ v, Still P o ev h v ∧ N v := ⟨v, hs, hn⟩
theorem ey_i {P : Program} {o : Oper} {ev : Evl} {h : Heap} {n : Nat} {N : AV → AObj → Prop} {v : AV} {obj : AObj} (hs : Adds P o ev h v [(n, obj)] n (n + 1)) (hl : obj.live = some obj) (hn : N v obj) : ∃ v obj, obj.live = some obj ∧ Adds P o ev h v [(n, obj)] n (n + 1) ∧ N v obj := ⟨v, obj, hl, hs, hn⟩
/- Guards on what is still to be yielded. -/
section
variable {P : Program} {ev : Evl} {h : Heap} {N : AV → Prop} {d : Option Tmp} {ty : TypeId} {pos : String} {aft : Array Edge} {gd : Option (Nat × Bool)}
theorem e_move {x : Operand} (hh : ∃ v, Still P ⟨d, .move x, ty, pos, aft, gd⟩ ev h v ∧ N v) : ∃ v, Still P ⟨d, .move x, ty, pos, aft, gd⟩ ev h v ∧ N v := hh
theorem e_assign {x : Operand} (hh : ∃ v, Still P ⟨d, .assign x, ty, pos, aft, gd⟩ ev h v ∧ N v) : ∃ v, Still P ⟨d, .assign x, ty, pos, aft, gd⟩ ev h v ∧ N v := hh
theorem e_pick {x y z : Operand} (hh : ∃ v, Still P ⟨d, .pick x y z, ty, pos, aft, gd⟩ ev h v ∧ N v) : ∃ v, Still P ⟨d, .pick x y z, ty, pos, aft, gd⟩ ev h v ∧ N v := hh
theorem e_build {T : TypeId} {ps : Array (Nat × Operand)} (hh : ∃ v, Still P ⟨d, .build T ps, ty, pos, aft, gd⟩ ev h v ∧ N v) : ∃ v, Still P ⟨d, .build T ps, ty, pos, aft, gd⟩ ev h v ∧ N v := hh
theorem e_load {T : TypeId} {x : Operand} (hh : ∃ v, Still P ⟨d, .load T x, ty, pos, aft, gd⟩ ev h v ∧ N v) : ∃ v, Still P ⟨d, .load T x, ty, pos, aft, gd⟩ ev h v ∧ N v := hh
theorem e_nil {x : Operand} (hh : ∃ v, Still P ⟨d, .nilCheck x, ty, pos, aft, gd⟩ ev h v ∧ N v) : ∃ v, Still P ⟨d, .nilCheck x, ty, pos, aft, gd⟩ ev h v ∧ N v := hh
theorem e_bin {o : BinOp} {T T' : TypeId} {x y : Operand} (hh : ∃ v, Still P ⟨d, .binOp o T x y T', ty, pos, aft, gd⟩ ev h v ∧ N v) : ∃ v, Still P ⟨d, .binOp o T x y T', ty, pos, aft, gd⟩ ev h v ∧ N v := hh
theorem e_un {o : UnOp} {T : TypeId} {x : Operand} (hh : ∃ v, Still P ⟨d, .unOp o T x, ty, pos, aft, gd⟩ ev h v ∧ N v) : ∃ v, Still P ⟨d, .unOp o T x, ty, pos, aft, gd⟩ ev h v ∧ N v := hh
theorem e_conv {T T' : TypeId} {x : Operand} (hh : ∃ v, Still P ⟨d, .convert T T' x, ty, pos, aft, gd⟩ ev h v ∧ N v) : ∃ v, Still P ⟨d, .convert T T' x, ty, pos, aft, gd⟩ ev h v ∧ N v := hh
theorem e_mkfn {f : Fn} {xs ys : Array Operand} (hh : ∃ v, Still P ⟨d, .makeFunc f xs ys, ty, pos, aft, gd⟩ ev h v ∧ N v) : ∃ v, Still P ⟨d, .makeFunc f xs ys, ty, pos, aft, gd⟩ ev h v ∧ N v := hh
theorem e_slice {T : TypeId} {x : Operand} {lo hi mx : Option Operand} (hh : ∃ v, Still P ⟨d, .slice T x lo hi mx, ty, pos, aft, gd⟩ ev h v ∧ N v) : ∃ v, Still P ⟨d, .slice T x lo hi mx, ty, pos, aft, gd⟩ ev h v ∧ N v := hh
theorem e_fldA {T : TypeId} {x : Operand} {k : Nat} (hh : ∃ v, Still P ⟨d, .fieldAddr T x k, ty, pos, aft, gd⟩ ev h v ∧ N v) : ∃ v, Still P ⟨d, .fieldAddr T x k, ty, pos, aft, gd⟩ ev h v ∧ N v := hh
theorem e_fld {T : TypeId} {x : Operand} {k : Nat} (hh : ∃ v, Still P ⟨d, .field T x k, ty, pos, aft, gd⟩ ev h v ∧ N v) : ∃ v, Still P ⟨d, .field T x k, ty, pos, aft, gd⟩ ev h v ∧ N v := hh
theorem e_ixA {T : TypeId} {x y : Operand} (hh : ∃ v, Still P ⟨d, .indexAddr T x y, ty, pos, aft, gd⟩ ev h v ∧ N v) : ∃ v, Still P ⟨d, .indexAddr T x y, ty, pos, aft, gd⟩ ev h v ∧ N v := hh
theorem e_ix {T : TypeId} {x y : Operand} (hh : ∃ v, Still P ⟨d, .index T x y, ty, pos, aft, gd⟩ ev h v ∧ N v) : ∃ v, Still P ⟨d, .index T x y, ty, pos, aft, gd⟩ ev h v ∧ N v := hh
theorem e_ext {x : Operand} {k : Nat} (hh : ∃ v, Still P ⟨d, .extract x k, ty, pos, aft, gd⟩ ev h v ∧ N v) : ∃ v, Still P ⟨d, .extract x k, ty, pos, aft, gd⟩ ev h v ∧ N v := hh
theorem e_bi {b : Builtin} {xs : Array Operand} {ts : Array TypeId} (hh : ∃ v, Still P ⟨d, .call ⟨.builtin b, xs, ts⟩, ty, pos, aft, gd⟩ ev h v ∧ N v) : ∃ v, Still P ⟨d, .call ⟨.builtin b, xs, ts⟩, ty, pos, aft, gd⟩ ev h v ∧ N v := hh
end
end Go.Av
