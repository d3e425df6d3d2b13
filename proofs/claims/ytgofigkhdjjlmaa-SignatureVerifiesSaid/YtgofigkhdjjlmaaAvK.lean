/-
  Regions that draw their order, step by step; loops of a known number of rounds; struct literals. For every program.
-/
import Derived.Test.YtgofigkhdjjlmaaAvJ
set_option linter.unusedVariables false
set_option linter.unusedSimpArgs false
namespace Go.Av
open Go Go.RowKit

theorem Chain.snoc {P : Program} {ops : Array Oper} {l : List Oper} {env E : Env} {h H : Heap} {n N : Nat} {vs : List AV} {ns : List Nat} (hc : Chain P ops l env h n vs ns E H N) {o : Oper} {v : AV} {Δ : Heap} {N' : Nat}
    (hs : (guardA ops E o true ∧ N ≤ N' ∧ Adds P o (evT (o.looksAt ops) E) H v Δ N N' ∧ (∀ id, N ≤ id → id < N' → (lk Δ id).isSome = true) ∧ (∀ p ∈ Δ, N ≤ p.1 ∧ p.1 < N')) ∨ (guardA ops E o false ∧ v = .junk ∧ Δ = [] ∧ N' = N)) :
    ∃ vs' ns', Chain P ops (l ++ [o]) env h n vs' ns' (putE E o.dst v) (Δ ++ H) N' := by
  induction hc with
  | nil =>
    rcases hs with ⟨h1, h2, h3, h4, h5⟩ | ⟨h1, rfl, rfl, rfl⟩
    · exact ⟨_, _, .add h1 h2 h3 h4 h5 .nil⟩
    · exact ⟨_, _, .skip h1 .nil⟩
  | add hg hn hA hcov hkeys hr ih =>
    obtain ⟨vs', ns', hch⟩ := ih hs
    exact ⟨_, _, .add hg hn hA hcov hkeys hch⟩
  | skip hg hr ih =>
    obtain ⟨vs', ns', hch⟩ := ih hs
    exact ⟨_, _, .skip hg hch⟩

/-- m operations of the head are still to come. -/
def Drw (P : Program) (l : List Oper) (sz : Nat) (K : AK) (dfs : Defs) (id n0 : Nat) (env0 : Env) (h0 : Heap) (m : Nat) (rest : List Oper) (n : Nat) (env : Env) (h : Heap) : Prop :=
  ∀ pre vs ns, pre ++ rest = l → Chain P l.toArray pre env0 h0 n0 vs ns env h n → AW P sz (.region id l.toArray true) K n0 env0 h0 dfs

section
variable {P : Program} {l : List Oper} {sz : Nat} {K : AK} {dfs : Defs} {id n0 n : Nat} {env0 env : Env} {h0 h : Heap} {m : Nat} {rest : List Oper} {o : Oper} {v : AV}
theorem aw_drw (m : Nat) (hx : Drw P l sz K dfs id n0 env0 h0 m l n0 env0 h0) : AW P sz (.region id l.toArray true) K n0 env0 h0 dfs := hx [] [] [n0] rfl .nil
theorem drw_adds {Δ : Heap} {n' : Nat} (hg : guardA l.toArray env o true) (hn : n ≤ n') (hA : Adds P o (evT (o.looksAt l.toArray) env) h v Δ n n') (hcov : ∀ id, n ≤ id → id < n' → (lk Δ id).isSome = true) (hkeys : ∀ p ∈ Δ, n ≤ p.1 ∧ p.1 < n')
    (next : Drw P l sz K dfs id n0 env0 h0 m rest n' (putE env o.dst v) (Δ ++ h)) : Drw P l sz K dfs id n0 env0 h0 (m + 1) (o :: rest) n env h := by
  intro pre vs ns hl hc
  obtain ⟨vs', ns', hch⟩ := hc.snoc (.inl ⟨hg, hn, hA, hcov, hkeys⟩)
  exact next (pre ++ [o]) vs' ns' (by simpa using hl) hch
theorem drw_skip (hg : guardA l.toArray env o false) (next : Drw P l sz K dfs id n0 env0 h0 m rest n (putE env o.dst .junk) h) : Drw P l sz K dfs id n0 env0 h0 (m + 1) (o :: rest) n env h := by
  intro pre vs ns hl hc
  obtain ⟨vs', ns', hch⟩ := hc.snoc (.inr ⟨hg, rfl, rfl, rfl⟩)
  exact next (pre ++ [o]) vs' ns' (by simpa using hl) hch
theorem drw_still (hg : guardA l.toArray env o true) (hA : Still P o (evT (o.looksAt l.toArray) env) h v) (next : Drw P l sz K dfs id n0 env0 h0 m rest n (putE env o.dst v) h) : Drw P l sz K dfs id n0 env0 h0 (m + 1) (o :: rest) n env h :=
  drw_adds hg (Nat.le_refl _) hA.adds (fun id h1 h2 => by omega) (by simp) next
theorem drw_new (hg : guardA l.toArray env o true) (hA : Adds P o (evT (o.looksAt l.toArray) env) h v [] n n) (next : Drw P l sz K dfs id n0 env0 h0 m rest n (putE env o.dst v) h) : Drw P l sz K dfs id n0 env0 h0 (m + 1) (o :: rest) n env h :=
  drw_adds hg (Nat.le_refl _) hA (fun id h1 h2 => by omega) (by simp) next
theorem drw_one {obj : AObj} (hlv : obj.live = some obj) (hg : guardA l.toArray env o true) (hA : Adds P o (evT (o.looksAt l.toArray) env) h v [(n, obj)] n (n + 1)) (next : Drw P l sz K dfs id n0 env0 h0 m rest (n + 1) (putE env o.dst v) ((n, obj) :: h)) : Drw P l sz K dfs id n0 env0 h0 (m + 1) (o :: rest) n env h :=
  drw_adds hg (Nat.le_succ _) hA (fun id h1 h2 => by
    obtain rfl : id = n := by omega
    rw [lk_cons, if_pos rfl, hlv]; rfl) (by simp) next
theorem drw_end (hm : P.follows .mixedOrders = true) (hB : drawB l (l.length - rest.length) = true) (hsz : dstsOk (l.take (l.length - rest.length)) sz = true) (hk0 : keysB h0 n0 = true) (next : AWL P l.toArray sz rest K n env h dfs) : Drw P l sz K dfs id n0 env0 h0 0 rest n env h := by
  intro pre vs ns hl hc
  have hlen : l.length - rest.length = pre.length := by rw [← hl]; simp
  rw [hlen] at hB hsz
  have ht : l.take pre.length = pre := by rw [← hl]; simp
  have hd : l.drop pre.length = rest := by rw [← hl]; simp
  exact aw_draw pre.length hm hB hsz hk0 (by rw [ht]; exact hc) (by rw [hd]; exact next)

variable {d : Option Tmp} {ty : TypeId} {pos : String} {aft : Array Edge} {gd : Option (Nat × Bool)} {f : FuncId} {xs : List Operand} {ats : Array TypeId} {r : AV} {hr : Heap} {nr : Nat}
theorem shH_lt {k nr : Nat} : ∀ {h : Heap}, h.all (fun p => Nat.blt p.1 nr) = true → ∀ p ∈ shH k h, k ≤ p.1 ∧ p.1 < k + nr
  | [], _, p, hp => by cases hp
  | q :: r, hb, p, hp => by
    simp only [List.all_cons, Bool.and_eq_true, Nat.blt_eq] at hb
    rw [shH] at hp
    rcases List.mem_cons.1 hp with rfl | hp
    · exact ⟨by simp, by simp; exact hb.1⟩
    · exact shH_lt (by simpa using hb.2) p hp
theorem drw_call {cs cs' : List CV} (hg : guardA l.toArray env ⟨d, .call ⟨.value (.func f), xs.toArray, ats⟩, ty, pos, aft, gd⟩ true) (hb : Body P f) (hx : argsC (evT (Oper.looksAt l.toArray ⟨d, .call ⟨.value (.func f), xs.toArray, ats⟩, ty, pos, aft, gd⟩) env) xs = some cs) (hac : AC P f cs' r hr nr) (hcv : CvL cs cs') (hcov : covB hr nr = true)
    (next : Drw P l sz K dfs id n0 env0 h0 m rest (n + nr) (putE env d (r.sh n)) (shH n hr ++ h)) : Drw P l sz K dfs id n0 env0 h0 (m + 1) (⟨d, .call ⟨.value (.func f), xs.toArray, ats⟩, ty, pos, aft, gd⟩ :: rest) n env h :=
  drw_adds hg (Nat.le_add_right _ _) (adds_call hb hx hac hcv hcov) (fun id h1 h2 => by
    have := (covB_spec hcov (id - n)).1 (by omega)
    obtain ⟨o, ho⟩ := Option.isSome_iff_exists.1 this
    rw [show id = n + (id - n) by omega, shH_lk, ho]; rfl) (shH_lt (by simp only [covB, Bool.and_eq_true] at hcov; exact hcov.1)) next
end

/-- At most k rounds of a loop. -/
def AWR (P : Program) (sz : Nat) (c : Code) (K : AK) : Nat → Nat → Env → Heap → Defs → Prop
  | 0, _, _, _, _ => False
  | k + 1, n, env, h, dfs => AW P sz c (thenA (fun n env h dfs => AWR P sz c K k n env h dfs) K) n env h dfs
theorem awr_succ {P : Program} {sz k n : Nat} {c : Code} {K : AK} {env : Env} {h : Heap} {dfs : Defs} (hx : AW P sz c (thenA (AWR P sz c K k) K) n env h dfs) : AWR P sz c K (k + 1) n env h dfs := hx
theorem aw_rounds {P : Program} {sz n : Nat} {c : Code} {K : AK} {env : Env} {h : Heap} {dfs : Defs} (k : Nat) (hx : AWR P sz c K k n env h dfs) : AW P sz (.loop c) K n env h dfs := by
  intro B a w hc
  refine wp_loop_rounds k ?_
  induction k generalizing n env h dfs a w with
  | zero => exact hx.elim
  | succ k ih =>
    rw [rounds_succ]
    refine wp_mono (hx B a w hc) fun e a' w' hq => ?_
    obtain ⟨n', env', h', d', hk, hc'⟩ := hq
    cases e with
    | normal => exact ih hk a' w' hc'
    | _ => exact ⟨n', env', h', d', hk, hc'⟩

/-- Struct and array literals: parts laid over zeros. -/
def fillA (place : Nat → Option (Nat × Nat)) (cs : List AV) : List (Nat × List AV) → Option (List AV)
  | [] => some cs
  | (i, vs) :: r => match place i with
    | some (off, size) => match Nat.beq vs.length size && Nat.ble (off + vs.length) cs.length with
      | true => fillA place (lay cs off vs) r
      | false => none
    | none => none
inductive CellsA : AV → List AV → Prop
  | agg {v : AV} {xs : List AV} (h : Parts v xs) : CellsA v xs
  | one {v : AV} (h : v.one = true) : CellsA v [v]
theorem CellsA.rep {C : Cx} {v : AV} {xs : List AV} (h : CellsA v xs) {u : Value} (hr : Rep C v u) : RepL C xs u.cells.toList := by
  cases h with
  | agg h => obtain ⟨us, rfl, h2⟩ := h.rep hr; simpa [Value.cells] using h2
  | one h => rw [(hr.one h).2]; exact ⟨u, [], rfl, hr, rfl⟩
inductive CellsL : List AV → List (List AV) → Prop
  | nil : CellsL [] []
  | cons {v : AV} {xs : List AV} {l : List AV} {ls : List (List AV)} (h : CellsA v xs) (hl : CellsL l ls) : CellsL (v :: l) (xs :: ls)
theorem fillA_rep {C : Cx} (place : Nat → Option (Nat × Nat)) : ∀ {ps : List (Nat × Value)} {ks : List Nat} {vs : List AV} {ls : List (List AV)} {cs out : List AV} {us : List Value}, CellsL vs ls → ps.map (·.1) = ks → RepL C vs (ps.map (·.2)) → RepL C cs us → fillA place cs (ks.zip ls) = some out →
    ∃ us', Instr.fill place us.toArray ps = some us'.toArray ∧ RepL C out us'
  | [], ks, vs, ls, cs, out, us, hc, hk, hv, hcs, hf => by
    simp at hk; subst hk
    simp [fillA] at hf; subst hf
    exact ⟨us, rfl, hcs⟩
  | (k, u) :: ps, ks, vs, ls, cs, out, us, hc, hk, hv, hcs, hf => by
    simp only [List.map_cons] at hk hv
    subst hk
    cases hc with
    | nil => obtain ⟨h1⟩ := hv
    | @cons v xs l ls h hl =>
      simp only [RepL] at hv
      obtain ⟨u', us'', he, h1, h2⟩ := hv
      injection he with he1 he2
      subst he1 he2
      simp only [List.zip_cons_cons, fillA] at hf
      split at hf
      · rename_i off size hp
        split at hf
        · rename_i hb
          simp only [Bool.and_eq_true] at hb
          have hlen := (h.rep h1).length
          have e1 := Nat.eq_of_beq_eq_true hb.1
          have e2 := Nat.le_of_ble_eq_true hb.2
          have hul := hcs.length
          have hcs' : RepL C (lay cs off xs) (lay us off u.cells.toList) := by
            unfold lay
            rw [hlen]
            exact ((hcs.take off).append (h.rep h1)).append (hcs.drop (off + xs.length))
          obtain ⟨us', h3, h4⟩ := fillA_rep place hl rfl h2 hcs' hf
          refine ⟨us', ?_, h4⟩
          rw [fill_one (vs := u.cells.toList) (off := off) rfl (by rw [hlen, e1]; exact hp) (by rw [hlen, hul]; exact e2)]
          exact h3
        · cases hf
      · cases hf

section build
variable {P : Program} {tab : Tab} {ev : Evl} {h : Heap} {d : Option Tmp} {T ty : TypeId} {pos : String} {aft : Array Edge} {gd : Option (Nat × Bool)}
def placeS (tab : Tab) (fs : List (Nat × TypeId)) (i : Nat) : Option (Nat × Nat) := match fs[i]? with
  | some (off, t) => match tyLook tab t with | some e => some (off, e.size) | none => none
  | none => none
theorem mapM_places (w : World) : ∀ (fs : List Field) (g : List (Nat × TypeId)), fs.map (fun f => (f.offset, f.type)) = g → (∀ (i : Nat) (p : Nat × TypeId), g[i]? = some p → ∃ e, tyLook tab p.2 = some e) → TabOk P tab →
    ∃ ps : List (Nat × Nat), (fs.mapM (fun (f : Field) => (do pure (f.offset, ← sizeOf f.type) : Sem (Nat × Nat)))).run P w = .ok ps w ∧ ∀ i, ps[i]? = placeS tab g i
  | [], g, hg, hl, tb => by
    simp at hg; subst hg
    exact ⟨[], by simp, fun i => by simp [placeS]⟩
  | f :: fs, g, hg, hl, tb => by
    simp only [List.map_cons] at hg
    subst hg
    obtain ⟨e, he⟩ := hl 0 (f.offset, f.type) rfl
    obtain ⟨ps, h1, h2⟩ := mapM_places w fs _ rfl (fun i p hp => hl (i + 1) p (by simpa using hp)) tb
    refine ⟨(f.offset, e.size) :: ps, ?_, fun i => ?_⟩
    · simp only [List.mapM_cons, Sem.run_bind, (tyLook_ok tb he).sizeOf w, Result.andThen_ok, Sem.run_pure, h1]
    · cases i with
      | zero => simp only [placeS, List.getElem?_cons_zero]; simp only at he; rw [he]
      | succ i => simpa [placeS] using h2 i
theorem s_build (tb : TabOk P tab) {e : TyE} {fs : List (Nat × TypeId)} {ps : List (Nat × Operand)} {vs : List AV} {ls : List (List AV)} {out : List AV} {v : AV} (hT : tyLook tab T = some e) (hk : e.kind = .struct fs) (hfs : fs.all (fun p => (tyLook tab p.2).isSome) = true) (hx : argsA ev (ps.map (·.2)) = some vs) (hcl : CellsL vs ls) (hf : fillA (placeS tab fs) (zav e.zero) ((ps.map (·.1)).zip ls) = some out) (hv : IsAgg out v) :
    Still P ⟨d, .build T ps.toArray, ty, pos, aft, gd⟩ ev h v := by
  intro B dom M H w a hh hc he
  have hargs := evs_rep he (argsA_eq hx)
  obtain ⟨fields, h1, h2⟩ := (tyLook_ok tb hT).struct hk
  obtain ⟨ti, hi, hs, hby, z, hz, hzc⟩ := (tyLook_ok tb hT).parts
  obtain ⟨qs, h3, h4⟩ := mapM_places (P := P) (tab := tab) w fields.toList fs h2 (fun i p hp => Option.isSome_iff_exists.1 (List.all_eq_true.1 hfs p (List.mem_of_getElem? hp))) tb
  obtain ⟨us', h5, h6⟩ := fillA_rep (ps := ps.map fun p => (p.1, a.eval p.2)) (ks := ps.map (·.1)) (placeS tab fs) hcl (by simp) (by rw [List.map_map]; rw [List.map_map] at hargs; exact hargs) (zav_rep e.zero) hf
  refine ⟨.agg us'.toArray, ?_, hv.rep h6⟩
  have hm : (fields.mapM fun (f : Field) => (do pure (f.offset, ← sizeOf f.type) : Sem (Nat × Nat))).run P w = .ok qs.toArray w := by
    rw [Array.mapM_eq_mapM_toList, map_eq_pure_bind, Sem.run_bind, h3]
    rfl
  have hplace : (fun i => qs.toArray[i]?) = placeS tab fs := by
    funext i; rw [← h4 i]; simp
  simp only [execOp, Instr.build, Sem.run_bind, zeroValue, typeInfo, run_program, Result.andThen_ok, hi, Sem.run_pure, hz, run_underlying h1, hm]
  rw [hplace]
  rw [show (Array.map (fun x => (x.fst, a.eval x.snd)) ps.toArray).toList = ps.map fun p => (p.1, a.eval p.2) by simp]
  rw [show z.cells = e.zero.toArray by rw [← hzc]]
  rw [h5]
  rfl
theorem s_buildA (tb : TabOk P tab) {e e' : TyE} {n E : Nat} {ps : List (Nat × Operand)} {vs : List AV} {ls : List (List AV)} {out : List AV} {v : AV} (hT : tyLook tab T = some e) (hk : e.kind = .array n E) (hE : tyLook tab E = some e') (hx : argsA ev (ps.map (·.2)) = some vs) (hcl : CellsL vs ls) (hf : fillA (fun i => some (i * e'.size, e'.size)) (zav e.zero) ((ps.map (·.1)).zip ls) = some out) (hv : IsAgg out v) :
    Still P ⟨d, .build T ps.toArray, ty, pos, aft, gd⟩ ev h v := by
  intro B dom M H w a hh hc he
  have hargs := evs_rep he (argsA_eq hx)
  have h1 := (tyLook_ok tb hT).array hk
  obtain ⟨ti, hi, hs, hby, z, hz, hzc⟩ := (tyLook_ok tb hT).parts
  obtain ⟨us', h5, h6⟩ := fillA_rep (ps := ps.map fun p => (p.1, a.eval p.2)) (ks := ps.map (·.1)) (fun i => some (i * e'.size, e'.size)) hcl (by simp) (by rw [List.map_map]; rw [List.map_map] at hargs; exact hargs) (zav_rep e.zero) hf
  refine ⟨.agg us'.toArray, ?_, hv.rep h6⟩
  simp only [execOp, Instr.build, Sem.run_bind, zeroValue, typeInfo, run_program, Result.andThen_ok, hi, Sem.run_pure, hz, run_underlying h1, (tyLook_ok tb hE).sizeOf w]
  rw [show (Array.map (fun x => (x.fst, a.eval x.snd)) ps.toArray).toList = ps.map fun p => (p.1, a.eval p.2) by simp]
  rw [show z.cells = e.zero.toArray by rw [← hzc]]
  rw [h5]
  rfl
end build
end Go.Av
