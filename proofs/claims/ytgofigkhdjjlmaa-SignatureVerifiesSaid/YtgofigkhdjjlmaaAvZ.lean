/-
  Calls with values of the call's own memory: read closed while the call lasts, or walked on into the callee; laws at the end. For every program.
-/
import Derived.Test.YtgofigkhdjjlmaaAvY
set_option linter.unusedVariables false
set_option linter.unusedSimpArgs false
namespace Go.Av
open Go Go.RowKit

/-- Cells that hold no address. -/
def Flc (c : CV) : Prop := ∀ ok w u, RepC ok w c u → ∀ ok' w', RepC ok' w' c u
def FlcL (cs : List CV) : Prop := ∀ c ∈ cs, Flc c
theorem FlcL.rep : ∀ {cs : List CV}, FlcL cs → ∀ {ok w u}, RepCs ok w cs u → ∀ ok' w', RepCs ok' w' cs u
  | [], _, ok, w, u, h, ok', w' => h
  | c :: cs, hf, ok, w, u, h, ok', w' => by
    simp only [RepCs] at h ⊢
    obtain ⟨a, l, h1, h2, h3⟩ := h
    exact ⟨a, l, h1, hf c (by simp) _ _ _ h2 _ _, FlcL.rep (fun d hd => hf d (by simp [hd])) h3 _ _⟩
theorem flc_v {x : Value} : Flc (.v x) := fun ok w u h ok' w' => h
theorem flc_agg {cs : List CV} (h : FlcL cs) : Flc (.agg cs) := fun ok w u hu ok' w' => by
  simp only [RepC] at hu ⊢
  obtain ⟨us, h1, h2, h3⟩ := hu
  exact ⟨us, h1, h.rep h2 _ _, h3⟩
theorem flcl_nil : FlcL [] := fun c hc => by cases hc
theorem flcl_cons {c : CV} {cs : List CV} (h : Flc c) (k : FlcL cs) : FlcL (c :: cs) := fun d hd => by
  rcases List.mem_cons.1 hd with rfl | hd
  · exact h
  · exact k d hd
theorem flcl_plain (l : List Value) : FlcL (l.map CV.v) := fun c hc => by
  obtain ⟨x, _, rfl⟩ := List.mem_map.1 hc
  exact flc_v
theorem flcl_u8 (l : List UInt8) : FlcL (u8c l) := by rw [u8c_plain]; exact flcl_plain _
theorem flcl_int (k : IntKind) (l : List Int) : FlcL (intc k l) := by rw [intc_plain]; exact flcl_plain _
theorem flcl_app {a b : List CV} (ha : FlcL a) (hb : FlcL b) : FlcL (a ++ b) := fun c hc => (List.mem_append.1 hc).elim (ha c) (hb c)
theorem flcl_flat {α : Type} {l : List α} {f : α → List CV} (h : ∀ x, FlcL (f x)) : FlcL (l.flatMap f) := fun c hc => by
  obtain ⟨x, _, hx⟩ := List.mem_flatMap.1 hc
  exact h x c hx
theorem flcl_map {α : Type} {l : List α} {f : α → CV} (h : ∀ x, Flc (f x)) : FlcL (l.map f) := fun c hc => by
  obtain ⟨x, _, rfl⟩ := List.mem_map.1 hc
  exact h x

/-- What a call with flat results hands back. -/
inductive FlR : AV → Prop
  | c {x : CV} (h : Flc x) : FlR (.c x)
  | t {xs : List CV} (h : FlcL xs) : FlR (.tup (xs.map AV.c))
theorem FlR.rep {r : AV} (h : FlR r) {C C' : Cx} {u : Value} (hu : Rep C r u) : Rep C' r u := by
  cases h with
  | c h => simp only [Rep] at hu ⊢; exact h _ _ _ hu _ _
  | t h =>
    simp only [Rep] at hu ⊢
    obtain ⟨us, h1, h2⟩ := hu
    exact ⟨us, h1, RepL.ofC (h.rep (RepL.toC h2) _ _)⟩
theorem flr_2 {x y : CV} (h : FlcL [x, y]) : FlR (.tup [.c x, .c y]) := FlR.t h
theorem flr_3 {x y z : CV} (h : FlcL [x, y, z]) : FlR (.tup [.c x, .c y, .c z]) := FlR.t h

section call
variable {P : Program} {ev : Evl} {h : Heap} {d : Option Tmp} {ty : TypeId} {pos : String} {aft : Array Edge} {gd : Option (Nat × Bool)} {i : Nat} {f : FuncId} {xs : List Operand} {ats : Array TypeId} {r : AV}

/-- A call whose arguments are read closed while it lasts, with a flat result. -/
theorem adds_callF {vs : List AV} {cs : List CV} (hb : Body P f) (hx : argsA ev xs = some vs) (hfz : FrzL [] h vs cs) (hac : AC P f cs r [] 0) (hfl : FlR r) :
    Adds P ⟨d, .call ⟨.value (.func f), xs.toArray, ats⟩, ty, pos, aft, gd⟩ ev h r [] i i := by
  intro B dom M H w a K Q hh hn hc he hK
  have hargs := hfz B dom M H w _ hh (by simp) hc (evs_rep he (argsA_eq hx))
  unfold Oper.wp execOp
  simp only [resolve, Deferred.ofValue, Act.eval, invoke, Sem.run_bind, Sem.run_pure, Result.andThen_ok, List.map_toArray, Array.append_empty, Body.run hb, Oper.upon]
  rw [show (#[] ++ (List.map a.eval xs).toArray : Array Value) = (List.map a.eval xs).toArray by simp]
  refine (hac _ w _ hargs).mono ?_
  rintro e w' ⟨v, Mc, rfl, hcc, hv⟩
  simp only
  have hbl := hcc.fr.below
  have hg := hc.grow hbl i i (M' := M) (fun id _ => rfl) (fun id h1 h2 => by omega) (fun id o h1 h2 => by omega) (fun id id' o o' g h1 h2 => by omega) (fun hext id o h1 h2 => by omega)
  exact hK v w' M hg.2 hg.1 (hfl.rep hv)

/-- The same, with one own row of flat cells handed over. -/
theorem adds_callF1 {vs : List AV} {cs rc : List CV} {k size : Nat} {T : TypeId} (hb : Body P f) (hx : argsA ev xs = some vs) (hfz : FrzL [] h vs cs) (hac : AC P f cs (.own 0 0 k size true) [(0, .row T rc)] 1) (hfl : FlcL rc) :
    Adds P ⟨d, .call ⟨.value (.func f), xs.toArray, ats⟩, ty, pos, aft, gd⟩ ev h (.own i 0 k size true) [(i, .row T rc)] i (i + 1) := by
  intro B dom M H w a K Q hh hn hc he hK
  have hargs := hfz B dom M H w _ hh (by simp) hc (evs_rep he (argsA_eq hx))
  unfold Oper.wp execOp
  simp only [resolve, Deferred.ofValue, Act.eval, invoke, Sem.run_bind, Sem.run_pure, Result.andThen_ok, List.map_toArray, Array.append_empty, Body.run hb, Oper.upon]
  rw [show (#[] ++ (List.map a.eval xs).toArray : Array Value) = (List.map a.eval xs).toArray by simp]
  refine (hac _ w _ hargs).mono ?_
  rintro e w' ⟨v, Mc, rfl, hcc, hv⟩
  simp only
  have hbl := hcc.fr.below
  have hob := hcc.obj 0 _ (by simp [lt]) (show lk [(0, AObj.row T rc)] 0 = some (.row T rc) from rfl)
  have hHi : H i = some (.row T rc) := by rw [(hn i (by omega) (by omega)).2, lk_cons, if_pos rfl]; rfl
  let M' : Nat → Option Nat := fun id => if id = i then Mc 0 else M id
  have hM1 : ∀ id, dom id → M' id = M id := fun id hid => by
    have : ¬ id = i := fun e => by subst e; exact (hn id (by omega) (by omega)).1 hid
    simp [M', this]
  have hMi : M' i = Mc 0 := by simp [M']
  have hnew : ∀ g, Mc 0 = some g → w.heap.size ≤ g := fun g hg => by
    rcases hcc.lo 0 _ g (by simp [lt]) (show lk [(0, AObj.row T rc)] 0 = some (.row T rc) from rfl) hg with h1 | h1
    · exact h1
    · cases h1
  have hg := hc.grow hbl i (i + 1) (M' := M') hM1 (fun id h1 h2 => (hn id h1 h2).1)
    (fun id o h1 h2 h3 g hg => by
      obtain rfl : id = i := by omega
      exact hnew g (hMi.symm.trans hg))
    (fun id id' o o' g h1 h2 h3 h4 _ _ _ _ => by omega)
    (fun hext id o h1 h2 h3 => by
      obtain rfl : id = i := by omega
      rw [hHi] at h3
      injection h3 with h3
      subst h3
      rw [hMi]
      rcases hob with k1 | ⟨g, us, ws, k1, k2, k3, k4⟩
      · exact .inl k1
      · exact .inr ⟨g, us, ws, k1, k2, hfl.rep k3 _ _, k4⟩)
  refine hK v w' M' hg.2 hg.1 ?_
  simp only [Rep, cx] at hv ⊢
  refine ⟨.inr ⟨by omega, by omega⟩, ?_⟩
  rw [hMi]
  exact hv.2
end call

section frame
/-- What waits: the frame's slots, and what its deferred closures and the frames ahead of it hold. -/
def fram (env : Env) (dfs : Defs) : List AV := env.map (·.2) ++ dfs.flatMap (·.2)
theorem pruneE_all {env : Env} : ∀ {ks : List Nat} {env' : Env}, pruneE env ks = some env' → ∀ p ∈ env', lkE env p.1 = some p.2
  | [], env', hp, p, hm => by simp [pruneE] at hp; subst hp; cases hm
  | k :: ks, env', hp, p, hm => by
    simp only [pruneE] at hp
    split at hp
    · rename_i r hr
      split at hp
      · rename_i v hv
        injection hp with hp; subst hp
        rcases List.mem_cons.1 hm with rfl | hm
        · exact hv
        · exact pruneE_all hr p hm
      · injection hp with hp; subst hp; exact pruneE_all hr p hm
    · cases hp
theorem lkE_mem : ∀ {env : Env} {t : Nat} {av : AV}, lkE env t = some av → (t, av) ∈ env
  | [], t, av, h => by cases h
  | (i, v) :: r, t, av, h => by
    rw [lkE_cons] at h
    split at h
    · rename_i e; subst e; injection h with h; subst h; simp
    · exact List.mem_cons_of_mem _ (lkE_mem h)
theorem repL_map {C : Cx} {g : Nat → Value} : ∀ {env : Env}, (∀ p ∈ env, Rep C p.2 (g p.1)) → RepL C (env.map (·.2)) (env.map fun p => g p.1)
  | [], _ => rfl
  | p :: r, h => ⟨_, _, rfl, h p (by simp), repL_map fun q hq => h q (by simp [hq])⟩
theorem repL_unmap {C : Cx} {g : Nat → Value} : ∀ {env : Env}, RepL C (env.map (·.2)) (env.map fun p => g p.1) → ∀ p ∈ env, Rep C p.2 (g p.1)
  | [], _, p, hp => by cases hp
  | q :: r, h, p, hp => by
    simp only [List.map_cons, RepL] at h
    obtain ⟨u, us, e, h1, h2⟩ := h
    injection e with e1 e2
    subst e1 e2
    rcases List.mem_cons.1 hp with rfl | hp
    · exact h1
    · exact repL_unmap h2 p hp
theorem repL_split {C : Cx} : ∀ {xs ys : List AV} {us vs : List Value}, us.length = xs.length → RepL C (xs ++ ys) (us ++ vs) → RepL C xs us ∧ RepL C ys vs
  | [], ys, us, vs, hl, h => by
    have : us = [] := List.eq_nil_of_length_eq_zero (by simpa using hl)
    subst this
    exact ⟨rfl, h⟩
  | x :: xs, ys, [], vs, hl, h => by simp at hl
  | x :: xs, ys, u :: us, vs, hl, h => by
    simp only [List.cons_append, RepL] at h
    obtain ⟨a, l, e, h1, h2⟩ := h
    injection e with e1 e2
    subst e1 e2
    obtain ⟨k1, k2⟩ := repL_split (by simpa using hl) h2
    exact ⟨⟨_, _, rfl, h1, k1⟩, k2⟩
theorem defRep_fr {fr : List Value} {C : Cx} : ∀ {dfs : Defs} {ds : List Deferred}, DefRep fr C dfs ds → ∃ us, us.length = (dfs.flatMap (·.2)).length ∧ RepL C (dfs.flatMap (·.2)) us ∧ ∀ C', RepL C' (dfs.flatMap (·.2)) us → DefRep fr C' dfs ds
  | [], ds, h => ⟨[], rfl, rfl, fun C' _ => h⟩
  | (some f, caps) :: r, ds, h => by
    obtain ⟨us, ds', rfl, h2, h3⟩ := h
    obtain ⟨vs, k0, k1, k2⟩ := defRep_fr h3
    refine ⟨us ++ vs, by simp only [List.flatMap_cons, List.length_append]; rw [k0, h2.length], h2.append k1, fun C' hr => ?_⟩
    obtain ⟨l1, l2⟩ := repL_split h2.length hr
    exact ⟨us, ds', rfl, l1, k2 C' l2⟩
  | (none, xs) :: r, ds, h => by
    obtain ⟨h2, h3⟩ := h
    obtain ⟨vs, k0, k1, k2⟩ := defRep_fr h3
    refine ⟨fr ++ vs, by simp only [List.flatMap_cons, List.length_append]; rw [k0, h2.length], h2.append k1, fun C' hr => ?_⟩
    obtain ⟨l1, l2⟩ := repL_split h2.length hr
    exact ⟨l1, k2 C' l2⟩
def framM : Defs → Option (List AV)
  | [] => none
  | (none, xs) :: _ => some xs
  | (some _, _) :: r => framM r
theorem framM_rep {fr : List Value} {C : Cx} {xs : List AV} : ∀ {dfs : Defs} {ds : List Deferred}, framM dfs = some xs → DefRep fr C dfs ds → RepL C xs fr
  | [], ds, h, _ => by cases h
  | (none, ys) :: r, ds, h, hd => by simp only [framM, Option.some.injEq] at h; subst h; exact hd.1
  | (some f, caps) :: r, ds, h, hd => by
    obtain ⟨us, ds', rfl, h2, h3⟩ := hd
    exact framM_rep (dfs := r) h h3
def enumA : Nat → List AV → Env
  | _, [] => []
  | k, x :: xs => (k, x) :: enumA (k + 1) xs
theorem enumA_get : ∀ {cs : List AV} {k t : Nat} {av : AV}, lkE (enumA k cs) t = some av → k ≤ t ∧ cs[t - k]? = some av
  | [], k, t, av, h => by cases h
  | c :: cs, k, t, av, h => by
    rw [enumA, lkE_cons] at h
    split at h
    · rename_i e; subst e; injection h with h; subst h; exact ⟨Nat.le_refl _, by simp⟩
    · rename_i e
      obtain ⟨h1, h2⟩ := enumA_get h
      refine ⟨by omega, ?_⟩
      rw [show t - k = (t - (k + 1)) + 1 by omega]
      simpa using h2
/-- The end of a callee that was walked into: on with the caller. -/
def InK (P : Program) (tab : Tab) (rs : List ResultVar) (xs : List AV) (ops : Array Oper) (sz : Nat) (rest : List Oper) (K : AK) (env : Env) (d : Option Tmp) (dfs : Defs) : AK :=
  fun e n' env' h' dfs' => (e = .normal ∨ e = .ret) ∧ IdleD P dfs' ∧ framM dfs' = some xs ∧ ∃ v, ResL tab env' h' rs v ∧ AWL P ops sz rest K n' (putE env d v) h' dfs
variable {P : Program} {tab : Tab} {sz n : Nat} {env : Env} {h : Heap} {dfs : Defs} {K : AK} {ops : Array Oper} {rest : List Oper} {d : Option Tmp} {ty : TypeId} {pos : String} {aft : Array Edge} {gd : Option (Nat × Bool)} {f : FuncId} {x : Operand} {xs : List Operand} {ats : Array TypeId}
theorem inK_some {rs : List ResultVar} {zs : List AV} {t : Nat} {e : Exit} {n' : Nat} {env' : Env} {h' : Heap} {dfs' : Defs} {v : AV} (he : e = .normal ∨ e = .ret) (hi : IdleD P dfs') (hm : framM dfs' = some zs) (hr : ResL tab env' h' rs v) (next : AWL P ops sz rest K n' ((t, v) :: env) h' dfs) : InK P tab rs zs ops sz rest K env (some t) dfs e n' env' h' dfs' := ⟨he, hi, hm, v, hr, next⟩
theorem inK_none {rs : List ResultVar} {zs : List AV} {e : Exit} {n' : Nat} {env' : Env} {h' : Heap} {dfs' : Defs} {v : AV} (he : e = .normal ∨ e = .ret) (hi : IdleD P dfs') (hm : framM dfs' = some zs) (hr : ResL tab env' h' rs v) (next : AWL P ops sz rest K n' env h' dfs) : InK P tab rs zs ops sz rest K env none dfs e n' env' h' dfs' := ⟨he, hi, hm, v, hr, next⟩
theorem rep_fn {C : Cx} {caps : List AV} {u : Value} (h : Rep C (.fn f caps) u) : ∃ us, u = .func (.func f) #[] us.toArray ∧ RepL C caps us := by simpa only [Rep] using h

/-- A call that is walked into. -/
theorem awl_inl (tb : TabOk P tab) (ks : List Nat) {fn : Func} {c : Code} {vs caps ws : List AV} {env' : Env} {szf : Nat} (hg : guardA ops env ⟨d, .call ⟨.value x, xs.toArray, ats⟩, ty, pos, aft, gd⟩ true) (hd : dstOk d sz = true) (hxf : evA env x = some (.fn f caps)) (hb : Body P f) (hf : P.funcs[f]? = some fn) (hc : fn.body = some c) (hx : argsA (evA env) xs = some vs) (hws : vs ++ caps = ws) (hsz : max fn.ntmps ws.length = szf) (hE : pruneE env ks = some env')
    (next : AW P szf c (InK P tab fn.results.toList (fram env' dfs) ops sz rest K env' d dfs) n (enumA 0 ws) h [(none, fram env' dfs)]) : AWL P ops sz (⟨d, .call ⟨.value x, xs.toArray, ats⟩, ty, pos, aft, gd⟩ :: rest) K n env h dfs := by
  intro B a w hcn
  obtain ⟨M, c1, c2, c3, c4⟩ := hcn
  refine wpList_step fun K' hK' => ?_
  rw [if_pos (hg.wanted c3)]
  obtain ⟨us, hxv, hus⟩ := rep_fn (rep_eval c3 x _ hxf)
  have hvs := evs_rep (rep_eval c3) (argsA_eq hx)
  obtain ⟨dv, dv0, dv1, dv2⟩ := defRep_fr c4
  have hcaps := hvs.append hus
  rw [hws] at hcaps
  have hlen := hcaps.length
  have henv : RepL (cx B n M h w) (env'.map (·.2)) (env'.map fun p => a.tmps.getD p.1 undef) := repL_map (g := fun t => a.tmps.getD t undef) fun p hp => c3 p.1 p.2 (pruneE_all hE p hp)
  let B' : Bs := ⟨B.w0, B.G, B.ok0, (env'.map fun p => a.tmps.getD p.1 undef) ++ dv⟩
  unfold Oper.wp execOp
  simp only [resolve, hxv, Deferred.ofValue, invoke, Sem.run_bind, Sem.run_pure, Result.andThen_ok, List.map_toArray, Array.append_empty, Body.run hb, Oper.upon]
  rw [show (#[] ++ (List.map a.eval xs).toArray ++ us.toArray : Array Value) = (List.map a.eval xs ++ us).toArray by simp]
  refine calls_of_wp_defers hf hc (wp_mono (next B' _ w ⟨M, ⟨c1.fr, c1.obj, c1.inj, c1.lo⟩, ?_, ?_, ?_⟩) ?_)
  · simp only [List.length_append, List.length_map] at hlen
    simp
    omega
  · intro t av ht
    obtain ⟨h1, h2⟩ := enumA_get ht
    rw [Nat.sub_zero] at h2
    obtain ⟨u, hu, hru⟩ := hcaps.get h2
    have : ((List.map a.eval xs ++ us).toArray ++ Array.replicate (fn.ntmps - (List.map a.eval xs ++ us).toArray.size) undef).getD t undef = u := by
      have hlt := (List.getElem?_eq_some_iff.1 hu).1
      rw [Array.getD_eq_getD_getElem?, Array.getElem?_append_left (by simpa using hlt)]
      rw [List.getElem?_toArray, hu]
      rfl
    rw [this]
    exact hru
  · exact ⟨henv.append dv1, rfl⟩
  · intro e a' w' hq
    obtain ⟨n', env2, h', dfs', ⟨h1, h2, h3, v, h4, h5⟩, M', d1, d2, d3, d4⟩ := hq
    have : ∀ R : Ending → World → Prop, (∀ u, K' (a.put d u) w' → R (.returned u) w') → Leaves P fn a'.tmps R a'.defers .returning w' := by
      intro R hR
      refine leaves_idle h2 d4 ?_
      obtain ⟨u, k1, k2⟩ := h4.run tb d1 d3
      refine ⟨u, k2, ?_⟩
      obtain ⟨e1, e2⟩ := repL_split (by simp) (framM_rep h3 d4)
      have he := repL_unmap (g := fun t => a.tmps.getD t undef) e1
      obtain ⟨p1, p2, p3⟩ := put_env (env := env') (B := B) (a := a) (w := w') (w' := w') (M := M') (M' := M') (n := n') (n' := n') (h := h') (h' := h') c2 (fun t av ht => he (t, av) (lkE_mem ht)) (Ext.refl _) (dstOk_spec hd) (v := v) (u := u) k1
      exact hR u (hK' _ _ (h5 B _ _ ⟨M', ⟨d1.fr, d1.obj, d1.inj, d1.lo⟩, p1, p2, by rw [p3]; exact dv2 _ e2⟩))
    rcases h1 with rfl | rfl <;> exact this _ (fun u h => h)
end frame

section strokes
variable {P : Program} {ops : Array Oper} {sz n n0 i m t : Nat} {K : AK} {env env0 : Env} {h h0 : Heap} {dfs : Defs} {rest l : List Oper} {op : Op} {ty : TypeId} {pos : String} {aft : Array Edge} {gd : Option (Nat × Bool)}
theorem w_a (hg : guardA ops env ⟨some t, op, ty, pos, aft, gd⟩ true) (hd : Nat.blt t sz = true) (hh : ∃ v, Adds P ⟨some t, op, ty, pos, aft, gd⟩ (evA env) h v [] n n ∧ AWL P ops sz rest K n ((t, v) :: env) h dfs) : AWL P ops sz (⟨some t, op, ty, pos, aft, gd⟩ :: rest) K n env h dfs :=
  let ⟨_, h1, h2⟩ := hh; awl_new hg hd h1 h2
theorem w_n (hg : guardA ops env ⟨none, op, ty, pos, aft, gd⟩ true) (hh : ∃ v, Adds P ⟨none, op, ty, pos, aft, gd⟩ (evA env) h v [] n n ∧ AWL P ops sz rest K n env h dfs) : AWL P ops sz (⟨none, op, ty, pos, aft, gd⟩ :: rest) K n env h dfs :=
  let ⟨_, h1, h2⟩ := hh; awl_new hg rfl h1 h2
theorem w_d (hg : guardA l.toArray env ⟨some t, op, ty, pos, aft, gd⟩ true) (hh : ∃ v, Adds P ⟨some t, op, ty, pos, aft, gd⟩ (evT (Oper.looksAt l.toArray ⟨some t, op, ty, pos, aft, gd⟩) env) h v [] n n ∧ Drw P l sz K dfs i n0 env0 h0 m rest n ((t, v) :: env) h) : Drw P l sz K dfs i n0 env0 h0 (m + 1) (⟨some t, op, ty, pos, aft, gd⟩ :: rest) n env h :=
  let ⟨_, h1, h2⟩ := hh; drw_new hg h1 h2
theorem ew_i {o : Oper} {ev : Evl} {N : AV → Prop} {v : AV} (hs : Adds P o ev h v [] n n) (hn : N v) : ∃ v, Adds P o ev h v [] n n ∧ N v := ⟨v, hs, hn⟩
/-- Is the slot read in the region, or written twice. -/
def readsB (all : List Oper) (t : Nat) : Bool := (all.any fun o => memB (o.looksAt all.toArray) t) || (Nat.blt 1 (all.countP fun o => match o.dst with | some d => Nat.beq d t | none => false))
/-- The operations ahead of the first one that writes or is walked into; a variable that is not read in the region may be set anywhere. -/
def headLenF (fs : List Nat) (all : List Oper) : List Oper → Nat
  | [] => 0
  | o :: r => match o.op with
    | .assign _ => match o.dst with
      | some t => match readsB all t with | true => 0 | false => headLenF fs all r + 1
      | none => 0
    | .call ⟨.value (.func f), _, _⟩ => match memB fs f with | true => 0 | false => headLenF fs all r + 1
    | .call ⟨.value (.tmp _), _, _⟩ => 0
    | op => match writesB op with | true => 0 | false => headLenF fs all r + 1
theorem aw_drwF {id : Nat} (fs : List Nat) (hx : Drw P l sz K dfs id n0 env0 h0 (headLenF fs l l) l n0 env0 h0) : AW P sz (.region id l.toArray true) K n0 env0 h0 dfs := aw_drw _ hx
theorem frz_cv {keep : List Nat} {x : AV} {y z : CV} (h1 : Frz keep h x y) (h2 : Cv y z) : Frz keep h x z := fun B dom M H w u hh hk hc hu => h2 _ _ _ (h1 B dom M H w u hh hk hc hu)
end strokes
section pick
variable {P : Program} {ev : Evl} {h : Heap} {d : Option Tmp} {ty : TypeId} {x y z : Operand} {pos : String} {aft : Array Edge} {gd : Option (Nat × Bool)} {b : Bool} {v : AV}
theorem s_pickTb (hc0 : ev z = some (.c (.v (.bool b)))) (hb : b = true) (hx : ev x = some v) : Still P ⟨d, .pick z x y, ty, pos, aft, gd⟩ ev h v := by subst hb; exact s_pickT hc0 hx
theorem s_pickFb (hc0 : ev z = some (.c (.v (.bool b)))) (hb : b = false) (hy : ev y = some v) : Still P ⟨d, .pick z x y, ty, pos, aft, gd⟩ ev h v := by subst hb; exact s_pickF hc0 hy
end pick
/-- From a contract to what a row asks. -/
theorem AC.bool {P : Program} {f : FuncId} {args : List CV} {x : Value} (h : AC P f args (.c (.v x)) [] 0) {w : World} {vs : List Value} (hvs : RepCs (fun _ => True) w args vs) : Calls P f vs.toArray w fun e w' => e = .returned x ∧ Below w.heap.size w w' :=
  (h _ w vs hvs).mono (by
    rintro e w' ⟨v, M, rfl, hc, hv⟩
    simp only [Rep, RepC] at hv
    subst hv
    exact ⟨rfl, hc.fr.below⟩)
end Go.Av
