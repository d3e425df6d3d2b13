/-
  Joined texts: U1 AvSw AvSo AvCl LyS AvSr U4. Lemmas; no statement of a law.
-/
import Derived.Lib.SliceRun
import Derived.Laws.Cover3
import Derived.Laws.CopyRow
import Derived.Shelf.SortM.Plain
import Derived.Shelf.SortM.SortNone
import Derived.Test.YtccnhpaldmjkbaaProg
import Derived.Sort.Grow
import Derived.Test.YtccnhpaldmjkbaaM9
set_option linter.unusedSimpArgs false
set_option linter.unusedVariables false
namespace Go.Proofs.Ytccnhpaldmjkbaa
open Go Go.RowKit Go.Av
set_option maxRecDepth 100000
theorem at_eq {α : Type} {l : List α} {i j : Nat} {x : α} (h : l[i]? = some x) (e : j = i) : l[j]? = some x := e ▸ h
/-- Ascending, all different. -/
def ascI (l : List Int) : Prop := l.Pairwise (· < ·)
/-- What stands in front of place m, each number that follows itself once. -/
def compN (l : List Int) : Nat → List Int
  | 0 => []
  | m + 1 => if 0 < m ∧ l.getD m 0 = l.getD (m - 1) 0 then compN l m else compN l m ++ [l.getD m 0]
def sortI (l : List Int) : List Int := l.mergeSort fun x y => decide (x ≤ y)
/-- The different numbers of a list, ascending. -/
def ascL (l : List Int) : List Int := compN (sortI l) l.length
/-- The smallest w different numbers of a list, ascending. -/
def smallI (w : Nat) (l : List Int) : List Int := (ascL l).take w
/-- Cells of a bottom-k sketch. -/
def hashP (w : Nat) (l : List Int) : Prop := l.length ≤ w ∧ ascI l ∧ ∀ x ∈ l, 0 ≤ x ∧ x < 4611686018427387904
/-- The row while equal numbers are taken away: what is kept, and what stood behind. -/
def rowN (l : List Int) (m : Nat) : List Int := compN l m ++ l.drop (compN l m).length
end Go.Proofs.Ytccnhpaldmjkbaa
namespace Go.Av
open Go Go.RowKit

/-- A value that holds no address. -/
def plB : AV → Bool
  | .c (.v _) => true
  | .tup xs => xs.all fun x => match x with | .c (.v _) => true | _ => false
  | _ => false
/-- The row that a slice of the caller's shows (n elements, closed cells c0) is c1 after the call; the other arguments are closed, the result holds no address. -/
def ACS (P : Program) (f : FuncId) (E : TypeId) (size n : Nat) (c0 args c1 : List CV) (r : AV) : Prop :=
  ∀ (ok : Nat → Prop) (w : World) (g cap : Nat) (us0 vs0 vs : List Value), ¬ ok g → w.heap[g]? = some (.cells (us0 ++ vs0).toArray E (0, 0)) → RepCs ok w c0 us0 → (∀ u ∈ us0, u.oneCell' = true) → n ≤ cap → cap ≤ maxLen → us0.length + vs0.length = cap * size → RepCs ok w args vs →
    Calls P f (Value.slice (some ⟨g, 0, none⟩) n cap :: vs).toArray w fun e w' => ∃ v us1 vs1, e = .returned v ∧ FrB w [g] w' ∧ w'.heap[g]? = some (.cells (us1 ++ vs1).toArray E (0, 0)) ∧ us1.length + vs1.length = cap * size ∧ RepCs (okg ok w g) w' c1 us1 ∧ (∀ u ∈ us1, u.oneCell' = true) ∧ ∀ C : Cx, Rep C r v
section call
variable {P : Program} {ev : Evl} {h : Heap} {d : Option Tmp} {ty : TypeId} {pos : String} {aft : Array Edge} {gd : Option (Nat × Bool)} {i : Nat} {f : FuncId} {x0 : Operand} {xs : List Operand} {ats : Array TypeId} {E : TypeId} {c0 c1 cs cs' : List CV} {r : AV} {id size m : Nat}
theorem e_callS (hac : ACS P f E size m c0 cs' c1 r) (hb : Body P f) (hm : 0 < m) (hx0 : ev x0 = some (.own id 0 m size true)) (ho : lk h id = some (.row E c0)) (hx : argsC ev xs = some cs) (hcv : CvL cs cs') :
    EStep P ⟨d, .call ⟨.value (.func f), (x0 :: xs).toArray, ats⟩, ty, pos, aft, gd⟩ ev h r [] (some (id, some (.row E c1))) i i := by
  intro B dom M H w a K Q hh hn hc he hK
  have hargs : RepCs (okOf B dom M H) w cs (xs.map a.eval) := RepL.toC (C := ⟨dom, M, okOf B dom M H, w⟩) (evs_rep he (by rw [argsC_eq hx, List.map_map]; rfl))
  have hp := he x0 _ hx0
  simp only [Rep] at hp
  obtain ⟨hid, hp⟩ := hp
  rcases hp with ⟨h1, _⟩ | ⟨g, cap, hM, hp, hncap, hcap, hfull⟩ | ⟨h1, _⟩
  · omega
  · obtain ⟨us0, vs0, hb0, hus0, hone0⟩ := obj_row hh hc ho hid hM
    have hng : ¬ okOf B dom M H g := fun hk => hk.2 id _ hid (hh id _ ho hid) hM
    have hlen0 : us0.length + vs0.length = cap * size := by
      obtain ⟨e, hsh⟩ := hfull trivial
      unfold World.shape? at hsh
      rw [hb0] at hsh
      simp only [Option.some.injEq, Prod.mk.injEq, List.size_toArray, List.length_append] at hsh
      omega
    unfold Oper.wp execOp
    simp only [resolve, Deferred.ofValue, Act.eval, invoke, Sem.run_bind, Sem.run_pure, Result.andThen_ok, List.map_toArray, Array.append_empty, Body.run hb, Oper.upon]
    rw [show (#[] ++ (List.map a.eval (x0 :: xs)).toArray : Array Value) = (Value.slice (some ⟨g, 0, none⟩) m cap :: List.map a.eval xs).toArray by simp [hp]]
    refine (hac _ w g cap us0 vs0 _ hng hb0 hus0 hone0 hncap hcap hlen0 (hcv _ _ _ hargs)).mono ?_
    rintro e w' ⟨v, us1, vs1, rfl, hfr, hb1, hlen1, hus1, hone1, hv⟩
    simp only
    have hgs := lt_of_block hb0
    have hg1 : (w'.putObj g (.cells (us0 ++ vs0).toArray E (0, 0))).heap[g]? = some (.cells (us0 ++ vs0).toArray E (0, 0)) := World.putObj_heap_same (lt_of_block hb1)
    have ho1 : ∀ k, k ≠ g → (w'.putObj g (.cells (us0 ++ vs0).toArray E (0, 0))).heap[k]? = w'.heap[k]? := fun k hk => World.putObj_heap_other (fun e => hk e)
    generalize hw1 : w'.putObj g (.cells (us0 ++ vs0).toArray E (0, 0)) = w1 at hg1 ho1
    have hs1 : w1.heap.size = w'.heap.size := by rw [← hw1]; simp [World.putObj]
    have hbl : Below w.heap.size w w1 := ⟨by rw [← hw1]; exact hfr.os, by rw [← hw1]; exact hfr.tape, by rw [← hw1]; exact hfr.output, by rw [hs1]; exact hfr.size, fun k hk => by
      by_cases e : k = g
      · subst e; rw [hg1, hb0]
      · rw [ho1 k e]; exact hfr.block k hk (by simp [e])⟩
    have hgr := hc.grow hbl i i (M' := M) (fun id _ => rfl) (fun id h1 h2 => by omega) (fun id o h1 h2 => by omega) (fun id id' o o' g h1 h2 => by omega) (fun hext id o h1 h2 => by omega)
    rw [ad_self] at hgr
    obtain ⟨g1, g2⟩ := hgr
    have hmon : Keeps (okg (okOf B dom M H) w g) (okOf B dom M (ov (some (id, some (.row E c1))) H)) w' w' := fun b hb hl => by
      refine ⟨⟨?_, fun k o hk hH he => ?_⟩, hl, rfl⟩
      · rcases hb.1 with h1 | h1
        · exact h1.1
        · exact .inr (.inl (Nat.le_trans hc.fr.size h1))
      · by_cases e : k = id
        · subst e
          rw [hM] at he
          injection he with he
          exact hb.2 he.symm
        · rw [ov_ne (fun x hx => e (congrArg Prod.fst (Option.some.inj hx)).symm)] at hH
          rcases hb.1 with h1 | h1
          · exact h1.2 k o hk hH he
          · have := (hc.obj k o hk hH).lt b he
            simp only at this
            omega
    obtain ⟨k1, k2⟩ := g1.turnE (o' := .row E c1) (w' := w') hid (hh id _ ho hid) hM (by rw [← hw1]; rfl) (by rw [← hw1]; rfl) (by rw [← hw1]; rfl) hs1.symm (fun k hk => (ho1 k hk).symm)
      (by
        unfold World.shape?
        rw [hb1, hg1]
        simp only [List.size_toArray, List.length_append]
        rw [hlen1, hlen0])
      (fun hext => .inr ⟨g, us1, vs1, rfl, hb1, RepCs.mono hmon _ _ hus1, hone1⟩)
    rw [ad_self] at hK
    exact hK v w' M (g2.trans k2) k1 (hv _)
  · omega
end call
section
variable {P : Program} {sz n : Nat} {env : Env} {h : Heap} {dfs : Defs} {K : AK} {ops : Array Oper} {rest : List Oper} {d : Option Tmp} {ty : TypeId} {pos : String} {aft : Array Edge} {gd : Option (Nat × Bool)} {f : FuncId} {x0 : Operand} {xs : List Operand} {ats : Array TypeId} {E : TypeId} {c0 c0' c1 cs cs' : List CV} {r : AV} {id size m : Nat}
theorem awl_callS (hac : ACS P f E size m c0 cs' c1 r) (hg : guardA ops env ⟨d, .call ⟨.value (.func f), (x0 :: xs).toArray, ats⟩, ty, pos, aft, gd⟩ true) (hd : dstOk d sz = true) (hb : Body P f) (hm : 0 < m) (hx0 : evA env x0 = some (.own id 0 m size true)) (ho : lk h id = some (.row E c0')) (h0 : c0' = c0) (hx : argsC (evA env) xs = some cs) (hcv : CvL cs cs')
    (next : AWL P ops sz rest K n (putE env d r) ((id, .row E c1) :: h) dfs) : AWL P ops sz (⟨d, .call ⟨.value (.func f), (x0 :: xs).toArray, ats⟩, ty, pos, aft, gd⟩ :: rest) K n env h dfs := by
  subst h0
  exact awl_est (c := some (id, some (.row E c1))) (Δ := []) hg hd (Nat.le_refl _) rfl (e_callS hac hb hm hx0 ho hx hcv) (fun id h1 h2 => by omega) (by simp) next
end
section enter
def RetS (P : Program) (tab : Tab) (rs : List ResultVar) (E : TypeId) (size n : Nat) (c1 : List CV) (r : AV) : AK :=
  fun e k env h dfs => (e = .normal ∨ e = .ret) ∧ IdleD P h dfs ∧ framM dfs = some [.own 0 0 n size true] ∧ 0 < k ∧ lk (endD h dfs) 0 = some (.row E c1) ∧ ∃ v, ResL tab env (endD h dfs) rs v ∧ plB v = true ∧ v = r
end enter
end Go.Av
namespace Go.Av
open Go Go.RowKit

/-- Behind pre a slice of the caller's (n elements, closed cells c0) is handed in; a beginning of it, m elements, is handed back; its cells are c1 then. -/
def ACP (P : Program) (f : FuncId) (E : TypeId) (size n : Nat) (pre c0 args c1 : List CV) (m : Nat) : Prop :=
  ∀ (ok : Nat → Prop) (w : World) (g cap : Nat) (us0 vs0 ps vs : List Value), ¬ ok g → w.heap[g]? = some (.cells (us0 ++ vs0).toArray E (0, 0)) → RepCs ok w c0 us0 → (∀ u ∈ us0, u.oneCell' = true) → n ≤ cap → cap ≤ maxLen → us0.length + vs0.length = cap * size → RepCs ok w pre ps → RepCs ok w args vs →
    Calls P f (ps ++ Value.slice (some ⟨g, 0, none⟩) n cap :: vs).toArray w fun e w' => ∃ v us1 vs1, e = .returned v ∧ FrB w [g] w' ∧ w'.heap[g]? = some (.cells (us1 ++ vs1).toArray E (0, 0)) ∧ us1.length + vs1.length = cap * size ∧ RepCs (okg ok w g) w' c1 us1 ∧ (∀ u ∈ us1, u.oneCell' = true) ∧ ∀ (C : Cx) (id : Nat), C.dom id → C.M id = some g → Rep C (.own id 0 m size false) v
section call
variable {P : Program} {ev : Evl} {h : Heap} {d : Option Tmp} {ty : TypeId} {pos : String} {aft : Array Edge} {gd : Option (Nat × Bool)} {i : Nat} {f : FuncId} {x0 : Operand} {xs : List Operand} {ats : Array TypeId} {E : TypeId} {c0 c1 cs cs' ps ps' : List CV} {id size m k : Nat} {ys : List Operand}
theorem e_callP (hac : ACP P f E size m ps' c0 cs' c1 k) (hb : Body P f) (hm : 0 < m) (hx0 : ev x0 = some (.own id 0 m size true)) (ho : lk h id = some (.row E c0)) (hy : argsC ev ys = some ps) (hcp : CvL ps ps') (hx : argsC ev xs = some cs) (hcv : CvL cs cs') :
    EStep P ⟨d, .call ⟨.value (.func f), (ys ++ x0 :: xs).toArray, ats⟩, ty, pos, aft, gd⟩ ev h (.own id 0 k size false) [] (some (id, some (.row E c1))) i i := by
  intro B dom M H w a K Q hh hn hc he hK
  have hargs : RepCs (okOf B dom M H) w cs (xs.map a.eval) := RepL.toC (C := ⟨dom, M, okOf B dom M H, w⟩) (evs_rep he (by rw [argsC_eq hx, List.map_map]; rfl))
  have hargp : RepCs (okOf B dom M H) w ps (ys.map a.eval) := RepL.toC (C := ⟨dom, M, okOf B dom M H, w⟩) (evs_rep he (by rw [argsC_eq hy, List.map_map]; rfl))
  have hp := he x0 _ hx0
  simp only [Rep] at hp
  obtain ⟨hid, hp⟩ := hp
  rcases hp with ⟨h1, _⟩ | ⟨g, cap, hM, hp, hncap, hcap, hfull⟩ | ⟨h1, _⟩
  · omega
  · obtain ⟨us0, vs0, hb0, hus0, hone0⟩ := obj_row hh hc ho hid hM
    have hng : ¬ okOf B dom M H g := fun hk => hk.2 id _ hid (hh id _ ho hid) hM
    have hlen0 : us0.length + vs0.length = cap * size := by
      obtain ⟨e, hsh⟩ := hfull trivial
      unfold World.shape? at hsh
      rw [hb0] at hsh
      simp only [Option.some.injEq, Prod.mk.injEq, List.size_toArray, List.length_append] at hsh
      omega
    unfold Oper.wp execOp
    simp only [resolve, Deferred.ofValue, Act.eval, invoke, Sem.run_bind, Sem.run_pure, Result.andThen_ok, List.map_toArray, Array.append_empty, Body.run hb, Oper.upon]
    rw [show (#[] ++ (List.map a.eval (ys ++ x0 :: xs)).toArray : Array Value) = (List.map a.eval ys ++ Value.slice (some ⟨g, 0, none⟩) m cap :: List.map a.eval xs).toArray by simp [hp]]
    refine (hac _ w g cap us0 vs0 _ _ hng hb0 hus0 hone0 hncap hcap hlen0 (hcp _ _ _ hargp) (hcv _ _ _ hargs)).mono ?_
    rintro e w' ⟨v, us1, vs1, rfl, hfr, hb1, hlen1, hus1, hone1, hv⟩
    simp only
    have hgs := lt_of_block hb0
    have hg1 : (w'.putObj g (.cells (us0 ++ vs0).toArray E (0, 0))).heap[g]? = some (.cells (us0 ++ vs0).toArray E (0, 0)) := World.putObj_heap_same (lt_of_block hb1)
    have ho1 : ∀ k, k ≠ g → (w'.putObj g (.cells (us0 ++ vs0).toArray E (0, 0))).heap[k]? = w'.heap[k]? := fun k hk => World.putObj_heap_other (fun e => hk e)
    generalize hw1 : w'.putObj g (.cells (us0 ++ vs0).toArray E (0, 0)) = w1 at hg1 ho1
    have hs1 : w1.heap.size = w'.heap.size := by rw [← hw1]; simp [World.putObj]
    have hbl : Below w.heap.size w w1 := ⟨by rw [← hw1]; exact hfr.os, by rw [← hw1]; exact hfr.tape, by rw [← hw1]; exact hfr.output, by rw [hs1]; exact hfr.size, fun k hk => by
      by_cases e : k = g
      · subst e; rw [hg1, hb0]
      · rw [ho1 k e]; exact hfr.block k hk (by simp [e])⟩
    have hgr := hc.grow hbl i i (M' := M) (fun id _ => rfl) (fun id h1 h2 => by omega) (fun id o h1 h2 => by omega) (fun id id' o o' g h1 h2 => by omega) (fun hext id o h1 h2 => by omega)
    rw [ad_self] at hgr
    obtain ⟨g1, g2⟩ := hgr
    have hmon : Keeps (okg (okOf B dom M H) w g) (okOf B dom M (ov (some (id, some (.row E c1))) H)) w' w' := fun b hb hl => by
      refine ⟨⟨?_, fun k o hk hH he => ?_⟩, hl, rfl⟩
      · rcases hb.1 with h1 | h1
        · exact h1.1
        · exact .inr (.inl (Nat.le_trans hc.fr.size h1))
      · by_cases e : k = id
        · subst e
          rw [hM] at he
          injection he with he
          exact hb.2 he.symm
        · rw [ov_ne (fun x hx => e (congrArg Prod.fst (Option.some.inj hx)).symm)] at hH
          rcases hb.1 with h1 | h1
          · exact h1.2 k o hk hH he
          · have := (hc.obj k o hk hH).lt b he
            simp only at this
            omega
    obtain ⟨k1, k2⟩ := g1.turnE (o' := .row E c1) (w' := w') hid (hh id _ ho hid) hM (by rw [← hw1]; rfl) (by rw [← hw1]; rfl) (by rw [← hw1]; rfl) hs1.symm (fun k hk => (ho1 k hk).symm)
      (by
        unfold World.shape?
        rw [hb1, hg1]
        simp only [List.size_toArray, List.length_append]
        rw [hlen1, hlen0])
      (fun hext => .inr ⟨g, us1, vs1, rfl, hb1, RepCs.mono hmon _ _ hus1, hone1⟩)
    rw [ad_self] at hK
    exact hK v w' M (g2.trans k2) k1 (hv _ id hid hM)
  · omega
end call
section
variable {P : Program} {sz n : Nat} {env : Env} {h : Heap} {dfs : Defs} {K : AK} {ops : Array Oper} {rest : List Oper} {d : Option Tmp} {ty : TypeId} {pos : String} {aft : Array Edge} {gd : Option (Nat × Bool)} {f : FuncId} {x0 : Operand} {xs : List Operand} {ats : Array TypeId} {E : TypeId} {c0 c0' c1 cs cs' ps ps' : List CV} {id size m k : Nat} {y0 : Operand}
theorem awl_callP (hac : ACP P f E size m [] c0 cs' c1 k) (hg : guardA ops env ⟨d, .call ⟨.value (.func f), (x0 :: xs).toArray, ats⟩, ty, pos, aft, gd⟩ true) (hd : dstOk d sz = true) (hb : Body P f) (hm : 0 < m) (hx0 : evA env x0 = some (.own id 0 m size true)) (ho : lk h id = some (.row E c0')) (h0 : c0' = c0) (hx : argsC (evA env) xs = some cs) (hcv : CvL cs cs')
    (next : AWL P ops sz rest K n (putE env d (.own id 0 k size false)) ((id, .row E c1) :: h) dfs) : AWL P ops sz (⟨d, .call ⟨.value (.func f), (x0 :: xs).toArray, ats⟩, ty, pos, aft, gd⟩ :: rest) K n env h dfs := by
  subst h0
  exact awl_est (c := some (id, some (.row E c1))) (Δ := []) hg hd (Nat.le_refl _) rfl (e_callP (ys := []) hac hb hm hx0 ho rfl cvl_nil hx hcv) (fun id h1 h2 => by omega) (by simp) next
end
section drawn
variable {P : Program} {l rest : List Oper} {sz i n n0 m : Nat} {K : AK} {dfs : Defs} {env env0 : Env} {h h0 hr : Heap} {es : List Eat} {ids : List Nat} {t : Tmp} {ty : TypeId} {pos : String} {aft : Array Edge} {gd : Option (Nat × Bool)} {f : FuncId} {y0 x0 : Operand} {xs : List Operand} {ats : Array TypeId} {E : TypeId} {c0 c0' c1 cs cs' ps ps' : List CV} {id size q k : Nat}
end drawn
section enter
def RetP (P : Program) (tab : Tab) (rs : List ResultVar) (E : TypeId) (size n : Nat) (pre : List CV) (c1 : List CV) (m : Nat) : AK :=
  fun e k env h dfs => (e = .normal ∨ e = .ret) ∧ IdleD P h dfs ∧ framM dfs = some [.own 0 0 n size true] ∧ 0 < k ∧ ∃ c' fl, lk (endD h dfs) 0 = some (.row E c') ∧ c'.take (m * size) = c1 ∧ ResL tab env (endD h dfs) rs (.own 0 0 m size fl)
theorem retP_mk {P : Program} {tab : Tab} {rs : List ResultVar} {E : TypeId} {size n m : Nat} {pre c1 c' : List CV} {h h' : Heap} {k : Nat} {e : Exit} {env : Env} {dfs : Defs} {fl : Bool} (he : e = .normal ∨ e = .ret) (hd : IdleD P h dfs) (hm : framM dfs = some [.own 0 0 n size true]) (hh : endD h dfs = h') (hk : Nat.blt 0 k = true) (ho : lk h' 0 = some (.row E c')) (hc : c'.take (m * size) = c1) (hv : ResL tab env h' rs (.own 0 0 m size fl)) : RetP P tab rs E size n pre c1 m e k env h dfs :=
  ⟨he, hd, hm, by simpa [Nat.blt_eq] using hk, c', fl, by rw [hh, ho], hc, hh ▸ hv⟩
theorem acp_enter {P : Program} {tab : Tab} (tb : TabOk P tab) {f : FuncId} {fn : Func} {c : Code} {E : TypeId} {size n : Nat} {pre c0 args c1 : List CV} {m : Nat} {sz : Nat} (hf : P.funcs[f]? = some fn) (hb : fn.body = some c) (hsz : max fn.ntmps (pre.length + (args.length + 1)) = sz) (hn0 : 0 < n)
    (hx : AW P sz c (RetP P tab fn.results.toList E size n pre c1 m) 1 (enumA 0 (pre.map AV.c ++ .own 0 0 n size true :: args.map AV.c)) [(0, .row E c0)] [(none, [.own 0 0 n size true])]) : ACP P f E size n pre c0 args c1 m := by
  intro ok w g cap us0 vs0 ps vs hng hb0 hc0 hone0 hncap hcap hlen0 hps hvs
  have hlen := hvs.length
  have hlenp := hps.length
  have hok : ∀ b, ok b → okOf ⟨w, [g], ok, [.slice (some ⟨g, 0, none⟩) n cap]⟩ (lt 1) (fun _ => some g) (lk [(0, .row E c0)]) b := fun b hk => ⟨.inl hk, fun id o hid hH he => by
    injection he with he; subst he; exact hng hk⟩
  have hshape : w.shape? g = some (E, 0 + cap * size) := by
    unfold World.shape?
    rw [hb0]
    simp [hlen0]
  have hall : RepL (cx ⟨w, [g], ok, [.slice (some ⟨g, 0, none⟩) n cap]⟩ 1 (fun _ => some g) [(0, .row E c0)] w) (pre.map AV.c ++ .own 0 0 n size true :: args.map AV.c) (ps ++ .slice (some ⟨g, 0, none⟩) n cap :: vs) :=
    RepL.append (RepL.ofC (RepCs.mono (fun b hb hl => ⟨hok b hb, hl, rfl⟩) _ _ hps)) ⟨_, _, rfl, ⟨Nat.zero_lt_one, .inr (.inl ⟨g, cap, rfl, rfl, hncap, hcap, fun _ => ⟨E, hshape⟩⟩)⟩, RepL.ofC (RepCs.mono (fun b hb hl => ⟨hok b hb, hl, rfl⟩) _ _ hvs)⟩
  have hcc : ConcH ⟨w, [g], ok, [.slice (some ⟨g, 0, none⟩) n cap]⟩ (lt 1) (fun _ => some g) (lk [(0, .row E c0)]) w := by
    refine ⟨FrB.refl _ _, fun id o hid hH => ?_, fun id id' o o' g' h1 h2 _ _ _ _ => by simp only [lt] at h1 h2; omega, fun id o g' _ _ he => .inr (by injection he with he; simp [he])⟩
    have hid : id < 1 := hid
    obtain rfl : id = 0 := by omega
    have : some (AObj.row E c0) = some o := hH
    injection this with this
    subst this
    exact .inr ⟨g, us0, vs0, rfl, hb0, RepCs.mono (fun b hb hl => ⟨hok b hb, hl, rfl⟩) _ _ hc0, hone0⟩
  refine calls_of_wpM hf hb (wp_mono (wpg_plain (hx ⟨w, [g], ok, [.slice (some ⟨g, 0, none⟩) n cap]⟩ _ w ⟨fun _ => some g, hcc, ?_, ?_, ?_⟩)) ?_)
  · simp; omega
  · intro t av ht
    obtain ⟨h1, h2⟩ := enumA_get ht
    rw [Nat.sub_zero] at h2
    obtain ⟨u, hu, hru⟩ := hall.get h2
    have : ((ps ++ Value.slice (some ⟨g, 0, none⟩) n cap :: vs).toArray ++ Array.replicate (fn.ntmps - (ps ++ Value.slice (some ⟨g, 0, none⟩) n cap :: vs).toArray.size) undef).getD t undef = u := by
      have hlt := (List.getElem?_eq_some_iff.1 hu).1
      rw [Array.getD_eq_getD_getElem?, Array.getElem?_append_left (by simpa using hlt)]
      rw [List.getElem?_toArray, hu]
      rfl
    rw [this]
    exact hru
  · exact ⟨⟨_, _, rfl, ⟨Nat.zero_lt_one, .inr (.inl ⟨g, cap, rfl, rfl, hncap, hcap, fun _ => ⟨E, hshape⟩⟩)⟩, rfl⟩, rfl⟩
  · intro e a w' hq
    obtain ⟨k, env, h, dfs, ⟨h1, h2, h3, h4, c', fl, h5, h7, h6⟩, M, d1, d2, d3, d4⟩ := hq
    have : LeavesM P fn a.tmps (fun e w' => ∃ v us1 vs1, e = .returned v ∧ FrB w [g] w' ∧ w'.heap[g]? = some (.cells (us1 ++ vs1).toArray E (0, 0)) ∧ us1.length + vs1.length = cap * size ∧ RepCs (okg ok w g) w' c1 us1 ∧ (∀ u ∈ us1, u.oneCell' = true) ∧ ∀ (C : Cx) (id : Nat), C.dom id → C.M id = some g → Rep C (.own id 0 m size false) v) a.defers w' := by
      refine leaves_idle h2 d1 d4 fun w2 g1 g2 => ?_
      obtain ⟨u, k1, k2⟩ := h6.run tb g1 (fun t av ht => Rep.ext g2 _ _ (d3 t av ht))
      have hfr := RepL.ext g2 _ _ (framM_rep h3 d4)
      simp only [RepL, Rep] at hfr
      obtain ⟨u0, us', e1, ⟨hn, hfr⟩, _⟩ := hfr
      injection e1 with e1 e3
      rw [← e1] at hfr
      rcases hfr with ⟨q1, _⟩ | ⟨g', cap', hM, e2, _, _, hfull⟩ | ⟨q1, _⟩
      · omega
      · injection e2 with e2 e5 e6
        injection e2 with e2
        injection e2 with e2 e4
        subst e2 e6
        obtain ⟨us1, vs1, hb1, hr1, hone1⟩ := obj_row (fun id o h _ => h) g1 h5 (show lt k 0 from h4) hM
        have hl1 : us1.length + vs1.length = cap * size := by
          obtain ⟨e, hsh⟩ := hfull trivial
          unfold World.shape? at hsh
          simp only [cx] at hsh
          rw [hb1] at hsh
          simp only [Option.some.injEq, Prod.mk.injEq, List.size_toArray, List.length_append] at hsh
          omega
        refine ⟨u, k2, u, us1.take (m * size), us1.drop (m * size) ++ vs1, rfl, g1.fr, by rw [← List.append_assoc, List.take_append_drop]; exact hb1, by rw [List.length_append, List.length_take, List.length_drop]; omega, ?_, fun x hx => hone1 x (List.mem_of_mem_take hx), fun C id hd hM' => ?_⟩
        · rw [← h7]
          refine RepCs.take _ (RepCs.mono (fun b hb hl => ⟨⟨?_, fun e => ?_⟩, hl, rfl⟩) _ _ hr1)
          · rcases hb.1 with k1 | k1 | k1
            · exact .inl k1
            · exact .inr k1
            · obtain rfl : b = g := by simpa using k1
              exact absurd hM (hb.2 0 _ h4 h5)
          · subst e; exact absurd hM (hb.2 0 _ h4 h5)
        · simp only [Rep, cx] at k1 ⊢
          refine ⟨hd, ?_⟩
          obtain ⟨_, ⟨p1, p2, p3, p4⟩ | ⟨g2', cp, p1, p2, p3, p4, p5⟩ | ⟨p1, p2, A, cp, p3, p4⟩⟩ := k1
          · have hM2 : M 0 = some g := hM
            rw [hM2] at p3; cases p3
          · have hM2 : M 0 = some g := hM
            rw [hM2] at p1
            injection p1 with p1
            subst p1
            exact .inr (.inl ⟨g, cp, hM', p2, p3, p4, fun h => by cases h⟩)
          · exact .inr (.inr ⟨p1, trivial, A, cp, p3, p4⟩)
      · omega
    rcases h1 with rfl | rfl <;> exact this
end enter
end Go.Av
namespace Go.Av
open Go Go.RowKit
theorem setCells_row (g : Nat) (T : TypeId) : ∀ (vs : List Value) (o : Nat) (w : World) (cur : List Value), w.heap[g]? = some (.cells cur.toArray T (0, 0)) →
    ∃ cur' : List Value, cur'.length = cur.length ∧ cur'.take o = cur.take o ∧ w.setCells g o vs = w.setRow g cur'.toArray
  | [], o, w, cur, h => ⟨cur, rfl, rfl, (setRow_self w g _ T _ h).symm⟩
  | v :: vs, o, w, cur, h => by
    have h1 := setCell_eq_setRow w g o cur.toArray T (0, 0) v h
    rw [List.setIfInBounds_toArray] at h1
    have h2 := setRow_heap w g cur.toArray (cur.set o v).toArray T (0, 0) h
    obtain ⟨c, c1, c2, c3⟩ := setCells_row g T vs (o + 1) (w.setRow g (cur.set o v).toArray) (cur.set o v) h2
    refine ⟨c, by rw [c1, List.length_set], ?_, ?_⟩
    · have := congrArg (List.take o) c2
      rw [List.take_take, List.take_take, Nat.min_eq_left (by omega), List.take_set_of_le (Nat.le_refl _)] at this
      exact this
    · show (w.setCell ⟨g, o, none⟩ v).setCells g (o + 1) vs = _
      rw [h1, c3, setRow_setRow]
theorem exec_clear {P : Program} {T ty : TypeId} {pos : String} {aft : Array Edge} {gd : Option (Nat × Bool)} {x : Operand} {w w' : World} (ρ : Operand → Value) {v : Value} (hr : (Builtin.clear_ #[T] ty #[ρ x]).run P w = .ok v w') : (execOp ρ ⟨none, .call ⟨.builtin .clear, #[x], #[T]⟩, ty, pos, aft, gd⟩).run P w = .ok (.value v) w' := by
  simp only [execOp, resolve, invoke, builtin, Sem.run_bind, Sem.run_pure, Result.andThen_ok, List.map_toArray, List.map_cons, List.map_nil, hr]
theorem run_clear_cells {P : Program} (w : World) (t e ty : TypeId) (z zv : Value) (ht : P.underlying t = some (.slice e)) (hv : ∀ w, (zeroValue e).run P w = .ok zv w) (hz : zv.cells = #[z]) (h1 : z.oneCell' = true) (b o n c : Nat) (hn : 0 < n)
    (hc : ∀ j, j < n → (w.cell? ⟨b, o + j, none⟩).isSome = true) (hf : ∀ j, j < n → w.frozen? ⟨b, o + j, none⟩ = false) :
    (Builtin.clear_ #[t] ty #[.slice (some ⟨b, o, none⟩) n c]).run P w = .ok (.tuple #[]) (w.setCells b o (List.replicate n z)) := by
  have hzc : (Builtin.zeroCells zv.cells n).toList = List.replicate n z := by
    rw [hz]
    simp [Builtin.zeroCells]
    apply List.ext_getElem
    · simp
    · intro i h1 h2
      simp [Nat.mod_one]
  have hst := run_storeCells_cells (P := P) b o (List.replicate n z) 0 w (by simpa using hc) (by simpa using hf) (by intro v hv'; rw [List.eq_of_mem_replicate hv']; exact h1)
  simp only [Nat.add_zero] at hst
  obtain ⟨m, rfl⟩ : ∃ m, n = m + 1 := ⟨n - 1, by omega⟩
  simp [Builtin.clear_, run_underlying ht, hv, hzc, hst]
section
variable {P : Program} {tab : Tab} {sz n : Nat} {env : Env} {h : Heap} {dfs : Defs} {K : AK} {ops : Array Oper} {rest : List Oper} {ty T : TypeId} {pos : String} {aft : Array Edge} {gd : Option (Nat × Bool)} {x : Operand}
theorem awl_clear (tb : TabOk P tab) {e e' : TyE} {E T' : TypeId} {z : Value} (hg : guardA ops env ⟨none, .call ⟨.builtin .clear, #[x], #[T]⟩, ty, pos, aft, gd⟩ true) (hT : tyLook tab T = some e) (hk : e.kind = .slice E) (hE : tyLook tab E = some e') (hz : e'.zero = [z]) (h1 : z.oneCell' = true)
    {id off m : Nat} {full : Bool} {cs : List CV} (hx : evA env x = some (.own id off m 1 full)) (ho : lk h id = some (.row T' cs)) (hm : 0 < m) (hfit : off + m ≤ cs.length)
    (next : AWL P ops sz rest K n env ((id, .row T' (cs.take off)) :: h) dfs) : AWL P ops sz (⟨none, .call ⟨.builtin .clear, #[x], #[T]⟩, ty, pos, aft, gd⟩ :: rest) K n env h dfs := by
  intro B a w hc
  obtain ⟨M, c1, c2, c3, c4⟩ := hc
  refine wplg_step fun K' hK' => ?_
  rw [if_pos (hg.wanted c3)]
  have hp := rep_eval c3 x _ hx
  simp only [Rep] at hp
  obtain ⟨hid, ⟨q1, _⟩ | ⟨g, cp, hM, hp, hmc, hcp, _⟩ | ⟨q1, _⟩⟩ := hp
  · omega
  · obtain ⟨us, vs, hb, hus, hone⟩ := obj_row (fun id o h _ => h) c1 ho hid hM
    have hul := hus.length
    obtain ⟨i, hi, _, _, zv, hzv, hzz⟩ := (tyLook_ok tb hE).parts
    have hzeq : zv.cells = #[z] := by
      rw [hz] at hzz
      exact Array.toList_inj.1 hzz
    have hv : ∀ w, (zeroValue E).run P w = .ok zv w := fun w => by
      simp only [zeroValue, typeInfo, Sem.run_bind, run_program, Result.andThen_ok, hi, Sem.run_pure, hzv]
    have hcell : ∀ j, j < m → (w.cell? ⟨g, off + j, none⟩).isSome = true := fun j hj => by
      rw [cell_blk hb, List.getElem?_append_left (by omega), List.getElem?_eq_getElem (by omega)]; rfl
    have hfr : ∀ j, j < m → w.frozen? ⟨g, off + j, none⟩ = false := fun j hj => by
      unfold World.frozen?
      rw [hb]
      simp
    have hrun := run_clear_cells (P := P) w T E ty z zv ((tyLook_ok tb hT).slice hk) hv hzeq h1 g off m cp hm hcell hfr
    obtain ⟨cur, l1, l2, l3⟩ := setCells_row g T' (List.replicate m z) off w (us ++ vs) hb
    rw [l3] at hrun
    rw [List.take_append_of_le_length (by omega)] at l2
    have hcur : cur = us.take off ++ cur.drop off := by rw [← l2, List.take_append_drop]
    unfold Oper.wp
    have hx' := exec_clear (P := P) (T := T) (ty := ty) (pos := pos) (aft := aft) (gd := gd) (x := x) (w := w) a.eval (v := .tuple #[]) (by rw [hp]; exact hrun)
    simp only [hx']
    obtain ⟨k1, k2⟩ := c1.turn (o' := .row T' (cs.take off)) (w' := w.setRow g cur.toArray) rfl hid ho hM rfl rfl rfl (by simp) (fun k hk => setRow_other w g k _ hk) (shape_setRow hb (by simp [l1]))
      (fun hext => .inr ⟨g, us.take off, cur.drop off, rfl, by rw [← hcur]; exact setRow_heap w g _ _ T' _ hb, RepCs.mono hext.ok _ _ (RepCs.take off hus), fun u hu => hone u (List.mem_of_mem_take hu)⟩)
    simp only [Oper.upon, Act.put]
    exact hK' _ _ (next B _ _ ⟨M, k1, c2, fun t av ht => Rep.ext k2 _ _ (c3 t av ht), c4.ext k2⟩)
  · omega
end
section
variable {P : Program} {tab : Tab} {ev : Evl} {h : Heap} {d : Option Tmp} {T T' ty : TypeId} {x y : Operand} {pos : String} {aft : Array Edge} {gd : Option (Nat × Bool)}
theorem s_eqnilV (tb : TabOk P tab) {e : TyE} {E n c : Nat} {A : Option Addr} (hT : tyLook tab T = some e) (hk : e.kind = .slice E) (hx : ev x = some (.c (.v (.slice A n c)))) (hy : ev y = some (.c (.v (.slice none 0 0)))) : Still P ⟨d, .binOp .eql T x y T', ty, pos, aft, gd⟩ ev h (.c (.v (.bool A.isNone))) := by
  intro B dom M H w a hh hc he
  have h1 := he x _ hx
  have h2 := he y _ hy
  simp only [Rep, RepC] at h1 h2
  refine ⟨.bool A.isNone, ?_, rfl⟩
  have hr := run_equal_slice_nil (P := P) w T E A n c ((tyLook_ok tb hT).slice hk)
  simp [execOp, h1, h2, eqGuard, binOp, hr]
end
end Go.Av
namespace Go.Proofs.Ytccnhpaldmjkbaa
open Go.Shelf Go.Proofs
def Try.srtI_ren : Go.Shelf.Ren := ⟨fun | 5 => 130 | 8 => 108 | 7 => 157 | 19 => 146 | 20 => 147 | 10 => 177 | 11 => 178 | 12 => 179 | 13 => 180 | 14 => 181 | 15 => 182 | 16 => 183 | 17 => 184 | 18 => 185 | 30 => 191 | 31 => 169 | 32 => 170 | 33 => 192 | 34 => 193 | 35 => 189 | 40 => 195 | n => n, fun | 23 => 62 | 25 => 2 | 3 => 3 | 32 => 86 | 22 => 62 | 0 => 0 | 44 => 157 | 46 => 56 | 4 => 4 | 36 => 150 | 35 => 149 | 41 => 116 | 5 => 5 | 9 => 9 | 53 => 170 | 57 => 174 | 63 => 186 | 64 => 187 | n => n, fun | n => n⟩
def Try.srtS_ren : Go.Shelf.Ren := ⟨fun | 6 => 51 | 8 => 108 | 9 => 107 | 19 => 146 | 20 => 147 | 21 => 137 | 22 => 138 | 23 => 139 | 24 => 140 | 25 => 141 | 26 => 142 | 27 => 143 | 28 => 144 | 29 => 145 | 36 => 168 | 31 => 169 | 32 => 170 | 37 => 171 | 38 => 172 | 39 => 173 | 41 => 190 | n => n, fun | 27 => 24 | 29 => 9 | 3 => 3 | 32 => 86 | 26 => 24 | 0 => 0 | 44 => 157 | 46 => 56 | 4 => 4 | 36 => 150 | 35 => 149 | 41 => 116 | 5 => 5 | 9 => 9 | 53 => 170 | 57 => 174 | 63 => 186 | 64 => 187 | n => n, fun | n => n⟩
end Go.Proofs.Ytccnhpaldmjkbaa
namespace Go.Av
open Go Go.RowKit Go.Sort
theorem acs_sort {P : Program} {f : FuncId} {E : TypeId} {α : Type} [Inhabited α] (enc : α → Value) (h1 : ∀ x, (enc x).oneCell' = true) (l l' : List α) (n : Nat) (hn : l.length = n) (hn' : l'.length = n)
    (hc : ∀ (blk cap : Nat) (w : World), Holds enc w blk 0 l.toArray → blk < w.heap.size → Calls P f #[.slice (some ⟨blk, 0, none⟩) n cap] w fun e w' => e = .returned (.tuple #[]) ∧ ∃ k os, w' = grow (putRow enc (Sort.ahead w k) blk 0 l'.toArray) os) :
    ACS P f E 1 n (l.map fun x => CV.v (enc x)) [] (l'.map fun x => CV.v (enc x)) (.tup []) := by
  intro ok w g cap us0 vs0 vs hng hb0 hc0 hone hncap hcap hlen hvs
  have hvs' : vs = [] := by simpa [RepCs] using hvs
  subst hvs'
  have hus : us0 = l.map enc := RepCs.of_plain (vs := l.map enc) (by rw [List.map_map]; exact hc0)
  subst hus
  have hgs := lt_of_block hb0
  have hH : Holds enc w g 0 l.toArray := fun j hj => by
    have hj' : j < l.length := by simpa using hj
    have e1 : (l.toArray)[j]! = l[j] := by
      rw [getElem!_pos _ j hj]; simp
    have e2 : (l.map enc ++ vs0)[0 + j]? = some (enc l[j]) := by
      rw [Nat.zero_add, List.getElem?_append_left (by simpa using hj')]
      simp [hj']
    constructor
    · unfold World.cell?
      rw [hb0]
      simp only [e1]
      simpa using e2
    · unfold World.frozen?
      rw [hb0]
      simp
  refine (hc g cap w hH hgs).mono ?_
  rintro e w' ⟨rfl, k, os, rfl⟩
  refine ⟨_, l'.map enc, vs0, rfl, ⟨rfl, rfl, rfl, ?_, fun b hb hbg => ?_⟩, ?_, ?_, ?_, ?_, fun C => ?_⟩
  · rw [size_grow]
    show w.heap.size ≤ (w.heap.modify g _).size + os.size
    rw [Array.size_modify]; omega
  · have hbg' : g ≠ b := fun e => hbg (by simp [e])
    rw [heap_grow_old _ _ (by show b < (w.heap.modify g _).size; rw [Array.size_modify]; exact hb)]
    show (w.heap.modify g _)[b]? = _
    rw [Array.getElem?_modify, if_neg hbg']
  · rw [heap_grow_old _ _ (by show g < (w.heap.modify g _).size; rw [Array.size_modify]; exact hgs)]
    show (w.heap.modify g _)[g]? = _
    rw [Array.getElem?_modify, if_pos rfl, hb0]
    simp only [Option.map_some, onCells]
    congr 2
    refine Array.ext_getElem? fun j => ?_
    simp only [putCells, Array.getElem?_mapIdx, List.getElem?_toArray, List.size_toArray, Nat.zero_le, true_and, Nat.zero_add, Nat.sub_zero]
    by_cases hj : j < n
    · rw [List.getElem?_append_left (by simp; omega), List.getElem?_append_left (by simp; omega)]
      have e1 : (l'.toArray)[j]! = l'[j]'(by omega) := by
        rw [getElem!_pos _ j (by simp; omega)]; simp
      have e2 : l[j]? = some (l[j]'(by omega)) := List.getElem?_eq_getElem _
      have e3 : l'[j]? = some (l'[j]'(by omega)) := List.getElem?_eq_getElem _
      rw [List.getElem?_map, List.getElem?_map, e2, e3]
      simp only [Option.map_some]
      rw [if_pos (by omega), e1]
    · rw [List.getElem?_append_right (by simp; omega), List.getElem?_append_right (by simp; omega)]
      simp only [List.length_map, hn, hn']
      cases vs0[j - n]? with
      | none => rfl
      | some x => simp only [Option.map_some]; rw [if_neg (by omega)]
  · simp only [List.length_map] at hlen ⊢
    omega
  · have := RepCs.plain (ok := okg ok w g) (w := grow (putRow enc (Sort.ahead w k) g 0 l'.toArray) os) (l'.map enc)
    rw [List.map_map] at this
    exact this
  · intro u hu
    obtain ⟨x, _, rfl⟩ := List.mem_map.1 hu
    exact h1 x
  · exact ⟨[], rfl, rfl⟩
end Go.Av
namespace Go.Proofs.Ytccnhpaldmjkbaa
open Go Go.RowKit Go.Av Go.Sort
end Go.Proofs.Ytccnhpaldmjkbaa
