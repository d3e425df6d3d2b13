/-
  Joined texts: AvNb AvMp AvTb AvKs LyT KS I0 I1. Lemmas; no statement of a law.
-/
import Derived.MapKept
import Derived.Maps.Own
import Derived.Sort.KeysCollected
import Derived.Shelf.SlIter.Nil
import Derived.Shelf.SortM.Plain
import Derived.Shelf.SortM.SortNone
import Derived.Test.YtccnhpaldmjkbaaGreatProg
import Derived.Sort.Walk0
import Derived.Test.YtccnhpaldmjkbaaGreatQ5
set_option maxHeartbeats 16000000
set_option linter.unusedSimpArgs false
set_option linter.unusedVariables false
namespace Go.Av
open Go Go.RowKit
theorem uJ {n id j size : Nat} {T : TypeId} {cs cs' : List AV} {env : Env} {h : Heap} {dfs : Defs} (T' : TypeId) (ho : lk h id = some (.blk T cs)) (hid : Nat.blt id n = true) (hx : cs[j]? = some (.c (.v (.slice none 0 0)))) (hcs : cs.set j (.own n 0 0 size true) = cs') : Weak n env h dfs (n + 1) env ((id, .blk T cs') :: (n, .row T' []) :: h) dfs := by
  intro B sz a w hc
  subst hcs
  obtain ⟨M, c1, c2, c3, c4⟩ := hc
  have hidn : id < n := by simpa using hid
  let h1 : Heap := (n, .row T' []) :: h
  have e1 : ∀ k, k < n → lk h1 k = lk h k := fun k hk => by simp only [h1]; rw [bD, if_neg (by omega)]
  have e2 : lk h1 n = some (.row T' []) := by simp only [h1]; rw [bD, if_pos rfl]; rfl
  have eok : okOf B (lt n) M (lk h1) = okOf B (lt n) M (lk h) := by
    funext b
    unfold okOf
    simp only [eq_iff_iff]
    exact and_congr Iff.rfl ⟨fun hk id o hid hH => hk id o hid (by rw [e1 id hid]; exact hH), fun hk id o hid hH => hk id o hid (by rw [← e1 id hid]; exact hH)⟩
  have h1' : ConcH B (lt n) M (lk h1) w := by
    refine ⟨c1.fr, fun id o hid hH => ?_, fun id id' o o' g k1 k2 k3 k4 => c1.inj id id' o o' g k1 k2 (by rw [← e1 id k1]; exact k3) (by rw [← e1 id' k2]; exact k4), fun id o g k1 k2 => c1.lo id o g k1 (by rw [← e1 id k1]; exact k2)⟩
    rw [eok]
    exact c1.obj id o hid (by rw [← e1 id hid]; exact hH)
  let M' : Nat → Option Nat := fun id => if id = n then none else M id
  have hMn : M' n = none := by simp [M']
  have hg := h1'.grow (Below.refl w.heap.size w) n (n + 1) (M' := M') (fun id hid => by
      have : ¬ id = n := by simp only [lt] at hid; omega
      simp [M', this]) (fun id k1 k2 => by simp only [lt]; omega)
    (fun id o k1 k2 k3 g hg => by obtain rfl : id = n := by omega
                                  rw [hMn] at hg; cases hg)
    (fun id id' o o' g k1 k2 k3 k4 _ _ _ _ => by omega)
    (fun hext id o k1 k2 k3 => by
      obtain rfl : id = n := by omega
      rw [e2] at k3
      injection k3 with k3
      subst k3
      exact .inl ⟨hMn, rfl⟩)
  rw [wB (Nat.le_succ n)] at hg
  obtain ⟨g1, g2⟩ := hg
  have hext : Ext (cx B n M h w) (cx B (n + 1) M' h1 w) := by
    rw [eok] at g2
    exact g2
  -- the block's cell is read as an own row
  have ho1 : lk h1 id = some (.blk T cs) := (e1 id hidn).trans ho
  have e3 : ∀ k, (lk ((id, AObj.blk T (cs.set j (.own n 0 0 size true))) :: h1) k).isSome = (lk h1 k).isSome := fun k => by
    rw [bD]
    split
    · rename_i e; subst e; rw [ho1]; rfl
    · rfl
  have eok2 : okOf B (lt (n + 1)) M' (lk ((id, AObj.blk T (cs.set j (.own n 0 0 size true))) :: h1)) = okOf B (lt (n + 1)) M' (lk h1) := by
    funext b
    unfold okOf
    simp only [eq_iff_iff]
    refine and_congr Iff.rfl ⟨fun hk k o hid hH => ?_, fun hk k o hid hH => ?_⟩
    · have := e3 k
      rw [hH] at this
      obtain ⟨o', ho'⟩ := Option.isSome_iff_exists.1 this
      exact hk k o' hid ho'
    · have := e3 k
      rw [hH] at this
      obtain ⟨o', ho'⟩ := Option.isSome_iff_exists.1 this.symm
      exact hk k o' hid ho'
  have hcx : cx B (n + 1) M' ((id, AObj.blk T (cs.set j (.own n 0 0 size true))) :: h1) w = cx B (n + 1) M' h1 w := by
    unfold cx; rw [eok2]
  refine ⟨M', ⟨g1.fr, fun k o hid hH => ?_, fun k k' o o' g q1 q2 q3 q4 => ?_, fun k o g q1 q2 => ?_⟩, c2, fun k av hk => ?_, ?_⟩
  · show ObjRep (cx B (n + 1) M' ((id, AObj.blk T (cs.set j (.own n 0 0 size true))) :: h1) w) _ _
    rw [hcx]
    rw [bD] at hH
    split at hH
    · rename_i e
      subst e
      injection hH with hH
      subst hH
      obtain ⟨g, us, f1, f2, f3⟩ := g1.obj id _ (by simp only [lt]; omega) ho1
      refine ⟨g, us, f1, f2, ?_⟩
      obtain ⟨u, hu, hru⟩ := f3.get hx
      have hu0 : u = .slice none 0 0 := by simpa only [Rep, RepC] using hru
      have := f3.set j (c := .own n 0 0 size true) (u := u) (by
        subst hu0
        exact ⟨Nat.lt_succ_self n, .inl ⟨rfl, rfl, hMn, rfl⟩⟩)
      have e : us.set j u = us := by
        apply List.ext_getElem?
        intro q
        rw [List.getElem?_set]
        split
        · rename_i e
          subst e
          rw [hu]
          split
          · rfl
          · rename_i hlt
            exact absurd (List.getElem?_eq_some_iff.1 hu).1 hlt
        · rfl
      rw [e] at this
      exact this
    · exact g1.obj k o hid hH
  · have k3 := e3 k
    have k4 := e3 k'
    rw [q3] at k3
    rw [q4] at k4
    obtain ⟨p, hp⟩ := Option.isSome_iff_exists.1 k3.symm
    obtain ⟨p', hp'⟩ := Option.isSome_iff_exists.1 k4.symm
    exact g1.inj k k' p p' g q1 q2 hp hp'
  · have k3 := e3 k
    rw [q2] at k3
    obtain ⟨p, hp⟩ := Option.isSome_iff_exists.1 k3.symm
    exact g1.lo k p g q1 hp
  · show Rep (cx B (n + 1) M' ((id, AObj.blk T (cs.set j (.own n 0 0 size true))) :: h1) w) _ _
    rw [hcx]
    exact Rep.ext hext _ _ (c3 k av hk)
  · show DefRep B.fr (cx B (n + 1) M' ((id, AObj.blk T (cs.set j (.own n 0 0 size true))) :: h1) w) _ _
    rw [hcx]
    exact c4.ext hext
theorem pF {P : Program} {sz n : Nat} {c : Code} {K : AK} {env : Env} {h : Heap} {dfs : Defs} {T : TypeId} {cs cs' : List AV} (id j : Nat) (T' : TypeId) (size : Nat) (ho : lk h id = some (.blk T cs)) (hid : Nat.blt id n = true) (hx : cs[j]? = some (.c (.v (.slice none 0 0)))) (hcs : cs.set j (.own n 0 0 size true) = cs') (next : AW P sz c K (n + 1) env ((id, .blk T cs') :: (n, .row T' []) :: h) dfs) : AW P sz c K n env h dfs := fQ (uJ T' ho hid hx hcs) next
theorem xQ {n id : Nat} {T : TypeId} {cs cs' : List CV} {env : Env} {h : Heap} {dfs : Defs} (k : Nat) (ho : lk h id = some (.row T cs)) (hcs : cs.take k = cs') : Weak n env h dfs n env ((id, .row T cs') :: h) dfs := by
  intro B sz a w hc
  subst hcs
  obtain ⟨M, c1, c2, c3, c4⟩ := hc
  have e3 : ∀ k', (lk ((id, AObj.row T (cs.take k)) :: h) k').isSome = (lk h k').isSome := fun k' => by
    rw [bD]
    split
    · rename_i e; subst e; rw [ho]; rfl
    · rfl
  have eok2 : okOf B (lt n) M (lk ((id, AObj.row T (cs.take k)) :: h)) = okOf B (lt n) M (lk h) := by
    funext b
    unfold okOf
    simp only [eq_iff_iff]
    refine and_congr Iff.rfl ⟨fun hk k o hid hH => ?_, fun hk k o hid hH => ?_⟩
    · have := e3 k
      rw [hH] at this
      obtain ⟨o', ho'⟩ := Option.isSome_iff_exists.1 this
      exact hk k o' hid ho'
    · have := e3 k
      rw [hH] at this
      obtain ⟨o', ho'⟩ := Option.isSome_iff_exists.1 this.symm
      exact hk k o' hid ho'
  have hcx : cx B n M ((id, AObj.row T (cs.take k)) :: h) w = cx B n M h w := by
    unfold cx; rw [eok2]
  refine ⟨M, ⟨c1.fr, fun k' o hid hH => ?_, fun p k' o o' g q1 q2 q3 q4 => ?_, fun p o g q1 q2 => ?_⟩, c2, fun t av hk => ?_, ?_⟩
  · show ObjRep (cx B n M ((id, AObj.row T (cs.take k)) :: h) w) _ _
    rw [hcx]
    rw [bD] at hH
    split at hH
    · rename_i e
      subst e
      injection hH with hH
      subst hH
      rcases c1.obj id _ hid ho with ⟨f1, f2⟩ | ⟨g, us, vs, f1, f2, f3, f4⟩
      · exact .inl ⟨f1, by rw [f2]; simp⟩
      · refine .inr ⟨g, us.take k, us.drop k ++ vs, f1, ?_, f3.take k, fun u hu => f4 u (List.mem_of_mem_take hu)⟩
        rw [← List.append_assoc, List.take_append_drop]
        exact f2
    · exact c1.obj k' o hid hH
  · have k3 := e3 p
    have k4 := e3 k'
    rw [q3] at k3
    rw [q4] at k4
    obtain ⟨x, hx⟩ := Option.isSome_iff_exists.1 k3.symm
    obtain ⟨x', hx'⟩ := Option.isSome_iff_exists.1 k4.symm
    exact c1.inj p k' x x' g q1 q2 hx hx'
  · have k3 := e3 p
    rw [q2] at k3
    obtain ⟨x, hx⟩ := Option.isSome_iff_exists.1 k3.symm
    exact c1.lo p x g q1 hx
  · show Rep (cx B n M ((id, AObj.row T (cs.take k)) :: h) w) _ _
    rw [hcx]
    exact c3 t av hk
  · show DefRep B.fr (cx B n M ((id, AObj.row T (cs.take k)) :: h) w) _ _
    rw [hcx]
    exact c4
theorem eR {n n' N : Nat} {env env' E : Env} {h h' Hp : Heap} {d d' D : Defs} (h1 : Weak n env h d n' env' h' d') (h2 : Weak n' env' h' d' N E Hp D) : Weak n env h d N E Hp D := fun B sz a w hc => h2 B sz a w (h1 B sz a w hc)
def strc (l : List (List UInt8)) : List CV := l.map fun s => .v (.string ⟨s.toArray⟩)
theorem bU (l : List (List UInt8)) : (strc l).length = l.length := by simp [strc]
theorem eF {l : List (List UInt8)} {i : Nat} {x : List UInt8} (h : l[i]? = some x) : (strc l)[i]? = some (.v (.string ⟨x.toArray⟩)) := by simp [strc, h]
theorem strc_set (l : List (List UInt8)) (p : Nat) (x : List UInt8) : strc (l.set p x) = (strc l).set p (.v (.string ⟨x.toArray⟩)) := by simp [strc, List.map_set]
theorem strc_take (l : List (List UInt8)) (p : Nat) : strc (l.take p) = (strc l).take p := by simp [strc, List.map_take]
theorem strc_drop (l : List (List UInt8)) (p : Nat) : strc (l.drop p) = (strc l).drop p := by simp [strc, List.map_drop]
end Go.Av
namespace Go.Av
open Go Go.RowKit Go.MapKept
def isKeyT : TK → Value → Prop
  | .bool, .bool _ => True
  | .int k, .int k' _ => k' = k
  | .str, .string _ => True
  | _, _ => False
theorem cG {d : TypeDesc} {x : Value} (h : isKeyT (tkOf d) x) : IsKey d x := by
  cases d <;> cases x <;> simp_all [isKeyT, IsKey, tkOf]
def KeysOk (t : TK) (es : List (CV × AV)) : Prop := ∀ p ∈ es, ∃ x, p.1 = .v x ∧ isKeyT t x
def MAt (k : Value) (v : AV) : List (CV × AV) → Nat → Prop
  | [], _ => False
  | e :: _, 0 => e.1 = .v k ∧ e.2 = v
  | e :: es, j + 1 => e.1 ≠ .v k ∧ MAt k v es j
def MNo (k : Value) (es : List (CV × AV)) : Prop := ∀ p ∈ es, p.1 ≠ .v k
theorem oI {C : Cx} {d : TypeDesc} {k : Value} {v : AV} (hk : IsKey d k) : ∀ (es : List (CV × AV)) (ms : List MapEntry) (j i : Nat), RepM C es ms → (∀ p ∈ es, ∃ x, p.1 = .v x ∧ IsKey d x) → MAt k v es j →
    ∃ m, Instr.findNow d k ms i = some (some (i + j, m.val)) ∧ ms[j]? = some m ∧ m.key = k ∧ Rep C v m.val
  | [], _, _, _, _, _, h => h.elim
  | e :: es, ms, 0, i, hr, hks, h => by
    obtain ⟨m, ms', rfl, h1, h2, h3⟩ := hr
    obtain ⟨a1, a2⟩ := h
    rw [a1] at h1
    rw [a2] at h2
    simp only [RepC] at h1
    obtain ⟨r, hs, hiff⟩ := sameNow_of_keys hk (show IsKey d m.key by rw [h1]; exact hk)
    have : r = true := hiff.2 h1.symm
    subst this
    exact ⟨m, by simp [Instr.findNow, hs], rfl, h1, h2⟩
  | e :: es, ms, j + 1, i, hr, hks, h => by
    obtain ⟨m, ms', rfl, h1, h2, h3⟩ := hr
    obtain ⟨a1, a2⟩ := h
    obtain ⟨x, hx, hkx⟩ := hks e (by simp)
    rw [hx] at h1
    simp only [RepC] at h1
    obtain ⟨r, hs, hiff⟩ := sameNow_of_keys hk (show IsKey d m.key by rw [h1]; exact hkx)
    have : r = false := by
      cases r with
      | false => rfl
      | true => exact absurd (by rw [hx, ← h1, hiff.1 rfl]) a1
    subst this
    obtain ⟨m', f1, f2, f3, f4⟩ := oI hk es ms' j (i + 1) h3 (fun p hp => hks p (by simp [hp])) a2
    exact ⟨m', by simp [Instr.findNow, hs, f1]; omega, by simpa using f2, f3, f4⟩
theorem oJ {C : Cx} {d : TypeDesc} {k : Value} (hk : IsKey d k) : ∀ (es : List (CV × AV)) (ms : List MapEntry) (i : Nat), RepM C es ms → (∀ p ∈ es, ∃ x, p.1 = .v x ∧ IsKey d x) → MNo k es → Instr.findNow d k ms i = some none
  | [], ms, i, hr, _, _ => by
    have : ms = [] := hr
    subst this
    rfl
  | e :: es, ms, i, hr, hks, h => by
    obtain ⟨m, ms', rfl, h1, h2, h3⟩ := hr
    obtain ⟨x, hx, hkx⟩ := hks e (by simp)
    rw [hx] at h1
    simp only [RepC] at h1
    obtain ⟨r, hs, hiff⟩ := sameNow_of_keys hk (show IsKey d m.key by rw [h1]; exact hkx)
    have : r = false := by
      cases r with
      | false => rfl
      | true => exact absurd (by rw [hx, ← h1, hiff.1 rfl]) (h e (by simp))
    subst this
    simp [Instr.findNow, hs, oJ hk es ms' (i + 1) h3 (fun p hp => hks p (by simp [hp])) (fun p hp => h p (by simp [hp]))]
theorem no_key {C : Cx} {k : Value} : ∀ (es : List (CV × AV)) (ms : List MapEntry), RepM C es ms → (∀ p ∈ es, ∃ x, p.1 = .v x) → MNo k es → ∀ x ∈ ms, x.key ≠ k
  | [], ms, h, _, _, x, hx => by
    have : ms = [] := h
    subst this; cases hx
  | e :: es, ms, h, hks, hm, x, hx => by
    obtain ⟨m, ms', rfl, h1, h2, h3⟩ := h
    rcases List.mem_cons.1 hx with rfl | hx
    · intro he
      obtain ⟨y, hy⟩ := hks e (by simp)
      rw [hy] at h1
      simp only [RepC] at h1
      exact hm e (by simp) (by rw [hy, ← h1, he])
    · exact no_key es ms' h3 (fun p hp => hks p (by simp [hp])) (fun p hp => hm p (by simp [hp])) x hx
theorem RepM.length {C : Cx} : ∀ {es : List (CV × AV)} {ms : List MapEntry}, RepM C es ms → ms.length = es.length
  | [], ms, h => by
    have : ms = [] := h
    subst this; rfl
  | e :: es, ms, h => by
    obtain ⟨m, ms', rfl, _, _, h3⟩ := h
    rw [List.length_cons, List.length_cons, RepM.length h3]
theorem RepM.push {C : Cx} {a : CV} {b : AV} {m : MapEntry} (ha : RepC C.ok C.w a m.key) (hb : Rep C b m.val) : ∀ {es : List (CV × AV)} {ms : List MapEntry}, RepM C es ms → RepM C (es ++ [(a, b)]) (ms ++ [m])
  | [], ms, h => by
    have : ms = [] := h
    subst this
    exact ⟨m, [], rfl, ha, hb, rfl⟩
  | e :: es, ms, h => by
    obtain ⟨m', ms', rfl, h1, h2, h3⟩ := h
    exact ⟨m', ms' ++ [m], rfl, h1, h2, RepM.push ha hb h3⟩
theorem RepM.set {C : Cx} {a : CV} {b : AV} {m : MapEntry} (ha : RepC C.ok C.w a m.key) (hb : Rep C b m.val) : ∀ {es : List (CV × AV)} {ms : List MapEntry} (j : Nat), RepM C es ms → RepM C (es.set j (a, b)) (ms.set j m)
  | [], ms, j, h => by
    have : ms = [] := h
    subst this
    cases j <;> rfl
  | e :: es, ms, 0, h => by
    obtain ⟨m', ms', rfl, h1, h2, h3⟩ := h
    exact ⟨m, ms', rfl, ha, hb, h3⟩
  | e :: es, ms, j + 1, h => by
    obtain ⟨m', ms', rfl, h1, h2, h3⟩ := h
    exact ⟨m', ms'.set j m, rfl, h1, h2, RepM.set ha hb j h3⟩
theorem TyOk.mapK {P : Program} {t : TypeId} {e : TyE} (h : TyOk P t e) {k x : TypeId} (hk : e.kind = .map k x) : P.underlying t = some (.map k x) := by
  obtain ⟨d, hd, hk'⟩ := h.und
  rw [hk] at hk'
  cases d <;> simp [tkOf] at hk'
  obtain ⟨rfl, rfl⟩ := hk'; exact hd
section
variable {P : Program} {tab : Tab} {ev : Evl} {h : Heap} {d : Option Tmp} {T ty : TypeId} {x y z : Operand} {pos : String} {aft : Array Edge} {gd : Option (Nat × Bool)} {i id : Nat} {es : List (CV × AV)}
theorem gS {B : Bs} {dom : Nat → Prop} {M : Nat → Option Nat} {H : Nat → Option AObj} {w : World} {g : Nat} (hh : ∀ id o, lk h id = some o → dom id → H id = some o) (hc : ConcH B dom M H w) (ho : lk h id = some (.tab es)) (hd : dom id) (hM : M id = some g) : ∃ ms t, w.heap[g]? = some (.map ms t) ∧ Stamped ms t ∧ RepM ⟨dom, M, okOf B dom M H, w⟩ es ms.toList := by
  obtain ⟨k, ms, t, e1, hb, hs, hr⟩ := hc.obj id _ hd (hh id _ ho hd)
  rw [hM] at e1
  injection e1 with e1
  subst e1
  exact ⟨ms, t, hb, hs, hr⟩
theorem mS {r : Option Operand} (hr : r = none) : Adds P ⟨d, .makeMap T r, ty, pos, aft, gd⟩ ev h (.mh i) [(i, .tab [])] i (i + 1) := by
  subst hr
  refine iA rfl fun B dom M H w a hh hc he => ⟨.map (some w.heap.size), w.alloc (.map #[] 0), some w.heap.size, by simp [execOp, Instr.makeMap, newObj, Sem.run, Result.andThen], eU _ _, fun g hg => by injection hg with hg; omega, fun C hext hw hd hM => ⟨⟨w.heap.size, #[], 0, rfl, ?_, stamped_empty 0, rfl⟩, hd, w.heap.size, hM, rfl⟩⟩
  rw [hw]; exact heap_alloc_new w _
theorem mJ {e ek : TyE} {K E : TypeId} {j : Nat} {k : Value} {v : AV} (tb : TabOk P tab) (hT : tyLook tab T = some e) (hk : e.kind = .map K E) (hK : tyLook tab K = some ek) (hx : ev x = some (.mh id)) (ho : lk h id = some (.tab es)) (hy : ev y = some (.c (.v k))) (hkk : isKeyT ek.kind k) (hks : KeysOk ek.kind es) (hm : MAt k v es j) : Still P ⟨d, .lookup T x y false, ty, pos, aft, gd⟩ ev h v := by
  intro B dom M H w a hh hc he
  have h1 := he x _ hx
  have h2 := he y _ hy
  simp only [Rep, RepC] at h1 h2
  obtain ⟨hid, g, hM, hp⟩ := h1
  obtain ⟨ms, t, hb, hs, hr⟩ := gS hh hc ho hid hM
  obtain ⟨dk, hd, hdk⟩ := (aS tb hK).und
  rw [← hdk] at hkk hks
  obtain ⟨m, f1, f2, f3, f4⟩ := oI (cG hkk) es ms.toList j 0 hr (fun p hp => let ⟨x, e1, e2⟩ := hks p hp; ⟨x, e1, cG e2⟩) hm
  have hck := run_checkKey (w := w) hd (cG hkk) ms.isEmpty 9999
  refine ⟨m.val, ?_, f4⟩
  simp [execOp, Instr.lookup, hp, h2, run_underlying ((aS tb hT).mapK hk), Go.MapKept.run_getObj_map hb, hck, run_findKey hd f1]
theorem sM {e ek : TyE} {K E : TypeId} {j : Nat} {k : Value} {v : AV} (tb : TabOk P tab) (hT : tyLook tab T = some e) (hk : e.kind = .map K E) (hK : tyLook tab K = some ek) (hx : ev x = some (.mh id)) (ho : lk h id = some (.tab es)) (hy : ev y = some (.c (.v k))) (hkk : isKeyT ek.kind k) (hks : KeysOk ek.kind es) (hm : MAt k v es j) : Still P ⟨d, .lookup T x y true, ty, pos, aft, gd⟩ ev h (.tup [v, .c (.v (.bool true))]) := by
  intro B dom M H w a hh hc he
  have h1 := he x _ hx
  have h2 := he y _ hy
  simp only [Rep, RepC] at h1 h2
  obtain ⟨hid, g, hM, hp⟩ := h1
  obtain ⟨ms, t, hb, hs, hr⟩ := gS hh hc ho hid hM
  obtain ⟨dk, hd, hdk⟩ := (aS tb hK).und
  rw [← hdk] at hkk hks
  obtain ⟨m, f1, f2, f3, f4⟩ := oI (cG hkk) es ms.toList j 0 hr (fun p hp => let ⟨x, e1, e2⟩ := hks p hp; ⟨x, e1, cG e2⟩) hm
  have hck := run_checkKey (w := w) hd (cG hkk) ms.isEmpty 9999
  refine ⟨.tuple #[m.val, .bool true], ?_, [m.val, .bool true], rfl, m.val, [.bool true], rfl, f4, .bool true, [], rfl, rfl, rfl⟩
  simp [execOp, Instr.lookup, hp, h2, run_underlying ((aS tb hT).mapK hk), Go.MapKept.run_getObj_map hb, hck, run_findKey hd f1]
theorem tZ {d : TypeDesc} {k : Value} (hk : IsKey d k) (n : Nat) : Instr.sameBits n k k = true := by
  cases d <;> cases k <;> simp_all [IsKey, Instr.sameBits, bytes_beq]
theorem e_mapNew {e ek : TyE} {K E : TypeId} {k : Value} {v : AV} (tb : TabOk P tab) (hT : tyLook tab T = some e) (hk : e.kind = .map K E) (hK : tyLook tab K = some ek) (hx : ev x = some (.mh id)) (ho : lk h id = some (.tab es)) (hy : ev y = some (.c (.v k))) (hz : ev z = some v) (hkk : isKeyT ek.kind k) (hks : KeysOk ek.kind es) (hm : MNo k es) :
    EStep P ⟨none, .mapUpdate T x y z, ty, pos, aft, gd⟩ ev h .junk [] (some (id, some (.tab (es ++ [(.v k, v)])))) i i := by
  intro B dom M H w a K' Q hh hn c1 he hK'
  have h1 := he x _ hx
  have h2 := he y _ hy
  have h3 := he z _ hz
  simp only [Rep, RepC] at h1 h2
  obtain ⟨hid, g, hM, hp⟩ := h1
  obtain ⟨ms, t, hb, hs, hr⟩ := gS hh c1 ho hid hM
  obtain ⟨dk, hd, hdk⟩ := (aS tb hK).und
  rw [← hdk] at hkk hks
  have f1 := oJ (cG hkk) es ms.toList 0 hr (fun p hp => let ⟨x, e1, e2⟩ := hks p hp; ⟨x, e1, cG e2⟩) hm
  have hck := run_checkKey (w := w) hd (cG hkk) false 9999
  have hset := Go.MapKept.run_setObj_map (P := P) (.map (ms.push { key := k, val := a.eval z, born := t }) (t + 1)) hb
  obtain ⟨q1, q2⟩ := heap_set (o' := .map (ms.push { key := k, val := a.eval z, born := t }) (t + 1)) hb
  have hrun : (execOp a.eval ⟨none, .mapUpdate T x y z, ty, pos, aft, gd⟩).run P w = .ok .skip { w with heap := w.heap.setIfInBounds g (.map (ms.push { key := k, val := a.eval z, born := t }) (t + 1)) } := by
    simp [execOp, Instr.mapUpdate, hp, h2, run_underlying ((aS tb hT).mapK hk), Go.MapKept.run_getObj_map hb, hck, run_findKey hd f1, hset]
  unfold Oper.wp
  rw [hrun, Oper.upon_skip]
  obtain ⟨k1, k2⟩ := c1.turnE (o' := .tab (es ++ [(.v k, v)])) (w' := { w with heap := w.heap.setIfInBounds g (.map (ms.push { key := k, val := a.eval z, born := t }) (t + 1)) }) hid (hh _ _ ho hid) hM rfl rfl rfl (by simp) (fun k hk => q2 k hk) (by unfold World.shape?; simp only [q1, hb])
    (fun hext => ⟨g, _, _, rfl, q1, stamped_push hs (no_key es _ hr (fun p hp => let ⟨x, e1, _⟩ := hks p hp; ⟨x, e1⟩) hm), by
      rw [Array.toList_push]
      exact RepM.push (by simp only [RepC]) (Rep.ext hext _ _ h3) (RepM.ext hext _ _ hr)⟩)
  rw [cQ] at hK'
  exact hK' undef _ M k2 k1 trivial
theorem tQ {w : World} {d : TypeDesc} {k : Value} (hk : IsKey d k) : (Instr.keyThatStays k k).run P w = .ok k w := by
  unfold Instr.keyThatStays
  rw [tZ hk]
  simp
theorem e_mapSet {e ek : TyE} {K E : TypeId} {j : Nat} {k : Value} {v v0 : AV} (tb : TabOk P tab) (hT : tyLook tab T = some e) (hk : e.kind = .map K E) (hK : tyLook tab K = some ek) (hx : ev x = some (.mh id)) (ho : lk h id = some (.tab es)) (hy : ev y = some (.c (.v k))) (hz : ev z = some v) (hkk : isKeyT ek.kind k) (hks : KeysOk ek.kind es) (hm : MAt k v0 es j) :
    EStep P ⟨none, .mapUpdate T x y z, ty, pos, aft, gd⟩ ev h .junk [] (some (id, some (.tab (es.set j (.v k, v))))) i i := by
  intro B dom M H w a K' Q hh hn c1 he hK'
  have h1 := he x _ hx
  have h2 := he y _ hy
  have h3 := he z _ hz
  simp only [Rep, RepC] at h1 h2
  obtain ⟨hid, g, hM, hp⟩ := h1
  obtain ⟨ms, t, hb, hs, hr⟩ := gS hh c1 ho hid hM
  obtain ⟨dk, hd, hdk⟩ := (aS tb hK).und
  rw [← hdk] at hkk hks
  obtain ⟨m, f1, f2, f3, f4⟩ := oI (cG hkk) es ms.toList j 0 hr (fun p hp => let ⟨x, e1, e2⟩ := hks p hp; ⟨x, e1, cG e2⟩) hm
  rw [Nat.zero_add] at f1
  have f2' : ms[j]? = some m := by rw [← Array.getElem?_toList]; exact f2
  have hck := run_checkKey (w := w) hd (cG hkk) false 9999
  have hst := tQ (P := P) (w := w) (cG hkk)
  have hset := Go.MapKept.run_setObj_map (P := P) (.map (ms.modify j fun e => { e with key := k, val := a.eval z }) t) hb
  obtain ⟨q1, q2⟩ := heap_set (o' := .map (ms.modify j fun e => { e with key := k, val := a.eval z }) t) hb
  have hrun : (execOp a.eval ⟨none, .mapUpdate T x y z, ty, pos, aft, gd⟩).run P w = .ok .skip { w with heap := w.heap.setIfInBounds g (.map (ms.modify j fun e => { e with key := k, val := a.eval z }) t) } := by
    simp [execOp, Instr.mapUpdate, hp, h2, run_underlying ((aS tb hT).mapK hk), Go.MapKept.run_getObj_map hb, hck, run_findKey hd f1, f2', f3, hst, hset]
  have hls : (ms.modify j fun e => { e with key := k, val := a.eval z }).toList = ms.toList.set j { m with key := k, val := a.eval z } := by
    apply List.ext_getElem?
    intro q
    rw [Array.getElem?_toList, Array.getElem?_modify, List.getElem?_set]
    by_cases hq : j = q
    · subst hq
      have hlt := (List.getElem?_eq_some_iff.1 f2).1
      rw [if_pos rfl, if_pos rfl, if_pos hlt, f2']
      rfl
    · rw [if_neg hq, if_neg hq, Array.getElem?_toList]
  unfold Oper.wp
  rw [hrun, Oper.upon_skip]
  obtain ⟨k1, k2⟩ := c1.turnE (o' := .tab (es.set j (.v k, v))) (w' := { w with heap := w.heap.setIfInBounds g (.map (ms.modify j fun e => { e with key := k, val := a.eval z }) t) }) hid (hh _ _ ho hid) hM rfl rfl rfl (by simp) (fun k hk => q2 k hk) (by unfold World.shape?; simp only [q1, hb])
    (fun hext => ⟨g, _, _, rfl, q1, stamped_modify hs j _ (fun _ _ => rfl) (fun e' _ he' => by
      rw [f2'] at he'
      injection he' with he'
      subst he'
      exact f3.symm), by
      rw [hls]
      exact RepM.set (by simp only [RepC]) (Rep.ext hext _ _ h3) j (RepM.ext hext _ _ hr)⟩)
  rw [cQ] at hK'
  exact hK' undef _ M k2 k1 trivial
theorem s_lenM {e : TyE} {K E : TypeId} (tb : TabOk P tab) (hT : tyLook tab T = some e) (hk : e.kind = .map K E) (hx : ev x = some (.mh id)) (ho : lk h id = some (.tab es)) : Still P ⟨d, .call ⟨.builtin .len, #[x], #[T]⟩, ty, pos, aft, gd⟩ ev h (.c (.v (.int .i64 es.length))) := by
  intro B dom M H w a hh hc he
  have h1 := he x _ hx
  simp only [Rep] at h1
  obtain ⟨hid, g, hM, hp⟩ := h1
  obtain ⟨ms, t, hb, hs, hr⟩ := gS hh hc ho hid hM
  refine ⟨.int .i64 es.length, ?_, by simp only [Rep, RepC]⟩
  have hl := hr.length
  rw [Array.length_toList] at hl
  simp [execOp, resolve, invoke, builtin, Builtin.len_, hp, run_underlying ((aS tb hT).mapK hk), Go.MapKept.run_getObj_map hb, goInt, hl]
end
section
variable {P : Program} {tab : Tab} {sz n : Nat} {env : Env} {h : Heap} {dfs : Defs} {K : AK} {ops : Array Oper} {rest : List Oper} {T ty : TypeId} {x y z : Operand} {pos : String} {aft : Array Edge} {gd : Option (Nat × Bool)} {id : Nat} {es es' : List (CV × AV)}
theorem iU {e ek : TyE} {K1 E : TypeId} {k : Value} {v : AV} (tb : TabOk P tab) (hg : guardA ops env ⟨none, .mapUpdate T x y z, ty, pos, aft, gd⟩ true) (hT : tyLook tab T = some e) (hk : e.kind = .map K1 E) (hK : tyLook tab K1 = some ek) (hx : evA env x = some (.mh id)) (ho : lk h id = some (.tab es)) (hy : evA env y = some (.c (.v k))) (hz : evA env z = some v) (hkk : isKeyT ek.kind k) (hks : KeysOk ek.kind es) (hm : MNo k es) (he : es ++ [(.v k, v)] = es')
    (next : AWL P ops sz rest K n env ((id, .tab es') :: h) dfs) : AWL P ops sz (⟨none, .mapUpdate T x y z, ty, pos, aft, gd⟩ :: rest) K n env h dfs := by
  subst he
  exact gN (v := .junk) (c := some (id, some (AObj.tab (es ++ [(CV.v k, v)])))) (Δ := []) hg rfl (Nat.le_refl _) rfl (e_mapNew tb hT hk hK hx ho hy hz hkk hks hm) (fun id h1 h2 => by omega) (by simp) next
theorem pG {e ek : TyE} {K1 E : TypeId} {j : Nat} {k : Value} {v v0 : AV} (tb : TabOk P tab) (hg : guardA ops env ⟨none, .mapUpdate T x y z, ty, pos, aft, gd⟩ true) (hT : tyLook tab T = some e) (hk : e.kind = .map K1 E) (hK : tyLook tab K1 = some ek) (hx : evA env x = some (.mh id)) (ho : lk h id = some (.tab es)) (hy : evA env y = some (.c (.v k))) (hz : evA env z = some v) (hkk : isKeyT ek.kind k) (hks : KeysOk ek.kind es) (hm : MAt k v0 es j) (he : es.set j (.v k, v) = es')
    (next : AWL P ops sz rest K n env ((id, .tab es') :: h) dfs) : AWL P ops sz (⟨none, .mapUpdate T x y z, ty, pos, aft, gd⟩ :: rest) K n env h dfs := by
  subst he
  exact gN (v := .junk) (c := some (id, some (AObj.tab (es.set j (CV.v k, v))))) (Δ := []) hg rfl (Nat.le_refl _) rfl (e_mapSet tb hT hk hK hx ho hy hz hkk hks hm) (fun id h1 h2 => by omega) (by simp) next
end
end Go.Av
namespace Go.Av
open Go Go.RowKit Go.MapKept
theorem dL {P : Program} {sz n : Nat} {c : Code} {K : AK} {env env' : Env} {h : Heap} {dfs : Defs} (ks : List Nat) (hE : pruneE env ks = some env') (hx : AW P sz c K n env' h dfs) : AW P sz c K n env h dfs := by
  intro B a w hc
  obtain ⟨M, c1, c2, c3, c4⟩ := hc
  exact hx B a w ⟨M, c1, c2, fun t av ht => c3 t av (gU hE t av ht), c4⟩
theorem weak_raise {n N : Nat} {env : Env} {h : Heap} {dfs : Defs} (hN : n ≤ N) (hh : ∀ id, n ≤ id → lk h id = none) : Weak n env h dfs N env h dfs := by
  intro B sz a w hc
  obtain ⟨M, c1, c2, c3, c4⟩ := hc
  let M' : Nat → Option Nat := fun id => if id < n then M id else none
  have hg := c1.grow (Below.refl w.heap.size w) n N (M' := M') (fun id hid => by
      have : id < n := hid
      simp [M', this]) (fun id k1 k2 => by simp only [lt]; omega)
    (fun id o k1 k2 k3 => by rw [hh id k1] at k3; cases k3)
    (fun id id' o o' g k1 k2 k3 k4 k5 => by rw [hh id k1] at k5; cases k5)
    (fun hext id o k1 k2 k3 => by rw [hh id k1] at k3; cases k3)
  rw [wB hN] at hg
  exact ⟨M', hg.1, c2, fun t av ht => Rep.ext hg.2 _ _ (c3 t av ht), c4.ext hg.2⟩
theorem weak_renG (σ : Nat → Nat) {n N : Nat} {env E : Env} {h Hp : Heap} {dfs D : Defs} (hn' : ∀ i, i < N → σ i < n) (hi' : ∀ i j, i < N → j < N → σ i = σ j → i = j)
    (hE : WeakER σ env N E) (hH : WeakHR σ h N Hp) (hD : D.all (fun p => AV.ltBs N p.2) = true) (hD' : dfs = D.map fun p => (p.1, AV.mps σ p.2)) : Weak n env h dfs N E Hp D := by
  intro B sz a w hc
  subst hD'
  obtain ⟨M, h1, h2, h3, h4⟩ := hc
  let M' : Nat → Option Nat := fun i => M (σ i)
  have hok : ∀ b, okOf B (lt n) M (lk h) b → okOf B (lt N) M' (lk Hp) b := fun b hb => ⟨hb.1, fun id o hid hH' he => hb.2 (σ id) _ (hn' id hid) (hH id o hH').1 he⟩
  have hls : LessR N σ (cx B n M h w) (cx B N M' Hp w) := ⟨fun id hid _ => ⟨hid, rfl⟩, fun b hb hl => ⟨hok b hb, hl, rfl⟩, fun _ _ h => h⟩
  refine ⟨M', ⟨h1.fr, fun id o hid hH' => ?_, fun id id' o o' g k1 k2 k3 k4 k5 k6 => hi' id id' k1 k2 (h1.inj _ _ _ _ g (hn' id k1) (hn' id' k2) (hH id o k3).1 (hH id' o' k4).1 k5 k6), fun id o g k1 k2 => h1.lo _ _ g (hn' id k1) (hH id o k2).1⟩, h2, fun t av ht => ?_, h4.lessR hls hD⟩
  · exact (h1.obj _ _ (hn' id hid) (hH id o hH').1).lessR hls rfl (hH id o hH').2
  · exact Rep.lessR hls _ _ (hE t av ht).2 (h3 t _ (hE t av ht).1)
mutual
theorem AV.mp_id {b : Nat} {σ : Nat → Nat} (h : ∀ i, i < b → σ i = i) : ∀ x : AV, x.ltB b = true → x.mp σ = x
  | .c x, _ => rfl
  | .ip cs off, _ => rfl
  | .junk, _ => rfl
  | .ref id off, hl => by simp only [AV.ltB, Nat.blt_eq] at hl; simp only [AV.mp, h id hl]
  | .own id off n size full, hl => by simp only [AV.ltB, Nat.blt_eq] at hl; simp only [AV.mp, h id hl]
  | .agg xs, hl => by simp only [AV.ltB] at hl; simp only [AV.mp, AV.mps_id h xs hl]
  | .tup xs, hl => by simp only [AV.ltB] at hl; simp only [AV.mp, AV.mps_id h xs hl]
  | .fn f xs, hl => by simp only [AV.ltB] at hl; simp only [AV.mp, AV.mps_id h xs hl]
  | .yld id, hl => by simp only [AV.ltB, Nat.blt_eq] at hl; simp only [AV.mp, h id hl]
  | .mh id, hl => by simp only [AV.ltB, Nat.blt_eq] at hl; simp only [AV.mp, h id hl]
theorem AV.mps_id {b : Nat} {σ : Nat → Nat} (h : ∀ i, i < b → σ i = i) : ∀ xs : List AV, AV.ltBs b xs = true → AV.mps σ xs = xs
  | [], _ => rfl
  | x :: xs, hl => by
    simp only [AV.ltBs, Bool.and_eq_true] at hl
    simp only [AV.mps, AV.mp_id h x hl.1, AV.mps_id h xs hl.2]
end
mutual
theorem AV.ltB_mono {b N : Nat} (h : b ≤ N) : ∀ x : AV, x.ltB b = true → x.ltB N = true
  | .c x, _ => rfl
  | .ip cs off, _ => rfl
  | .junk, _ => rfl
  | .ref id off, hl => by simp only [AV.ltB, Nat.blt_eq] at hl ⊢; omega
  | .own id off n size full, hl => by simp only [AV.ltB, Nat.blt_eq] at hl ⊢; omega
  | .agg xs, hl => by simp only [AV.ltB] at hl ⊢; exact AV.ltBs_mono h xs hl
  | .tup xs, hl => by simp only [AV.ltB] at hl ⊢; exact AV.ltBs_mono h xs hl
  | .fn f xs, hl => by simp only [AV.ltB] at hl ⊢; exact AV.ltBs_mono h xs hl
  | .yld id, hl => by simp only [AV.ltB, Nat.blt_eq] at hl ⊢; omega
  | .mh id, hl => by simp only [AV.ltB, Nat.blt_eq] at hl ⊢; omega
theorem AV.ltBs_mono {b N : Nat} (h : b ≤ N) : ∀ xs : List AV, AV.ltBs b xs = true → AV.ltBs N xs = true
  | [], _ => rfl
  | x :: xs, hl => by
    simp only [AV.ltBs, Bool.and_eq_true] at hl ⊢
    exact ⟨AV.ltB_mono h x hl.1, AV.ltBs_mono h xs hl.2⟩
end
def one (q n0 id : Nat) : Nat := if id = q then n0 else id
theorem zO {q n0 : Nat} : one q n0 q = n0 := by simp [one]
theorem qH {q n0 id : Nat} (h : id ≠ q) : one q n0 id = id := by simp [one, h]
abbrev Sub := Value × Nat × List CV
def tabE (size b : Nat) : Nat → List Sub → List (CV × AV)
  | _, [] => []
  | j, s :: L => (.v s.1, .own (j + b) 0 s.2.1 size true) :: tabE size b (j + 1) L
def subs (T : TypeId) (b : Nat) : Nat → List Sub → Heap
  | _, [] => []
  | j, s :: L => (j + b, .row T s.2.2) :: subs T b (j + 1) L
def tabC (size : Nat) (L : List Sub) : List (CV × AV) := L.map fun s => (.v s.1, .c (.sl size s.2.1 s.2.2))
section
variable {T : TypeId} {size b : Nat}
theorem qB : ∀ (L : List Sub) (j k : Nat) (s : Sub), L[k]? = some s → lk (subs T b j L) (j + k + b) = some (.row T s.2.2)
  | [], j, k, s, h => by simp at h
  | s :: L, j, 0, s', h => by
    simp only [List.getElem?_cons_zero, Option.some.injEq] at h
    subst h
    simp only [subs]
    rw [bD, if_pos (by omega)]
    rfl
  | s :: L, j, k + 1, s', h => by
    simp only [subs]
    rw [bD, if_neg (by omega), show j + (k + 1) + b = (j + 1) + k + b by omega]
    exact qB L (j + 1) k s' (by simpa using h)
theorem gR : ∀ (L : List Sub) (j id : Nat) (o : AObj), lk (subs T b j L) id = some o → ∃ k s, id = j + k + b ∧ L[k]? = some s ∧ o = .row T s.2.2
  | [], j, id, o, h => by cases h
  | s :: L, j, id, o, h => by
    simp only [subs] at h
    rw [bD] at h
    split at h
    · rename_i e
      exact ⟨0, s, by omega, rfl, (fT h).symm⟩
    · obtain ⟨k, s', h1, h2, h3⟩ := gR L (j + 1) id o h
      exact ⟨k + 1, s', by omega, by simpa using h2, h3⟩
theorem jW {L : List Sub} {k : Nat} {s : Sub} (h : L[k]? = some s) : lk (subs T b 0 L) (k + b) = some (.row T s.2.2) := by
  have := qB (T := T) (b := b) L 0 k s h
  rwa [Nat.zero_add] at this
theorem uP {key : Value} : ∀ (L : List Sub) (j k : Nat) (s : Sub), (∀ q s', q < k → L[q]? = some s' → s'.1 ≠ key) → L[k]? = some s → s.1 = key → MAt key (.own (j + k + b) 0 s.2.1 size true) (tabE size b j L) k
  | [], j, k, s, _, h, _ => by simp at h
  | s :: L, j, 0, s', _, h, hk => by
    simp only [List.getElem?_cons_zero, Option.some.injEq] at h
    subst h
    exact ⟨by rw [← hk], rfl⟩
  | s :: L, j, k + 1, s', hn, h, hk => by
    refine ⟨fun e => ?_, ?_⟩
    · injection e with e
      exact hn 0 s (Nat.succ_pos _) rfl e
    · rw [show j + (k + 1) + b = (j + 1) + k + b by omega]
      exact uP L (j + 1) k s' (fun q s'' hq hs => hn (q + 1) s'' (by omega) (by simpa using hs)) (by simpa using h) hk
theorem uQ {key : Value} : ∀ (L : List Sub) (j : Nat), (∀ s ∈ L, s.1 ≠ key) → MNo key (tabE size b j L)
  | [], j, _ => fun p hp => by cases hp
  | s :: L, j, h => fun p hp => by
    rcases List.mem_cons.1 hp with rfl | hp
    · intro e
      injection e with e
      exact h s (by simp) e
    · exact uQ L (j + 1) (fun s hs => h s (by simp [hs])) p hp
theorem nQ {t : TK} : ∀ (L : List Sub) (j : Nat), (∀ s ∈ L, isKeyT t s.1) → KeysOk t (tabE size b j L)
  | [], j, _ => fun p hp => by cases hp
  | s :: L, j, h => fun p hp => by
    rcases List.mem_cons.1 hp with rfl | hp
    · exact ⟨s.1, rfl, h s (by simp)⟩
    · exact nQ L (j + 1) (fun s hs => h s (by simp [hs])) p hp
theorem uO {key : Value} : ∀ (L : List Sub) (k : Nat) (s : Sub), (∀ q s', q < k → L[q]? = some s' → s'.1 ≠ key) → L[k]? = some s → s.1 = key → MAt key (.c (.sl size s.2.1 s.2.2)) (tabC size L) k
  | [], k, s, _, h, _ => by simp at h
  | s :: L, 0, s', _, h, hk => by
    simp only [List.getElem?_cons_zero, Option.some.injEq] at h
    subst h
    exact ⟨by rw [← hk], rfl⟩
  | s :: L, k + 1, s', hn, h, hk => by
    refine ⟨fun e => ?_, ?_⟩
    · injection e with e
      exact hn 0 s (Nat.succ_pos _) rfl e
    · exact uO L k s' (fun q s'' hq hs => hn (q + 1) s'' (by omega) (by simpa using hs)) (by simpa using h) hk
theorem uN {t : TK} {L : List Sub} (h : ∀ s ∈ L, isKeyT t s.1) : KeysOk t (tabC size L) := fun p hp => by
  obtain ⟨s, hs, rfl⟩ := List.mem_map.1 hp
  exact ⟨s.1, rfl, h s hs⟩
theorem qV {N : Nat} : ∀ (L : List Sub) (j : Nat), j + L.length + b ≤ N → ((tabE size b j L).all fun p => p.2.ltB N) = true
  | [], j, _ => rfl
  | s :: L, j, h => by
    simp only [List.length_cons] at h
    simp only [tabE, List.all_cons, Bool.and_eq_true]
    exact ⟨by simp only [AV.ltB, Nat.blt_eq]; omega, qV L (j + 1) (by omega)⟩
theorem xK {q n0 : Nat} : ∀ (L : List Sub) (j : Nat), q < j + b ∨ j + L.length + b ≤ q → (tabE size b j L).map (fun p => (p.1, p.2.mp (one q n0))) = tabE size b j L
  | [], j, _ => rfl
  | s :: L, j, h => by
    simp only [List.length_cons] at h
    simp only [tabE, List.map_cons, AV.mp]
    rw [qH (by omega), xK L (j + 1) (by omega)]
theorem xL {n0 : Nat} {s : Sub} : ∀ (L : List Sub) (j k : Nat), k < L.length → (tabE size b j (L.set k s)).map (fun p => (p.1, p.2.mp (one (j + k + b) n0))) = (tabE size b j L).set k (.v s.1, .own n0 0 s.2.1 size true)
  | [], j, k, h => by simp at h
  | s' :: L, j, 0, h => by
    simp only [List.set_cons_zero, tabE, List.map_cons, AV.mp]
    rw [show j + 0 + b = j + b by omega, zO, xK L (j + 1) (by omega)]
  | s' :: L, j, k + 1, h => by
    simp only [List.set_cons_succ, tabE, List.map_cons, AV.mp]
    rw [qH (by omega), show j + (k + 1) + b = (j + 1) + k + b by omega, xL L (j + 1) k (by simpa using h)]
theorem xJ {n0 : Nat} {s : Sub} : ∀ (L : List Sub) (j : Nat), (tabE size b j (L ++ [s])).map (fun p => (p.1, p.2.mp (one (j + L.length + b) n0))) = tabE size b j L ++ [(.v s.1, .own n0 0 s.2.1 size true)]
  | [], j => by
    simp only [List.nil_append, tabE, List.map_cons, List.map_nil, AV.mp, List.length_nil]
    rw [show j + 0 + b = j + b by omega, zO]
  | s' :: L, j => by
    simp only [List.cons_append, tabE, List.map_cons, AV.mp, List.length_cons]
    rw [qH (by omega), show j + (L.length + 1) + b = (j + 1) + L.length + b by omega, xJ L (j + 1)]
end
theorem xS {n N n0 m k size b : Nat} {T : TypeId} {L : List Sub} {es : List (CV × AV)} {s : Sub} {env E : Env} {h : Heap} {dfs : Defs} (hN : b + L.length ≤ N) (hn0 : N ≤ n0) (hn : n0 < n) (hmb : m < b) (hs : L[k]? = some s)
    (hm : lk h m = some (.tab es)) (hes : es = (tabE size b 0 L).map fun p => (p.1, p.2.mp (one (k + b) n0))) (hrow : lk h n0 = some (.row T s.2.2)) (hoth : ∀ q s', q ≠ k → L[q]? = some s' → lk h (q + b) = some (.row T s'.2.2))
    (hE : WeakE env b E) (hD : dfs.all (fun p => AV.ltBs b p.2) = true) : Weak n env h dfs N E ((m, .tab (tabE size b 0 L)) :: subs T b 0 L) dfs := by
  have hk : k < L.length := (List.getElem?_eq_some_iff.1 hs).1
  have hid : ∀ i, i < b → one (k + b) n0 i = i := fun i hi => qH (by omega)
  refine weak_renG (one (k + b) n0) (fun i hi => ?_) (fun i j hi hj e => ?_) (fun t av ht => ?_) (fun id o ho => ?_) ?_ ?_
  · unfold one; split <;> omega
  · unfold one at e
    split at e <;> split at e <;> omega
  · obtain ⟨h1, h2⟩ := hE t av ht
    rw [AV.mp_id hid av h2]
    exact ⟨h1, AV.ltB_mono (by omega) av h2⟩
  · rw [bD] at ho
    split at ho
    · rename_i e
      subst e
      have ho := fT ho
      subst ho
      rw [hid m hmb, hm, hes]
      exact ⟨rfl, qV L 0 (by omega)⟩
    · obtain ⟨q, s', h1, h2, h3⟩ := gR L 0 id o ho
      subst h3
      refine ⟨?_, rfl⟩
      rw [Nat.zero_add] at h1
      subst h1
      by_cases hq : q = k
      · subst hq
        rw [h2] at hs
        injection hs with hs
        subst hs
        rw [zO]
        exact hrow
      · rw [qH (by omega)]
        exact hoth q s' hq h2
  · rw [List.all_eq_true] at hD ⊢
    exact fun p hp => AV.ltBs_mono (by omega) _ (hD p hp)
  · rw [List.all_eq_true] at hD
    conv => lhs; rw [← List.map_id dfs]
    refine List.map_congr_left fun p hp => ?_
    rw [AV.mps_id hid _ (hD p hp)]
    rfl
theorem set_get {α : Type} {l : List α} {k : Nat} {x : α} (h : k < l.length) : (l.set k x)[k]? = some x := by simp [h]
theorem xV {n N n0 m k size b : Nat} {T : TypeId} {L : List Sub} {es : List (CV × AV)} {s : Sub} {env E : Env} {h : Heap} {dfs : Defs} (hk : k < L.length) (hN : b + L.length ≤ N) (hn0 : N ≤ n0) (hn : n0 < n) (hmb : m < b)
    (hm : lk h m = some (.tab es)) (hes : es = (tabE size b 0 L).set k (.v s.1, .own n0 0 s.2.1 size true)) (hrow : lk h n0 = some (.row T s.2.2)) (hoth : ∀ q, q ≠ k → q < L.length → lk h (q + b) = lk (subs T b 0 L) (q + b))
    (hE : WeakE env b E) (hD : dfs.all (fun p => AV.ltBs b p.2) = true) : Weak n env h dfs N E ((m, .tab (tabE size b 0 (L.set k s))) :: subs T b 0 (L.set k s)) dfs := by
  refine xS (k := k) (by rw [List.length_set]; exact hN) hn0 hn hmb (set_get hk) hm ?_ hrow (fun q s' hq hs => ?_) hE hD
  · rw [hes]
    have := xL (size := size) (b := b) (n0 := n0) (s := s) L 0 k hk
    rw [Nat.zero_add] at this
    exact this.symm
  · rw [List.getElem?_set_ne (fun e => hq e.symm)] at hs
    rw [hoth q hq (List.getElem?_eq_some_iff.1 hs).1]
    exact jW hs
theorem xU {n N n0 m size b : Nat} {T : TypeId} {L : List Sub} {es : List (CV × AV)} {s : Sub} {env E : Env} {h : Heap} {dfs : Defs} (hN : b + L.length + 1 ≤ N) (hn0 : N ≤ n0) (hn : n0 < n) (hmb : m < b)
    (hm : lk h m = some (.tab es)) (hes : es = tabE size b 0 L ++ [(.v s.1, .own n0 0 s.2.1 size true)]) (hrow : lk h n0 = some (.row T s.2.2)) (hoth : ∀ q, q < L.length → lk h (q + b) = lk (subs T b 0 L) (q + b))
    (hE : WeakE env b E) (hD : dfs.all (fun p => AV.ltBs b p.2) = true) : Weak n env h dfs N E ((m, .tab (tabE size b 0 (L ++ [s]))) :: subs T b 0 (L ++ [s])) dfs := by
  refine xS (k := L.length) (by rw [List.length_append]; simpa [Nat.add_assoc] using hN) hn0 hn hmb (by simp) hm ?_ hrow (fun q s' hq hs => ?_) hE hD
  · rw [hes]
    have := xJ (size := size) (b := b) (n0 := n0) (s := s) L 0
    rw [Nat.zero_add] at this
    exact this.symm
  · have hl := (List.getElem?_eq_some_iff.1 hs).1
    rw [List.length_append, List.length_singleton] at hl
    rw [List.getElem?_append_left (by omega)] at hs
    rw [hoth q (by omega)]
    exact jW hs
theorem RepM.tabfz {C C' : Cx} {size b : Nat} : ∀ (L : List Sub) (j : Nat) (ms : List MapEntry), (∀ k s, L[k]? = some s → ∀ u, Rep C (.own (j + k + b) 0 s.2.1 size true) u → Rep C' (.c (.sl size s.2.1 s.2.2)) u) → RepM C (tabE size b j L) ms → RepM C' (tabC size L) ms
  | [], j, ms, _, h => h
  | s :: L, j, ms, hf, h => by
    obtain ⟨m, ms', rfl, h1, h2, h3⟩ := h
    refine ⟨m, ms', rfl, ?_, hf 0 s rfl _ h2, RepM.tabfz L (j + 1) ms' (fun k s' hk u hu => hf (k + 1) s' (by simpa using hk) u (by rw [show j + (k + 1) + b = j + 1 + k + b by omega]; exact hu)) h3⟩
    simpa only [RepC] using h1
theorem weak_tabfz {n m size b : Nat} {T : TypeId} {L : List Sub} {env : Env} {h : Heap} {dfs : Defs} (hm : lk h m = some (.tab (tabE size b 0 L))) (hmn : m < n) (hmb : m < b) (hsub : ∀ k s, L[k]? = some s → lk h (k + b) = some (.row T s.2.2)) (hsz : ∀ s ∈ L, s.2.2.length = s.2.1 * size) : Weak n env h dfs n env [(m, .tab (tabC size L))] dfs := by
  intro B sz a w hc
  obtain ⟨M, c1, c2, c3, c4⟩ := hc
  have hs : ∀ id o, lk [(m, AObj.tab (tabE size b 0 L))] id = some o → lk h id = some o := fun id o ho => by
    rw [bD] at ho
    split at ho
    · rename_i e
      subst e
      have ho := fT ho
      subst ho
      exact hm
    · cases ho
  have hext := lE (B := B) (n := n) (M := M) (w := w) hs
  have e3 : ∀ k, (lk [(m, AObj.tab (tabC size L))] k).isSome = (lk [(m, AObj.tab (tabE size b 0 L))] k).isSome := fun k => by
    rw [bD, bD]
    split <;> rfl
  have eok2 : okOf B (lt n) M (lk [(m, AObj.tab (tabC size L))]) = okOf B (lt n) M (lk [(m, AObj.tab (tabE size b 0 L))]) := by
    funext b'
    unfold okOf
    simp only [eq_iff_iff]
    refine and_congr Iff.rfl ⟨fun hk k o hid hH => ?_, fun hk k o hid hH => ?_⟩
    · have := e3 k
      rw [hH] at this
      obtain ⟨o', ho'⟩ := Option.isSome_iff_exists.1 this
      exact hk k o' hid ho'
    · have := e3 k
      rw [hH] at this
      obtain ⟨o', ho'⟩ := Option.isSome_iff_exists.1 this.symm
      exact hk k o' hid ho'
  have hcx : cx B n M [(m, AObj.tab (tabC size L))] w = cx B n M [(m, AObj.tab (tabE size b 0 L))] w := by
    unfold cx; rw [eok2]
  have hinv : ∀ id o, lk [(m, AObj.tab (tabC size L))] id = some o → id = m ∧ o = .tab (tabC size L) := fun id o ho => by
    rw [bD] at ho
    split at ho
    · rename_i e
      exact ⟨e.symm, (fT ho).symm⟩
    · cases ho
  refine ⟨M, ⟨c1.fr, fun id o hid ho => ?_, fun id id' o o' g k1 k2 k3 k4 k5 k6 => ?_, fun id o g k1 k2 => ?_⟩, c2, fun t av hk => ?_, ?_⟩
  · show ObjRep (cx B n M [(m, AObj.tab (tabC size L))] w) _ _
    rw [hcx]
    obtain ⟨rfl, rfl⟩ := hinv id o ho
    obtain ⟨g, ms, t, f1, f2, f3, f4⟩ := c1.obj _ _ hid hm
    refine ⟨g, ms, t, f1, f2, f3, RepM.tabfz L 0 ms.toList (fun k s hk u hu => ?_) f4⟩
    rw [Nat.zero_add] at hu
    refine lZ (hsub k s hk) ?_ (hsz s (List.mem_of_getElem? hk)) B n M w u hs c1 hu
    rw [bD, if_neg (by omega)]
    rfl
  · rw [(hinv id o k3).1, (hinv id' o' k4).1]
  · obtain ⟨rfl, rfl⟩ := hinv id o k2
    exact c1.lo _ _ g k1 hm
  · show Rep (cx B n M [(m, AObj.tab (tabC size L))] w) _ _
    rw [hcx]
    exact Rep.ext hext _ _ (c3 t av hk)
  · show DefRep B.fr (cx B n M [(m, AObj.tab (tabC size L))] w) _ _
    rw [hcx]
    exact c4.ext hext
theorem kG {N size : Nat} {L : List Sub} : (AObj.tab (tabC size L)).ltB N = true := by simp [AObj.ltB, tabC, AV.ltB]
theorem tabC_mp {σ : Nat → Nat} {size : Nat} {L : List Sub} : AObj.tab (tabC size L) = (AObj.tab (tabC size L)).mp σ := by
  simp only [AObj.mp, tabC, List.map_map]
  rfl
def tabH (T : TypeId) (size b m : Nat) (L : List Sub) : Heap := (m, .tab (tabE size b 0 L)) :: subs T b 0 L
section
variable {T : TypeId} {size b m : Nat} {L : List Sub}
theorem iK : lk (tabH T size b m L) m = some (.tab (tabE size b 0 L)) := by
  unfold tabH; rw [bD, if_pos rfl]; rfl
theorem nY (hmb : m < b) {k : Nat} {s : Sub} (h : L[k]? = some s) : lk (tabH T size b m L) (k + b) = some (.row T s.2.2) := by
  unfold tabH; rw [bD, if_neg (by omega)]; exact jW h
theorem qC (hmb : m < b) {k : Nat} : lk (tabH T size b m L) (k + b) = lk (subs T b 0 L) (k + b) := by
  unfold tabH; rw [bD, if_neg (by omega)]
theorem qD (hmb : m < b) {id : Nat} {o : AObj} (h : lk (tabH T size b m L) id = some o) : id < b + L.length := by
  unfold tabH at h
  rw [bD] at h
  split at h
  · omega
  · obtain ⟨k, s, h1, h2, _⟩ := gR L 0 id o h
    have := (List.getElem?_eq_some_iff.1 h2).1
    omega
theorem tabH_ltB (hmb : m < b) {N id : Nat} {o : AObj} (hN : b + L.length ≤ N) (h : lk (tabH T size b m L) id = some o) : o.ltB N = true := by
  unfold tabH at h
  rw [bD] at h
  split at h
  · have := fT h
    subst this
    exact qV L 0 (by omega)
  · obtain ⟨k, s, h1, h2, h3⟩ := gR L 0 id o h
    subst h3; rfl
theorem tN (hmb : m < b) {id : Nat} (h : b + L.length ≤ id) : lk (tabH T size b m L) id = none := by
  cases ho : lk (tabH T size b m L) id with
  | none => rfl
  | some o =>
    have := qD hmb ho
    omega
theorem nZ (hmb : m < b) {N : Nat} (hN : b + L.length ≤ N) {h : Heap} (hh : ∀ id, id < N → lk h id = lk (tabH T size b m L) id) : ∀ id o, lk (tabH T size b m L) id = some o → lk h id = some o := fun id o ho => by
  have := qD hmb ho
  rw [hh id (by omega)]; exact ho
theorem tabH_weakH (hmb : m < b) {N : Nat} (hN : b + L.length ≤ N) {h : Heap} (hh : ∀ id, id < N → lk h id = lk (tabH T size b m L) id) : WeakH h N (tabH T size b m L) := fun id o ho => ⟨nZ hmb hN hh id o ho, tabH_ltB hmb hN ho⟩
theorem gM {n N : Nat} {env E : Env} {h : Heap} {dfs : Defs} (hmb : m < b) (hN : b + L.length ≤ N) (hn : Nat.ble N n = true) (hE : WeakE env N E) (hh : ∀ id, id < N → lk h id = lk (tabH T size b m L) id) (hD : dfs.all (fun p => AV.ltBs N p.2) = true) : Weak n env h dfs N E (tabH T size b m L) dfs := bZ hn hE (tabH_weakH hmb hN hh) hD
theorem weak_fzG {n : Nat} {env E : Env} {h Hp : Heap} {dfs : Defs} (hE : FzE env h Hp E) (hs : ∀ id o, lk Hp id = some o → lk h id = some o) : Weak n env h dfs n E Hp dfs := by
  intro B sz a w hc
  obtain ⟨M, c1, c2, c3, c4⟩ := hc
  have hext := lE (B := B) (n := n) (M := M) (w := w) hs
  refine ⟨M, ⟨c1.fr, fun id o hid ho => (c1.obj id o hid (hs id o ho)).ext hext (fun _ _ => rfl), fun id id' o o' g k1 k2 k3 k4 => c1.inj id id' o o' g k1 k2 (hs id o k3) (hs id' o' k4), fun id o g k1 k2 => c1.lo id o g k1 (hs id o k2)⟩, c2, fun t av ht => ?_, c4.ext hext⟩
  obtain ⟨v, hv, hf⟩ := hE.get t av ht
  exact hf B n M w _ hs c1 (c3 t v hv)
theorem fz_refB {h Hp : Heap} {id off : Nat} {T : TypeId} {ays : List AV} {cs : List CV} (ho : lk h id = some (.blk T ays)) (hn : lk Hp id = none) (hcs : ays = cs.map AV.c) (h1 : cs.all CV.one = true) : Fz h Hp (.ref id off) (.ip cs off) := by
  intro B N M w u hs hc hu
  subst hcs
  have hext := lE (B := B) (n := N) (M := M) (w := w) hs
  simp only [Rep, cx] at hu
  obtain ⟨hd, g, hM, hu⟩ := hu
  obtain ⟨us, hb, hr⟩ := eN (fun id o h _ => h) hc ho hd hM
  have hr' := hr.toC
  exact ⟨g, 0, us, by rw [hu, Nat.zero_add], fz_ok hs hc ho hn hd hM, bN hb, RepCs.mono hext.ok _ _ hr', hr'.one (fun c hc => List.all_eq_true.1 h1 c hc), fun j x hj => by
    rw [Nat.zero_add]
    exact eY (vs := []) (by rw [List.append_nil]; exact hb) hj⟩
theorem uL {n N n0 k : Nat} {es : List (CV × AV)} {s : Sub} {env E : Env} {h : Heap} {dfs : Defs} (hk : k < L.length) (hN : b + L.length ≤ N) (hn0 : Nat.ble N n0 = true) (hn : Nat.blt n0 n = true) (hmb : m < b)
    (hm : lk h m = some (.tab es)) (hes : es = (tabE size b 0 L).set k (.v s.1, .own n0 0 s.2.1 size true)) (hrow : lk h n0 = some (.row T s.2.2)) (hoth : ∀ id, id < N → id ≠ k + b → id ≠ m → lk h id = lk (tabH T size b m L) id)
    (hE : WeakE env b E) (hD : dfs.all (fun p => AV.ltBs b p.2) = true) : Weak n env h dfs N E (tabH T size b m (L.set k s)) dfs :=
  xV hk hN (Nat.le_of_ble_eq_true hn0) (by simpa using hn) hmb hm hes hrow (fun q h1 h2 => by rw [hoth (q + b) (by omega) (by omega) (by omega), qC hmb]) hE hD
theorem uK {n N n0 : Nat} {es : List (CV × AV)} {s : Sub} {env E : Env} {h : Heap} {dfs : Defs} (hN : b + L.length + 1 ≤ N) (hn0 : Nat.ble N n0 = true) (hn : Nat.blt n0 n = true) (hmb : m < b)
    (hm : lk h m = some (.tab es)) (hes : es = tabE size b 0 L ++ [(.v s.1, .own n0 0 s.2.1 size true)]) (hrow : lk h n0 = some (.row T s.2.2)) (hoth : ∀ id, id < N → id ≠ m → lk h id = lk (tabH T size b m L) id)
    (hE : WeakE env b E) (hD : dfs.all (fun p => AV.ltBs b p.2) = true) : Weak n env h dfs N E (tabH T size b m (L ++ [s])) dfs :=
  xU hN (Nat.le_of_ble_eq_true hn0) (by simpa using hn) hmb hm hes hrow (fun q h1 => by rw [hoth (q + b) (by omega) (by omega), qC hmb]) hE hD
theorem xT {n N : Nat} {env E : Env} {dfs : Defs} (hmn : Nat.blt m N = true) (hn : Nat.ble N n = true) (hmb : m < b) (hsz : ∀ s ∈ L, s.2.2.length = s.2.1 * size) (hE : WeakE env N E) (hD : dfs.all (fun p => AV.ltBs N p.2) = true) : Weak n env (tabH T size b m L) dfs N E [(m, .tab (tabC size L))] dfs := by
  have h1 : m < N := by simpa using hmn
  have h2 := Nat.le_of_ble_eq_true hn
  refine eR (weak_tabfz iK (by omega) hmb (fun k s hs => nY hmb hs) hsz) (bZ hn hE (fun id o ho => ⟨ho, ?_⟩) hD)
  rw [bD] at ho
  split at ho
  · have := fT ho
    subst this
    simp [AObj.ltB, tabC, AV.ltB]
  · cases ho
end
section
variable {P : Program} {tab : Tab} {ev : Evl} {h : Heap} {d : Option Tmp} {T ty : TypeId} {x y z : Operand} {pos : String} {aft : Array Edge} {gd : Option (Nat × Bool)} {i id : Nat} {es : List (CV × AV)}
theorem sN {e ek : TyE} {K E : TypeId} {k z : Value} (tb : TabOk P tab) (hT : tyLook tab T = some e) (hk : e.kind = .map K E) (hK : tyLook tab K = some ek) (hz : ∀ w, (zeroValue E).run P w = .ok z w) (hx : ev x = some (.mh id)) (ho : lk h id = some (.tab es)) (hy : ev y = some (.c (.v k))) (hkk : isKeyT ek.kind k) (hks : KeysOk ek.kind es) (hm : MNo k es) : Still P ⟨d, .lookup T x y false, ty, pos, aft, gd⟩ ev h (.c (.v z)) := by
  intro B dom M H w a hh hc he
  have h1 := he x _ hx
  have h2 := he y _ hy
  simp only [Rep, RepC] at h1 h2
  obtain ⟨hid, g, hM, hp⟩ := h1
  obtain ⟨ms, t, hb, hs, hr⟩ := gS hh hc ho hid hM
  obtain ⟨dk, hd, hdk⟩ := (aS tb hK).und
  rw [← hdk] at hkk hks
  have f1 := oJ (cG hkk) es ms.toList 0 hr (fun p hp => let ⟨x, e1, e2⟩ := hks p hp; ⟨x, e1, cG e2⟩) hm
  have hck := run_checkKey (w := w) hd (cG hkk) ms.isEmpty 9999
  refine ⟨z, ?_, rfl⟩
  simp [execOp, Instr.lookup, hp, h2, run_underlying ((aS tb hT).mapK hk), Go.MapKept.run_getObj_map hb, hck, run_findKey hd f1, hz]
end
end Go.Av
namespace Go.Av
open Go Go.RowKit Go.MapKept
def tabS (L : List (List UInt8 × AV)) : List (CV × AV) := L.map fun p => (.v (.string ⟨p.1.toArray⟩), p.2)
theorem sV {C : Cx} : ∀ {L : List (List UInt8 × AV)} {ms : List MapEntry}, RepM C (tabS L) ms → ms.map (·.key) = L.map fun p => Value.string ⟨p.1.toArray⟩
  | [], ms, h => by
    have : ms = [] := h
    subst this; rfl
  | p :: L, ms, h => by
    obtain ⟨m, ms', rfl, h1, h2, h3⟩ := h
    simp only [RepC] at h1
    rw [List.map_cons, List.map_cons, sV h3, h1]
section call
variable {P : Program} {ev : Evl} {h : Heap} {d : Option Tmp} {ty : TypeId} {pos : String} {aft : Array Edge} {gd : Option (Nat × Bool)} {i : Nat} {f : FuncId} {xs : List Operand} {ats : Array TypeId} {v : AV}
theorem rH {obj : AObj} (hlv : obj.live = some obj) (hb : Body P f) (hrun : ∀ (B : Bs) (dom : Nat → Prop) (M : Nat → Option Nat) (H : Nat → Option AObj) (w : World) (a : Act),
    (∀ id o, lk h id = some o → dom id → H id = some o) → ConcH B dom M H w → (∀ x av, ev x = some av → Rep ⟨dom, M, okOf B dom M H, w⟩ av (a.eval x)) →
    Calls P f (List.map a.eval xs).toArray w fun e w' => ∃ u m, e = .returned u ∧ Below w.heap.size w w' ∧ (∀ g, m = some g → w.heap.size ≤ g) ∧
      (∀ C, Ext ⟨dom, M, okOf B dom M H, w⟩ C → C.w = w' → C.dom i → C.M i = m → ObjRep C m obj ∧ Rep C v u)) : Adds P ⟨d, .call ⟨.value (.func f), xs.toArray, ats⟩, ty, pos, aft, gd⟩ ev h v [(i, obj)] i (i + 1) := by
  intro B dom M H w a K Q hh hn hc he hK
  have hcall := hrun B dom M H w a hh hc he
  unfold Oper.wp execOp
  simp only [resolve, Deferred.ofValue, Act.eval, invoke, Sem.run_bind, Sem.run_pure, Result.andThen_ok, List.map_toArray, Array.append_empty, Body.run hb, Oper.upon]
  rw [show (#[] ++ (List.map a.eval xs).toArray : Array Value) = (List.map a.eval xs).toArray by simp]
  refine hcall.mono ?_
  rintro e w' ⟨u, m, rfl, hbl, hm, hv⟩
  simp only
  have hi := hn i (Nat.le_refl _) (Nat.lt_succ_self _)
  have e1 : H i = some obj := by rw [hi.2, bD, if_pos rfl, hlv]
  let M' : Nat → Option Nat := fun id => if id = i then m else M id
  have hM' : M' i = m := by simp [M']
  have hg := hc.grow hbl i (i + 1) (M' := M') (fun id hid => by
      have : id ≠ i := fun e => hi.1 (e ▸ hid)
      simp [M', this]) (fun id h1 h2 => (hn id h1 h2).1)
    (fun id o h1 h2 h3 g hg => by
      obtain rfl : id = i := by omega
      rw [hM'] at hg
      exact hm g hg)
    (fun id id' o o' g h1 h2 h3 h4 => fun _ _ _ _ => by omega)
    (fun hext id o h1 h2 h3 => by
      obtain rfl : id = i := by omega
      rw [e1] at h3
      injection h3 with h3
      subst h3
      rw [hM']
      exact (hv _ hext rfl (.inr ⟨h1, h2⟩) hM').1)
  exact hK u w' M' hg.2 hg.1 (hv _ hg.2 rfl (.inr ⟨Nat.le_refl _, Nat.lt_succ_self _⟩) hM').2
end call
def KeysC (P : Program) (fK fI : FuncId) (T : TypeId) : Prop := ∀ (b : Nat) (w : World), Calls P fK #[.map (some b)] w fun e w' => e = .returned (.func (.func fI) #[] #[.pointer (some ⟨w.heap.size, 0, none⟩)]) ∧ w' = w.alloc (.cells #[.map (some b)] T)
def SortedC (P : Program) (fS fI : FuncId) (T E : TypeId) : Prop := ∀ (w : World) (g b : Nat) (ms : Array MapEntry) (t : Nat) (l : List (List UInt8)), w.heap[g]? = some (.cells #[.map (some b)] T (0, 0)) → w.heap[b]? = some (.map ms t) → Stamped ms t → ms.toList.map (·.key) = l.map (fun s => Value.string ⟨s.toArray⟩) → l.length ≤ 1000000 → (∀ s ∈ l, s.length ≤ maxLen) →
  Calls P fS #[.func (.func fI) #[] #[.pointer (some ⟨g, 0, none⟩)]] w fun e w' => ∃ v, e = .returned v ∧ w'.ownsRow w.heap.size E 1 v l.length ((l.mergeSort fun x y => decide (x ≤ y)).map fun s => Value.string ⟨s.toArray⟩) ∧ Below w.heap.size w w'
section keys
variable {P : Program} {ev : Evl} {h : Heap} {d : Option Tmp} {ty : TypeId} {x : Operand} {pos : String} {aft : Array Edge} {gd : Option (Nat × Bool)} {i id i0 : Nat} {fK fI fS : FuncId} {T E : TypeId} {ats : Array TypeId} {es : List (CV × AV)}
theorem a_keys (hk : KeysC P fK fI T) (hb : Body P fK) (hx : ev x = some (.mh id)) : Adds P ⟨d, .call ⟨.value (.func fK), #[x], ats⟩, ty, pos, aft, gd⟩ ev h (.fn fI [.ref i 0]) [(i, .blk T [.mh id])] i (i + 1) := by
  refine rH (xs := [x]) rfl hb fun B dom M H w a hh hc he => ?_
  have h1 := he x _ hx
  have h2 := h1
  simp only [Rep] at h1
  obtain ⟨hid, g, hM, hp⟩ := h1
  rw [show (List.map a.eval [x]).toArray = #[.map (some g)] by simp [hp]]
  refine (hk g w).mono ?_
  rintro e w' ⟨rfl, rfl⟩
  refine ⟨_, some w.heap.size, rfl, eU _ _, fun g hg => by injection hg with hg; omega, fun C hext hw hd hM2 => ⟨⟨w.heap.size, [.map (some g)], rfl, ?_, ?_⟩, ?_⟩⟩
  · rw [hw]; exact heap_alloc_new w _
  · have := Rep.ext hext _ _ h2
    rw [hp] at this
    exact ⟨_, [], rfl, this, rfl⟩
  · exact ⟨[_], rfl, _, [], rfl, ⟨hd, w.heap.size, hM2, rfl⟩, rfl⟩
theorem a_sorted {L : List (List UInt8 × AV)} {l : List (List UInt8)} (hs : SortedC P fS fI T E) (hb : Body P fS) (hx : ev x = some (.fn fI [.ref i0 0])) (ho0 : lk h i0 = some (.blk T [.mh id])) (ho : lk h id = some (.tab es)) (hes : es = tabS L) (hl : (L.map (·.1)).mergeSort (fun x y => decide (x ≤ y)) = l) {n : Nat} (hn : L.length = n) (hn2 : n ≤ 1000000) (hlen : ∀ p ∈ L, p.1.length ≤ maxLen) :
    Adds P ⟨d, .call ⟨.value (.func fS), #[x], ats⟩, ty, pos, aft, gd⟩ ev h (.own i 0 n 1 false) [(i, .row E (strc l))] i (i + 1) := by
  subst hes hl
  refine rH (xs := [x]) rfl hb fun B dom M H w a hh hc he => ?_
  have h1 := he x _ hx
  simp only [Rep, RepL] at h1
  obtain ⟨us, hu, u, us', rfl, ⟨hd0, g, hM0, rfl⟩, rfl⟩ := h1
  obtain ⟨us1, hb1, hus1⟩ := eN hh hc ho0 hd0 hM0
  simp only [RepL, Rep] at hus1
  obtain ⟨u1, us2, rfl, ⟨hid, b, hM, rfl⟩, rfl⟩ := hus1
  obtain ⟨ms, t, hb2, hst, hr⟩ := gS hh hc ho hid hM
  have hkeys := sV hr
  rw [show (List.map a.eval [x]).toArray = #[.func (.func fI) #[] #[.pointer (some ⟨g, 0, none⟩)]] by simp [hu]]
  refine (hs w g b ms t (L.map (·.1)) hb1 hb2 hst (by rw [hkeys, List.map_map]; rfl) (by rw [List.length_map]; omega) (fun s hs => by
    obtain ⟨p, hp, rfl⟩ := List.mem_map.1 hs
    exact hlen p hp)).mono ?_
  rintro e w' ⟨v, rfl, hrow, hbl⟩
  have hll : ((L.map (·.1)).mergeSort (fun x y => decide (x ≤ y))).length = n := by rw [(List.mergeSort_perm _ _).length_eq, List.length_map, hn]
  rw [List.length_map, hn] at hrow
  obtain ⟨hr1, ⟨rfl, rfl⟩ | ⟨g', cap, cur, rfl, hg', hh', hc1, hc2, hc3, hc4⟩⟩ := hrow
  · refine ⟨_, none, rfl, hbl, fun g hg => (by cases hg), fun C hext hw hd hM2 => ⟨.inl ⟨rfl, ?_⟩, hd, .inl ⟨?_, rfl, hM2, rfl⟩⟩⟩
    · exact List.eq_nil_of_length_eq_zero (by rw [bU, hll])
    · rfl
  · refine ⟨_, some g', rfl, hbl, fun g hg => (by injection hg with hg; omega), fun C hext hw hd hM2 => ⟨.inr ⟨g', ((L.map (·.1)).mergeSort (fun x y => decide (x ≤ y))).map (fun s => Value.string ⟨s.toArray⟩), cur.toList.drop n, rfl, ?_, ?_, ?_⟩, hd, .inr (.inl ⟨g', cap, hM2, rfl, hc1, hc2, fun h => (by cases h)⟩)⟩⟩
    · rw [hw, hh', ← hc4, Nat.mul_one, List.take_append_drop]
    · rw [show strc ((L.map (·.1)).mergeSort (fun x y => decide (x ≤ y))) = (((L.map (·.1)).mergeSort (fun x y => decide (x ≤ y))).map (fun s => Value.string ⟨s.toArray⟩)).map CV.v by rw [List.map_map]; rfl]
      exact RepCs.plain _
    · intro u hu
      obtain ⟨x, _, rfl⟩ := List.mem_map.1 hu
      rfl
end keys
end Go.Av
namespace Go.Proofs.YtccnhpaldmjkbaaGreat
open Go.Shelf Go.Proofs
def Tryz.keysM_ren : Go.Shelf.Ren := ⟨fun | 7 => 145 | 10 => 176 | n => n, fun | 23 => 143 | 26 => 9 | 3 => 25 | 28 => 146 | 0 => 0 | 27 => 145 | 33 => 96 | 4 => 4 | n => n, fun | n => n⟩
theorem Tryz.keysM : Go.Proofs.SlLaysZ.n7 Tryz.prog Tryz.keysM_ren := {
  mixed := by kernel_rfl
  f7 := ⟨Tryz.f145.name, by decide, Tryz.func145.trans (congrArg some (by kernel_rfl))⟩
  f10 := ⟨Tryz.f176.name, by decide, Tryz.func176.trans (congrArg some (by kernel_rfl))⟩
  t0 := Tryz.underlying0
  a0 := Tryz.isAgg0
  z0 := Tryz.sizeOf0
  v0 := Tryz.zeroValue0
  t4 := Tryz.underlying4
  a4 := Tryz.isAgg4
  z4 := Tryz.sizeOf4
  v4 := Tryz.zeroValue4
  t23 := Tryz.underlying143
  a23 := Tryz.isAgg143
  z23 := Tryz.sizeOf143
  v23 := Tryz.zeroValue143
  t26 := Tryz.underlying9
  a26 := Tryz.isAgg9
  z26 := Tryz.sizeOf9
  v26 := Tryz.zeroValue9
  t27 := Tryz.underlying145
  a27 := Tryz.isAgg145
  z27 := Tryz.sizeOf145
  v27 := Tryz.zeroValue145
  t28 := Tryz.underlying146
  a28 := Tryz.isAgg146
  z28 := Tryz.sizeOf146
  v28 := Tryz.zeroValue146
  t33 := Tryz.underlying96
  a33 := Tryz.isAgg96
  z33 := Tryz.sizeOf96
  v33 := Tryz.zeroValue96 }
def Tryz.sortedS_ren : Go.Shelf.Ren := ⟨fun | 6 => 144 | 8 => 175 | 9 => 112 | 11 => 197 | 13 => 140 | 12 => 153 | 23 => 171 | 24 => 172 | 14 => 178 | 15 => 179 | 16 => 180 | 17 => 181 | 18 => 182 | 19 => 183 | 20 => 184 | 21 => 185 | 22 => 186 | 25 => 198 | 26 => 192 | 27 => 193 | 28 => 199 | 29 => 200 | 30 => 201 | 31 => 212 | n => n, fun | 26 => 9 | 28 => 146 | 24 => 59 | 0 => 0 | 3 => 3 | 37 => 94 | 48 => 171 | 50 => 124 | 4 => 4 | 40 => 165 | 39 => 164 | 45 => 104 | 5 => 5 | 9 => 9 | 51 => 185 | 55 => 189 | 57 => 200 | 58 => 201 | 33 => 96 | n => n, fun | n => n⟩
theorem Tryz.sortedS : Go.Proofs.SlLaysZ.n6 Tryz.prog Tryz.sortedS_ren := {
  mixed := by kernel_rfl
  f6 := ⟨Tryz.f144.name, by decide, Tryz.func144.trans (congrArg some (by kernel_rfl))⟩
  f8 := ⟨Tryz.f175.name, by decide, Tryz.func175.trans (congrArg some (by kernel_rfl))⟩
  f11 := ⟨Tryz.f197.name, by decide, Tryz.func197.trans (congrArg some (by kernel_rfl))⟩
  t0 := Tryz.underlying0
  a0 := Tryz.isAgg0
  z0 := Tryz.sizeOf0
  v0 := Tryz.zeroValue0
  t24 := Tryz.underlying59
  a24 := Tryz.isAgg59
  z24 := Tryz.sizeOf59
  v24 := Tryz.zeroValue59
  t26 := Tryz.underlying9
  a26 := Tryz.isAgg9
  z26 := Tryz.sizeOf9
  v26 := Tryz.zeroValue9
  t28 := Tryz.underlying146
  a28 := Tryz.isAgg146
  z28 := Tryz.sizeOf146
  v28 := Tryz.zeroValue146
  i26 := by kernel_rfl }
def Tryz.srtW_ren : Go.Shelf.Ren := ⟨fun | 6 => 112 | 8 => 140 | 9 => 153 | 19 => 171 | 20 => 172 | 21 => 178 | 22 => 179 | 23 => 180 | 24 => 181 | 25 => 182 | 26 => 183 | 27 => 184 | 28 => 185 | 29 => 186 | 36 => 198 | 31 => 192 | 32 => 193 | 37 => 199 | 38 => 200 | 39 => 201 | 41 => 212 | n => n, fun | 27 => 59 | 29 => 9 | 3 => 3 | 32 => 94 | 26 => 59 | 0 => 0 | 44 => 171 | 46 => 124 | 4 => 4 | 36 => 165 | 35 => 164 | 41 => 104 | 5 => 5 | 9 => 9 | 53 => 185 | 57 => 189 | 63 => 200 | 64 => 201 | n => n, fun | n => n⟩
theorem Tryz.srtW : Go.Proofs.SlLaysM.n6 Tryz.prog Tryz.srtW_ren := {
  mixed := by kernel_rfl
  f6 := ⟨Tryz.f112.name, by decide, Tryz.func112.trans (congrArg some (by kernel_rfl))⟩
  f8 := Tryz.func140.trans (congrArg some (by kernel_rfl))
  f9 := ⟨Tryz.f153.name, by decide, Tryz.func153.trans (congrArg some (by kernel_rfl))⟩
  f19 := Tryz.func171.trans (congrArg some (by kernel_rfl))
  f20 := Tryz.func172.trans (congrArg some (by kernel_rfl))
  f21 := ⟨Tryz.f178.name, by decide, Tryz.func178.trans (congrArg some (by kernel_rfl))⟩
  f22 := ⟨Tryz.f179.name, by decide, Tryz.func179.trans (congrArg some (by kernel_rfl))⟩
  f23 := ⟨Tryz.f180.name, by decide, Tryz.func180.trans (congrArg some (by kernel_rfl))⟩
  f24 := ⟨Tryz.f181.name, by decide, Tryz.func181.trans (congrArg some (by kernel_rfl))⟩
  f25 := ⟨Tryz.f182.name, by decide, Tryz.func182.trans (congrArg some (by kernel_rfl))⟩
  f26 := ⟨Tryz.f183.name, by decide, Tryz.func183.trans (congrArg some (by kernel_rfl))⟩
  f27 := ⟨Tryz.f184.name, by decide, Tryz.func184.trans (congrArg some (by kernel_rfl))⟩
  f28 := ⟨Tryz.f185.name, by decide, Tryz.func185.trans (congrArg some (by kernel_rfl))⟩
  f29 := ⟨Tryz.f186.name, by decide, Tryz.func186.trans (congrArg some (by kernel_rfl))⟩
  f31 := Tryz.func192.trans (congrArg some (by kernel_rfl))
  f32 := Tryz.func193.trans (congrArg some (by kernel_rfl))
  f36 := ⟨Tryz.f198.name, by decide, Tryz.func198.trans (congrArg some (by kernel_rfl))⟩
  f37 := ⟨Tryz.f199.name, by decide, Tryz.func199.trans (congrArg some (by kernel_rfl))⟩
  f38 := ⟨Tryz.f200.name, by decide, Tryz.func200.trans (congrArg some (by kernel_rfl))⟩
  f39 := ⟨Tryz.f201.name, by decide, Tryz.func201.trans (congrArg some (by kernel_rfl))⟩
  f41 := ⟨Tryz.f212.name, by decide, Tryz.func212.trans (congrArg some (by kernel_rfl))⟩
  t0 := Tryz.underlying0
  a0 := Tryz.isAgg0
  z0 := Tryz.sizeOf0
  v0 := Tryz.zeroValue0
  t3 := Tryz.underlying3
  a3 := Tryz.isAgg3
  z3 := Tryz.sizeOf3
  v3 := Tryz.zeroValue3
  t4 := Tryz.underlying4
  a4 := Tryz.isAgg4
  z4 := Tryz.sizeOf4
  v4 := Tryz.zeroValue4
  t5 := Tryz.underlying5
  a5 := Tryz.isAgg5
  z5 := Tryz.sizeOf5
  v5 := Tryz.zeroValue5
  t9 := Tryz.underlying9
  a9 := Tryz.isAgg9
  z9 := Tryz.sizeOf9
  v9 := Tryz.zeroValue9
  t26 := Tryz.underlying59
  a26 := Tryz.isAgg59
  z26 := Tryz.sizeOf59
  v26 := Tryz.zeroValue59
  t27 := Tryz.underlying59
  a27 := Tryz.isAgg59
  z27 := Tryz.sizeOf59
  v27 := Tryz.zeroValue59
  t29 := Tryz.underlying9
  a29 := Tryz.isAgg9
  z29 := Tryz.sizeOf9
  v29 := Tryz.zeroValue9
  t32 := Tryz.underlying94
  a32 := Tryz.isAgg94
  z32 := Tryz.sizeOf94
  v32 := Tryz.zeroValue94
  t35 := Tryz.underlying164
  a35 := Tryz.isAgg164
  z35 := Tryz.sizeOf164
  v35 := Tryz.zeroValue164
  t36 := Tryz.underlying165
  a36 := Tryz.isAgg165
  z36 := Tryz.sizeOf165
  v36 := Tryz.zeroValue165
  t41 := Tryz.underlying104
  a41 := Tryz.isAgg104
  z41 := Tryz.sizeOf104
  v41 := Tryz.zeroValue104
  t44 := Tryz.underlying171
  a44 := Tryz.isAgg171
  z44 := Tryz.sizeOf171
  v44 := Tryz.zeroValue171
  t46 := Tryz.underlying124
  a46 := Tryz.isAgg124
  z46 := Tryz.sizeOf124
  v46 := Tryz.zeroValue124
  t53 := Tryz.underlying185
  a53 := Tryz.isAgg185
  z53 := Tryz.sizeOf185
  v53 := Tryz.zeroValue185
  t57 := Tryz.underlying189
  a57 := Tryz.isAgg189
  z57 := Tryz.sizeOf189
  v57 := Tryz.zeroValue189
  t63 := Tryz.underlying200
  a63 := Tryz.isAgg200
  z63 := Tryz.sizeOf200
  v63 := Tryz.zeroValue200
  t64 := Tryz.underlying201
  a64 := Tryz.isAgg201
  z64 := Tryz.sizeOf201
  v64 := Tryz.zeroValue201 }
end Go.Proofs.YtccnhpaldmjkbaaGreat
namespace Go.Proofs.YtccnhpaldmjkbaaGreat
open Go Go.RowKit Go.Av Go.Maps Go.Sort Go.Shelf Go.MapKept
set_option maxRecDepth 100000
theorem sortsIn (m : Nat) : Go.Proofs.AnyZ.SortsIn Tryz.prog Tryz.sortedS_ren Fence.wide m :=
  ⟨fun blk off cap ss W hH hblk hsz => callsIn_wide.2 (Go.Proofs.AnyM.slices_Sort_string Tryz.srtW blk off cap ss W hH hblk hsz),
   fun p cap W => callsIn_wide.2 (Go.Proofs.AnyM.slices_Sort_string_none Tryz.srtW p cap W)⟩
theorem keysC : KeysC Tryz.prog 145 176 143 := fun b w =>
  (callsIn_wide (n := 5)).1 (Go.Proofs.AnyZ.keys_in Tryz.keysM Fence.wide 5 trivial rfl (some b) w)
abbrev RAny : Value → Option (DataW Unit × List MemPlace) := fun _ => some (.nil, [])
theorem cell_box {w : World} {g b : Nat} {T : TypeId} (h : w.heap[g]? = some (.cells #[.map (some b)] T (0, 0))) : w.cell? ⟨g, 0, none⟩ = some (.map (some b)) := by simp [World.cell?, h]
def decS : Value → List UInt8
  | .string b => b.data.toList
  | _ => []
theorem sortedC : SortedC Tryz.prog 144 176 143 9 := by
  intro w g b ms t l hg hb hst hks hl hlen
  have hsz : ms.size = l.length := by have := congrArg List.length hks; simpa using this
  have hk9 : Tryz.prog.underlying 9 = some .string := Tryz.underlying9
  have hkey : ∀ x ∈ ms.toList, ∃ s ∈ l, x.key = .string ⟨s.toArray⟩ := fun x hx => by
    have h1 : x.key ∈ ms.toList.map (·.key) := List.mem_map_of_mem hx
    rw [hks] at h1
    obtain ⟨s, hs, he⟩ := List.mem_map.1 h1
    exact ⟨s, hs, he.symm⟩
  have hrd : ∀ x ∈ ms.toList, Go.WideElems.rd Tryz.prog 9 RAny x = some (.string (decS x.key), .nil) := fun x hx => by
    obtain ⟨s, hs, he⟩ := hkey x hx
    have h2 := Go.WideMaps.keyOf_string_mk (P := Tryz.prog) hk9 (s := ⟨s.toArray⟩) (by have := hlen s hs; simpa [ByteArray.size] using this)
    unfold Go.WideElems.rd
    rw [he, h2]
    rfl
  have hown : w.ownsMap Tryz.prog 9 RAny b ms.size (.map ((ms.toList.map (Go.WideElems.rg Tryz.prog 9 RAny)).foldr DataW.insert [])) := ⟨ms, t, hb, ⟨by simp only [maxLen]; omega, hst, fun x hx => ⟨_, hrd x hx⟩⟩, Nat.le_refl _, rfl⟩
  obtain ⟨D0, hD0⟩ : ∃ D0 : DataW Unit, D0 = .map ((ms.toList.map (Go.WideElems.rg Tryz.prog 9 RAny)).foldr DataW.insert []) := ⟨_, rfl⟩
  rw [← hD0] at hown
  have hp : (strKeys D0).Perm l := by
    have e1 : l = ms.toList.map fun x => strOf (Go.WideElems.rg Tryz.prog 9 RAny x).1 := by
      have e2 : l = (l.map fun s => Value.string ⟨s.toArray⟩).map decS := by
        rw [List.map_map]
        conv => lhs; rw [← List.map_id l]
        exact List.map_congr_left fun s _ => by simp [decS]
      rw [← hks, List.map_map] at e2
      rw [e2]
      exact List.map_congr_left fun x hx => by
        unfold Go.WideElems.rg
        rw [hrd x hx]; rfl
    rw [hD0]
    show (List.map (fun p : Lit × DataW Unit => strOf p.1) _).Perm l
    refine ((Go.WideShapes.sorted_perm _).map _).trans ?_
    rw [List.map_map, e1]
    exact List.Perm.refl _
  have hsD : Maps.size D0 = l.length := by
    have := hp.length_eq
    rw [← this, hD0]
    simp [Maps.size, strKeys]
  have hseq : SeqGives Fence.wide 2 Tryz.prog 176 #[.pointer (some ⟨g, 0, none⟩)] encStr (fun ss => ss.Perm (strKeys D0)) (Maps.size D0) w :=
    Go.Proofs.AnyZ.keys_gives (ρ := Tryz.keysM_ren) { Tryz.keysM with } Fence.wide _ trivial rfl (by omega) g b ms.size D0 w (bN hg) (cell_box hg) hown
  have h := (callsIn_wide (n := 5)).1 (Go.Proofs.AnyZ.sorted_in Tryz.sortedS Fence.wide 5 trivial trivial trivial trivial rfl (by omega) (sortsIn _) (enters_of Tryz.func112 (by kernel_rfl) rfl) 176 #[.pointer (some ⟨g, 0, none⟩)] trivial (enters_of Tryz.func176 (by kernel_rfl) rfl) _ _ (by rw [hsD]; simp only [maxLen]; omega) (by rw [hsD]; omega) _ hseq)
  refine h.mono ?_
  rintro e w' ⟨v, ss, rfl, hS, hrow, _, hbl⟩
  have hpl := hS.trans hp
  refine ⟨v, rfl, ?_, hbl⟩
  have e3 : (ss.mergeSort fun x y => decide (x ≤ y)) = l.mergeSort fun x y => decide (x ≤ y) := mergeSort_of_perm hpl
  rw [hpl.length_eq, e3] at hrow
  exact hrow
end Go.Proofs.YtccnhpaldmjkbaaGreat
namespace Go.Proofs.YtccnhpaldmjkbaaGreat
open Go Go.RowKit Go.Av
set_option maxRecDepth 100000
abbrev Wd := List UInt8
def upB (b : UInt8) : Bool := decide (65 ≤ b.toNat ∧ b.toNat ≤ 90)
def lowL (b : UInt8) : Bool := decide ((97 ≤ b.toNat ∧ b.toNat ≤ 122) ∨ (48 ≤ b.toNat ∧ b.toNat ≤ 57) ∨ 127 < b.toNat)
def flW : Wd → List Wd
  | [] => []
  | w => [w]
theorem kM : flW [] = [] := rfl
theorem nB {w : Wd} (h : w ≠ []) : flW w = [w] := by cases w with | nil => exact absurd rfl h | cons a r => rfl
def stW (s : List Wd × Wd) (b : UInt8) : List Wd × Wd := if upB b then (s.1, s.2 ++ [b + 32]) else if lowL b then (s.1, s.2 ++ [b]) else (s.1 ++ flW s.2, [])
def runW (l : Wd) : List Wd × Wd := l.foldl stW ([], [])
def rawW (l : Wd) : List Wd := (runW l).1 ++ flW (runW l).2
theorem sK {l : Wd} {i : Nat} {b : UInt8} (h : l[i]? = some b) : runW (l.take (i + 1)) = stW (runW (l.take i)) b := by
  unfold runW
  rw [List.take_add_one, h, Option.toList_some, List.foldl_append]; rfl
theorem stW_up {s : List Wd × Wd} {b : UInt8} (h : upB b = true) : stW s b = (s.1, s.2 ++ [b + 32]) := by unfold stW; rw [if_pos h]
theorem oV {s : List Wd × Wd} {b : UInt8} (h : upB b = false) (h2 : lowL b = true) : stW s b = (s.1, s.2 ++ [b]) := by unfold stW; rw [if_neg (by rw [h]; decide), if_pos h2]
theorem uG {s : List Wd × Wd} {b : UInt8} (h : upB b = false) (h2 : lowL b = false) : stW s b = (s.1 ++ flW s.2, []) := by unfold stW; rw [if_neg (by rw [h]; decide), if_neg (by rw [h2]; decide)]
theorem stW_len (s : List Wd × Wd) (b : UInt8) : (stW s b).1.length + (stW s b).2.length ≤ s.1.length + s.2.length + 1 ∧ (flW s.2).length ≤ 1 ∧ (∀ w ∈ (stW s b).1, w ∈ s.1 ∨ w = s.2) := by
  have hf : (flW s.2).length ≤ 1 ∧ (flW s.2).length ≤ s.2.length := by cases s.2 with | nil => exact ⟨by simp [flW], by simp [flW]⟩ | cons a r => exact ⟨by simp [flW], by simp [flW]⟩
  refine ⟨?_, hf.1, fun w hw => ?_⟩
  · unfold stW
    split
    · simp
      omega
    · split
      · simp
        omega
      · simp
        omega
  · unfold stW at hw
    split at hw
    · exact .inl hw
    · split at hw
      · exact .inl hw
      · rcases List.mem_append.1 hw with h | h
        · exact .inl h
        · right
          cases hs : s.2 with
          | nil => rw [hs] at h; simp [flW] at h
          | cons a r => rw [hs] at h; simpa [flW] using h
theorem snocI {α : Type} {p : List α → Prop} (h0 : p []) (h1 : ∀ l b, p l → p (l ++ [b])) (l : List α) : p l := by
  have : ∀ l : List α, p l.reverse := fun l => by
    induction l with
    | nil => exact h0
    | cons a r ih => rw [List.reverse_cons]; exact h1 _ _ ih
  have := this l.reverse
  rwa [List.reverse_reverse] at this
theorem qM (l : Wd) : (runW l).1.length + (runW l).2.length ≤ l.length ∧ (∀ w ∈ (runW l).1, w.length ≤ l.length ∧ w ≠ []) ∧ (runW l).2.length ≤ l.length := by
  refine snocI (p := fun l => (runW l).1.length + (runW l).2.length ≤ l.length ∧ (∀ w ∈ (runW l).1, w.length ≤ l.length ∧ w ≠ []) ∧ (runW l).2.length ≤ l.length) ?_ ?_ l
  · simp [runW]
  · intro l b ih
    obtain ⟨h1, h2, h3⟩ := ih
    have e : runW (l ++ [b]) = stW (runW l) b := by unfold runW; rw [List.foldl_append]; rfl
    rw [e]
    obtain ⟨k1, k2, k3⟩ := stW_len (runW l) b
    refine ⟨by rw [List.length_append, List.length_singleton]; omega, fun w hw => ?_, by rw [List.length_append, List.length_singleton]; omega⟩
    rw [List.length_append, List.length_singleton]
    rcases k3 w hw with h | h
    · exact ⟨by have := (h2 w h).1; omega, (h2 w h).2⟩
    · subst h
      refine ⟨by omega, fun hn => ?_⟩
      unfold stW at hw
      rw [hn] at hw
      split at hw
      · exact (h2 _ hw).2 rfl
      · split at hw
        · exact (h2 _ hw).2 rfl
        · rw [kM, List.append_nil] at hw
          exact (h2 _ hw).2 rfl
theorem tG {v w : Wd} (h : w ∈ flW v) : w = v ∧ w ≠ [] := by
  cases v with
  | nil => simp [flW] at h
  | cons a r => simp [flW] at h; subst h; exact ⟨rfl, by simp⟩
theorem rawW_len (l : Wd) : (rawW l).length ≤ l.length ∧ ∀ w ∈ rawW l, w.length ≤ l.length ∧ w ≠ [] := by
  obtain ⟨h1, h2, h3⟩ := qM l
  unfold rawW
  refine ⟨?_, fun w hw => ?_⟩
  · rw [List.length_append]
    have : (flW (runW l).2).length ≤ (runW l).2.length := by cases (runW l).2 with | nil => simp [flW] | cons a r => simp [flW]
    omega
  · rcases List.mem_append.1 hw with h | h
    · exact h2 w h
    · obtain ⟨e, hn⟩ := tG h
      exact ⟨by rw [e]; exact h3, hn⟩
def ascW (l : List Wd) : Prop := l.Pairwise (· < ·)
theorem jL : ∀ {l m : List Wd}, ascW l → ascW m → (∀ x, x ∈ l ↔ x ∈ m) → l = m
  | [], [], _, _, _ => rfl
  | [], y :: m, _, _, h => absurd ((h y).2 (by simp)) (by simp)
  | x :: l, [], _, _, h => absurd ((h x).1 (by simp)) (by simp)
  | x :: l, y :: m, hl, hm, h => by
    obtain ⟨h1, h2⟩ := List.pairwise_cons.1 hl
    obtain ⟨h3, h4⟩ := List.pairwise_cons.1 hm
    have e : x = y := by
      rcases List.mem_cons.1 ((h x).1 (by simp)) with a | a
      · exact a
      · rcases List.mem_cons.1 ((h y).2 (by simp)) with b | b
        · exact b.symm
        · exact absurd (List.lt_trans (h1 y b) (h3 x a)) (List.lt_irrefl x)
    subst e
    rw [jL h2 h4 fun z => ⟨fun hz => ?_, fun hz => ?_⟩]
    · rcases List.mem_cons.1 ((h z).1 (by simp [hz])) with e | e
      · subst e; exact absurd (h1 z hz) (List.lt_irrefl z)
      · exact e
    · rcases List.mem_cons.1 ((h z).2 (by simp [hz])) with e | e
      · subst e; exact absurd (h3 z hz) (List.lt_irrefl z)
      · exact e
theorem jI {l : List Wd} {i : Nat} (h : i < l.length) : l[i]? = some (l.getD i []) := by
  rw [List.getD_eq_getElem?_getD, List.getElem?_eq_getElem h]; rfl
def compW (l : List Wd) : Nat → List Wd
  | 0 => []
  | m + 1 => if 0 < m ∧ l.getD m [] = l.getD (m - 1) [] then compW l m else compW l m ++ [l.getD m []]
theorem fC (l : List Wd) : ∀ m, (compW l m).length ≤ m
  | 0 => Nat.le_refl _
  | m + 1 => by
    have := fC l m
    rw [compW]
    split
    · omega
    · rw [List.length_append, List.length_singleton]; omega
theorem takeW {l : List Wd} {m : Nat} (h : m < l.length) : l.take (m + 1) = l.take m ++ [l.getD m []] := by
  rw [List.take_add_one, jI h, Option.toList_some]
theorem memW_take {l : List Wd} {j m : Nat} (h : j < m) (hm : m ≤ l.length) : l.getD j [] ∈ l.take m := by
  have h1 : l[j]? = some (l.getD j []) := jI (by omega)
  exact List.mem_of_getElem? (i := j) (by rw [List.getElem?_take_of_lt h]; exact h1)
theorem takeW_mem {l : List Wd} {x : Wd} {m : Nat} (h : x ∈ l.take m) : ∃ j, j < m ∧ j < l.length ∧ l.getD j [] = x := by
  obtain ⟨j, hj⟩ := List.mem_iff_getElem?.1 h
  have h1 := (List.getElem?_eq_some_iff.1 hj).1
  rw [List.length_take] at h1
  rw [List.getElem?_take_of_lt (by omega)] at hj
  exact ⟨j, by omega, by omega, by rw [List.getD_eq_getElem?_getD, hj]; rfl⟩
theorem sR {l : List Wd} (hs : l.Pairwise (· ≤ ·)) {i j : Nat} (hij : i ≤ j) (hj : j < l.length) : l.getD i [] ≤ l.getD j [] := by
  by_cases e : i = j
  · rw [e]; exact List.le_refl _
  · have := List.pairwise_iff_getElem.1 hs i j (by omega) hj (by omega)
    have h1 : l[i]? = some (l.getD i []) := jI (by omega)
    have h2 : l[j]? = some (l.getD j []) := jI hj
    rw [List.getElem?_eq_getElem (by omega)] at h1 h2
    injection h1 with h1
    injection h2 with h2
    rw [← h1, ← h2]; exact this
theorem nR {l : List Wd} (hs : l.Pairwise (· ≤ ·)) : ∀ m, m ≤ l.length → ascW (compW l m) ∧ ∀ x, x ∈ compW l m ↔ x ∈ l.take m
  | 0, _ => ⟨List.Pairwise.nil, fun x => by simp [compW]⟩
  | m + 1, hm => by
    obtain ⟨h1, h2⟩ := nR hs m (by omega)
    have ht := takeW (l := l) (m := m) (by omega)
    rw [compW]
    split
    · rename_i h3
      refine ⟨h1, fun x => ?_⟩
      rw [h2, ht, List.mem_append, List.mem_singleton]
      refine ⟨fun h => .inl h, fun h => h.elim id fun e => ?_⟩
      rw [e, h3.2]
      exact memW_take (by omega) (by omega)
    · rename_i h3
      refine ⟨List.pairwise_append.2 ⟨h1, List.pairwise_singleton _ _, fun x hx y hy => ?_⟩, fun x => by rw [List.mem_append, h2, ht, List.mem_append]⟩
      have hy : y = l.getD m [] := by simpa using hy
      subst hy
      obtain ⟨j, hj, hjl, rfl⟩ := takeW_mem ((h2 x).1 hx)
      have a1 := sR hs (i := j) (j := m - 1) (by omega) (by omega)
      have a2 := sR hs (i := m - 1) (j := m) (by omega) (by omega)
      have a3 : l.getD m [] ≠ l.getD (m - 1) [] := fun e => h3 ⟨by omega, e⟩
      rcases List.le_iff_lt_or_eq.1 a2 with h | h
      · exact Std.lt_of_le_of_lt a1 h
      · exact absurd h.symm a3
def sortW (l : List Wd) : List Wd := l.mergeSort fun x y => decide (x ≤ y)
theorem lR (l : List Wd) : (sortW l).Perm l := List.mergeSort_perm l _
theorem dN (l : List Wd) : (sortW l).length = l.length := (lR l).length_eq
theorem nM {l : List Wd} {x : Wd} : x ∈ sortW l ↔ x ∈ l := (lR l).mem_iff
theorem sP (l : List Wd) : (sortW l).Pairwise (· ≤ ·) := by
  have := List.pairwise_mergeSort (le := fun x y : Wd => decide (x ≤ y)) (fun a b c h1 h2 => by simp only [decide_eq_true_eq] at *; exact List.le_trans h1 h2) (fun a b => by simp only [Bool.or_eq_true, decide_eq_true_eq]; exact List.le_total a b) l
  exact this.imp fun h => of_decide_eq_true h
def setW (l : List Wd) : List Wd := compW (sortW l) l.length
theorem cL (l : List Wd) : ascW (setW l) ∧ ∀ x, x ∈ setW l ↔ x ∈ l := by
  obtain ⟨h1, h2⟩ := nR (sP l) l.length (by rw [dN]; exact Nat.le_refl _)
  refine ⟨h1, fun x => ?_⟩
  unfold setW
  rw [h2, List.take_of_length_le (by rw [dN]; exact Nat.le_refl _), nM]
theorem wX (l : List Wd) : (setW l).length ≤ l.length := fC _ _
theorem qS {l : List Wd} (h : ascW l) : setW l = l := jL (cL l).1 h (cL l).2
def wordsP (l : Wd) : List Wd := setW (rawW l)
theorem eK (l : Wd) : (wordsP l).length ≤ l.length ∧ ∀ w ∈ wordsP l, w.length ≤ l.length ∧ w ≠ [] := by
  obtain ⟨h1, h2⟩ := rawW_len l
  have h3 := wX (rawW l)
  exact ⟨by unfold wordsP; omega, fun w hw => h2 w (((cL _).2 w).1 hw)⟩
def rowW (l : List Wd) (m : Nat) : List Wd := compW l m ++ l.drop (compW l m).length
theorem wP {l : List Wd} {m : Nat} (h : m ≤ l.length) : (rowW l m).length = l.length := by
  have := fC l m
  unfold rowW
  rw [List.length_append, List.length_drop]; omega
theorem rowW_at {l : List Wd} {m j : Nat} (h : m ≤ j + 1) (hj : j < l.length) (hk : (compW l m).length ≤ j) : (rowW l m).getD j [] = l.getD j [] := by
  have := fC l m
  unfold rowW
  rw [List.getD_eq_getElem?_getD, List.getElem?_append_right hk, List.getElem?_drop, List.getD_eq_getElem?_getD]
  congr 2
  omega
theorem sJ {l : List Wd} {m : Nat} (h0 : 0 < m) (h : l.getD m [] = l.getD (m - 1) []) : compW l (m + 1) = compW l m ∧ rowW l (m + 1) = rowW l m := by
  have : compW l (m + 1) = compW l m := by rw [compW, if_pos ⟨h0, h⟩]
  exact ⟨this, by unfold rowW; rw [this]⟩
theorem sI {l : List Wd} {m : Nat} (hm : m < l.length) (h : ¬ (0 < m ∧ l.getD m [] = l.getD (m - 1) [])) : (compW l (m + 1)).length = (compW l m).length + 1 ∧ rowW l (m + 1) = (rowW l m).set (compW l m).length (l.getD m []) := by
  have e : compW l (m + 1) = compW l m ++ [l.getD m []] := by rw [compW, if_neg h]
  have hl := fC l m
  refine ⟨by rw [e, List.length_append]; rfl, ?_⟩
  unfold rowW
  rw [e, List.length_append, List.length_singleton, List.set_append_right _ _ (Nat.le_refl _), Nat.sub_self, List.drop_eq_getElem_cons (i := (compW l m).length) (by omega), List.set_cons_zero, List.append_assoc]
  rfl
theorem sH {l : List Wd} {m : Nat} (hm : m < l.length) (hk : (compW l m).length = m) (h : ¬ (0 < m ∧ l.getD m [] = l.getD (m - 1) [])) (hr : rowW l m = l) : (compW l (m + 1)).length = m + 1 ∧ rowW l (m + 1) = l := by
  obtain ⟨h1, h2⟩ := sI hm h
  refine ⟨by omega, ?_⟩
  rw [h2, hr, hk]
  refine List.ext_getElem? fun j => ?_
  rw [List.getElem?_set]
  split
  · rename_i e; subst e; first | exact (jI hm).symm | (rw [if_pos hm]; exact (jI hm).symm)
  · rfl
theorem rowW_take {l : List Wd} {m : Nat} : (rowW l m).take (compW l m).length = compW l m := by
  unfold rowW
  rw [List.take_append_of_le_length (Nat.le_refl _), List.take_length]
def insW : List Wd → Wd → List Wd
  | [], s => [s]
  | x :: l, s => if x < s then x :: insW l s else if x = s then x :: l else s :: x :: l
def idxW : List Wd → Wd → Nat
  | [], _ => 0
  | x :: l, s => if x < s then idxW l s + 1 else 0
theorem idxW_le : ∀ (l : List Wd) (s : Wd), idxW l s ≤ l.length
  | [], s => Nat.le_refl _
  | x :: l, s => by
    have := idxW_le l s
    rw [idxW]
    split
    · rw [List.length_cons]; omega
    · omega
theorem idxW_lt : ∀ {l : List Wd} {s : Wd} {k : Nat}, k < idxW l s → l.getD k [] < s
  | [], s, k, h => by simp [idxW] at h
  | x :: l, s, k, h => by
    rw [idxW] at h
    split at h
    · rename_i hx
      cases k with
      | zero => exact hx
      | succ k => exact idxW_lt (l := l) (by omega)
    · omega
theorem idxW_at : ∀ {l : List Wd} {s : Wd}, idxW l s < l.length → ¬ l.getD (idxW l s) [] < s
  | [], s, h => by simp at h
  | x :: l, s, h => by
    rw [idxW] at h ⊢
    split
    · rename_i hx
      rw [if_pos hx, List.length_cons] at h
      exact idxW_at (l := l) (by omega)
    · rename_i hx; exact hx
theorem insW_eq : ∀ (l : List Wd) (s : Wd), (idxW l s < l.length → l.getD (idxW l s) [] = s → insW l s = l) ∧ ((idxW l s < l.length → l.getD (idxW l s) [] ≠ s) → insW l s = l.take (idxW l s) ++ s :: l.drop (idxW l s))
  | [], s => ⟨fun h => by simp at h, fun _ => rfl⟩
  | x :: l, s => by
    obtain ⟨h1, h2⟩ := insW_eq l s
    rw [insW, idxW]
    split
    · refine ⟨fun h e => ?_, fun h => ?_⟩
      · rw [h1 (by rw [List.length_cons] at h; omega) e]
      · rw [h2 (fun hl => h (by rw [List.length_cons]; omega))]; rfl
    · split
      · rename_i e
        exact ⟨fun _ _ => rfl, fun h => absurd e (h (by simp))⟩
      · rename_i e
        exact ⟨fun _ h => absurd h e, fun _ => rfl⟩
theorem pZ : ∀ {l : List Wd} (s : Wd), ascW l → ascW (insW l s) ∧ ∀ x, x ∈ insW l s ↔ x = s ∨ x ∈ l
  | [], s, _ => ⟨List.pairwise_singleton _ _, fun x => by simp [insW]⟩
  | y :: l, s, h => by
    obtain ⟨h1, h2⟩ := List.pairwise_cons.1 h
    obtain ⟨k1, k2⟩ := pZ s h2
    rw [insW]
    split
    · rename_i hy
      refine ⟨List.pairwise_cons.2 ⟨fun z hz => ?_, k1⟩, fun x => ?_⟩
      · rcases (k2 z).1 hz with e | e
        · rw [e]; exact hy
        · exact h1 z e
      · rw [List.mem_cons, k2, List.mem_cons]
        exact ⟨fun h => h.elim (fun e => .inr (.inl e)) (fun h => h.elim .inl (fun h => .inr (.inr h))), fun h => h.elim (fun e => .inr (.inl e)) (fun h => h.elim .inl (fun h => .inr (.inr h)))⟩
    · rename_i hy
      split
      · rename_i e
        exact ⟨h, fun x => ⟨fun hx => .inr hx, fun hx => hx.elim (fun e' => by rw [e', ← e]; simp) id⟩⟩
      · rename_i e
        have hs : s < y := by
          rcases List.le_iff_lt_or_eq.1 (List.not_lt.1 hy) with h | h
          · exact h
          · exact absurd h.symm e
        exact ⟨List.pairwise_cons.2 ⟨fun z hz => by
          rcases List.mem_cons.1 hz with e | e
          · rw [e]; exact hs
          · exact List.lt_trans hs (h1 z e), h⟩, fun x => List.mem_cons⟩
theorem vV (l : List Wd) (s : Wd) : (insW l s).length ≤ l.length + 1 := by
  induction l with
  | nil => exact Nat.le_refl _
  | cons x l ih =>
    rw [insW]
    split
    · rw [List.length_cons, List.length_cons]; omega
    · split
      · omega
      · exact Nat.le_refl _
def foldW (l : List Wd) : List Wd := l.foldl insW []
theorem lD (l : List Wd) (w : Wd) : foldW (l ++ [w]) = insW (foldW l) w := by unfold foldW; rw [List.foldl_append]; rfl
theorem jT (l : List Wd) : ascW (foldW l) ∧ (∀ x, x ∈ foldW l ↔ x ∈ l) ∧ (foldW l).length ≤ l.length := by
  refine snocI (p := fun l => ascW (foldW l) ∧ (∀ x, x ∈ foldW l ↔ x ∈ l) ∧ (foldW l).length ≤ l.length) ?_ ?_ l
  · exact ⟨List.Pairwise.nil, fun x => Iff.rfl, Nat.le_refl _⟩
  · intro l w ih
    obtain ⟨h1, h2, h3⟩ := ih
    obtain ⟨k1, k2⟩ := pZ w h1
    rw [lD]
    refine ⟨k1, fun x => ?_, ?_⟩
    · rw [k2, h2, List.mem_append, List.mem_singleton]; exact Or.comm
    · have := vV (foldW l) w
      rw [List.length_append, List.length_singleton]; omega
theorem foldW_set (l : List Wd) : foldW l = setW l := jL (jT l).1 (cL l).1 fun x => by rw [(jT l).2.1, (cL l).2]
end Go.Proofs.YtccnhpaldmjkbaaGreat
namespace Go.Proofs.YtccnhpaldmjkbaaGreat
open Go Go.RowKit Go.Av
set_option maxRecDepth 100000
abbrev ub (b : UInt8) : CV := .v (.int .u8 b.toNat)
attribute [local irreducible] Still Adds AWL AW Drw DrwE EStep AC AWR Weak Frz Src RetK Out InK ItK AsK RdK
theorem nH {b : UInt8} (h : (97 ≤ b.toNat ∧ b.toNat ≤ 122) ∨ (48 ≤ b.toNat ∧ b.toNat ≤ 57) ∨ 127 < b.toNat) : lowL b = true := decide_eq_true h
theorem lG {b : UInt8} (h : ¬ ((97 ≤ b.toNat ∧ b.toNat ≤ 122) ∨ (48 ≤ b.toNat ∧ b.toNat ≤ 57) ∨ 127 < b.toNat)) : lowL b = false := decide_eq_false h
theorem vW (b : UInt8) : AC Tryz.prog 111 [ub b] (.c (bv (lowL b))) [] 0 := by
  have hb := b.toNat_lt
  by_cases h1 : 97 ≤ b.toNat
  · by_cases h2 : b.toNat ≤ 122
    · rw [nH (.inl ⟨h1, h2⟩)]
      clear hb
      unfold ub
      generalize b.toNat = x at *
      refine aJ tabOk (sz := 21) Tryz.func111 rfl (by rw [Tryz.ntmps111]; rfl) ?_
      repeat' (first | ((with_reducible refine aB ?_); intro K hK hX) | ((with_reducible refine aC ?_); refine aD [0, 2] rfl rfl ?_) | refine stA ?_ | ((first | refine hK _ _ _ _ ?_ | refine hX _ _ _ _ _ (by simp) ?_); clear hK hX K))
      refine aK zio ztr rfl (ResL.one (ResA.tmp rfl)) zou
    · by_cases h3 : 127 < b.toNat
      · rw [nH (.inr (.inr h3))]
        clear hb
        unfold ub
        generalize b.toNat = x at *
        refine aJ tabOk (sz := 21) Tryz.func111 rfl (by rw [Tryz.ntmps111]; rfl) ?_
        repeat' (first | ((with_reducible refine aB ?_); intro K hK hX) | ((with_reducible refine aC ?_); refine aD [0, 2] rfl rfl ?_) | refine stA ?_ | ((first | refine hK _ _ _ _ ?_ | refine hX _ _ _ _ _ (by simp) ?_); clear hK hX K))
        refine aK zio ztr rfl (ResL.one (ResA.tmp rfl)) zou
      · rw [lG (by omega)]
        clear hb
        unfold ub
        generalize b.toNat = x at *
        refine aJ tabOk (sz := 21) Tryz.func111 rfl (by rw [Tryz.ntmps111]; rfl) ?_
        repeat' (first | ((with_reducible refine aB ?_); intro K hK hX) | ((with_reducible refine aC ?_); refine aD [0, 2] rfl rfl ?_) | refine stA ?_ | ((first | refine hK _ _ _ _ ?_ | refine hX _ _ _ _ _ (by simp) ?_); clear hK hX K))
        refine aK zio ztr rfl (ResL.one (ResA.tmp rfl)) zou
  · by_cases h2 : 48 ≤ b.toNat
    · by_cases h3 : b.toNat ≤ 57
      · rw [nH (.inr (.inl ⟨h2, h3⟩))]
        clear hb
        unfold ub
        generalize b.toNat = x at *
        refine aJ tabOk (sz := 21) Tryz.func111 rfl (by rw [Tryz.ntmps111]; rfl) ?_
        repeat' (first | ((with_reducible refine aB ?_); intro K hK hX) | ((with_reducible refine aC ?_); refine aD [0, 2] rfl rfl ?_) | refine stA ?_ | ((first | refine hK _ _ _ _ ?_ | refine hX _ _ _ _ _ (by simp) ?_); clear hK hX K))
        refine aK zio ztr rfl (ResL.one (ResA.tmp rfl)) zou
      · rw [lG (by omega)]
        clear hb
        unfold ub
        generalize b.toNat = x at *
        refine aJ tabOk (sz := 21) Tryz.func111 rfl (by rw [Tryz.ntmps111]; rfl) ?_
        repeat' (first | ((with_reducible refine aB ?_); intro K hK hX) | ((with_reducible refine aC ?_); refine aD [0, 2] rfl rfl ?_) | refine stA ?_ | ((first | refine hK _ _ _ _ ?_ | refine hX _ _ _ _ _ (by simp) ?_); clear hK hX K))
        refine aK zio ztr rfl (ResL.one (ResA.tmp rfl)) zou
    · rw [lG (by omega)]
      clear hb
      unfold ub
      generalize b.toNat = x at *
      refine aJ tabOk (sz := 21) Tryz.func111 rfl (by rw [Tryz.ntmps111]; rfl) ?_
      repeat' (first | ((with_reducible refine aB ?_); intro K hK hX) | ((with_reducible refine aC ?_); refine aD [0, 2] rfl rfl ?_) | refine stA ?_ | ((first | refine hK _ _ _ _ ?_ | refine hX _ _ _ _ _ (by simp) ?_); clear hK hX K))
      refine aK zio ztr rfl (ResL.one (ResA.tmp rfl)) zou
theorem add32 {b : UInt8} (h : upB b = true) : (b + 32).toNat = b.toNat + 32 := by
  have h := of_decide_eq_true h
  have := b.toNat_lt
  rw [UInt8.toNat_add]
  simp
  omega
theorem letU_ok (b : UInt8) (hu : upB b = true) : AC Tryz.prog 151 [ub b] (.tup [.c (ub (b + 32)), .c (bv true)]) [] 0 := by
  have h1 := of_decide_eq_true hu
  unfold ub
  rw [add32 hu]
  have hc : ((b.toNat + 32 : Nat) : Int) = (b.toNat : Int) + 32 := by omega
  rw [hc]
  have hb := b.toNat_lt
  generalize b.toNat = x at *
  refine aJ tabOk (sz := 31) Tryz.func151 rfl (by rw [Tryz.ntmps151]; rfl) ?_
  repeat' (first | ((with_reducible refine aB ?_); intro K hK hX) | ((with_reducible refine aC ?_); refine aD [0, 2, 3] rfl rfl ?_) | refine stA ?_ | ((first | refine hK _ _ _ _ ?_ | refine hX _ _ _ _ _ (by simp) ?_); clear hK hX K))
  refine aK zio ztr rfl (ResL.two (ResA.tmp rfl) (ResA.tmp rfl)) (jG (bV zfz (bV zfz dG)))
theorem letL_ok (b : UInt8) (hu : upB b = false) : AC Tryz.prog 151 [ub b] (.tup [.c (ub b), .c (bv (lowL b))]) [] 0 := by
  have hn := of_decide_eq_false hu
  clear hu
  have hb := b.toNat_lt
  by_cases u1 : 65 ≤ b.toNat
  · have u2 : ¬ b.toNat ≤ 90 := by omega
    by_cases h1 : 97 ≤ b.toNat
    · by_cases h2 : b.toNat ≤ 122
      · rw [nH (.inl ⟨h1, h2⟩)]
        clear hb
        unfold ub
        generalize b.toNat = x at *
        refine aJ tabOk (sz := 31) Tryz.func151 rfl (by rw [Tryz.ntmps151]; rfl) ?_
        repeat' (first | ((with_reducible refine aB ?_); intro K hK hX) | ((with_reducible refine aC ?_); refine aD [0, 2, 3] rfl rfl ?_) | refine stA ?_ | ((first | refine hK _ _ _ _ ?_ | refine hX _ _ _ _ _ (by simp) ?_); clear hK hX K))
        refine aK zio ztr rfl (ResL.two (ResA.tmp rfl) (ResA.tmp rfl)) (jG (bV zfz (bV zfz dG)))
      · by_cases h3 : 127 < b.toNat
        · rw [nH (.inr (.inr h3))]
          clear hb
          unfold ub
          generalize b.toNat = x at *
          refine aJ tabOk (sz := 31) Tryz.func151 rfl (by rw [Tryz.ntmps151]; rfl) ?_
          repeat' (first | ((with_reducible refine aB ?_); intro K hK hX) | ((with_reducible refine aC ?_); refine aD [0, 2, 3] rfl rfl ?_) | refine stA ?_ | ((first | refine hK _ _ _ _ ?_ | refine hX _ _ _ _ _ (by simp) ?_); clear hK hX K))
          refine aK zio ztr rfl (ResL.two (ResA.tmp rfl) (ResA.tmp rfl)) (jG (bV zfz (bV zfz dG)))
        · rw [lG (by omega)]
          clear hb
          unfold ub
          generalize b.toNat = x at *
          refine aJ tabOk (sz := 31) Tryz.func151 rfl (by rw [Tryz.ntmps151]; rfl) ?_
          repeat' (first | ((with_reducible refine aB ?_); intro K hK hX) | ((with_reducible refine aC ?_); refine aD [0, 2, 3] rfl rfl ?_) | refine stA ?_ | ((first | refine hK _ _ _ _ ?_ | refine hX _ _ _ _ _ (by simp) ?_); clear hK hX K))
          refine aK zio ztr rfl (ResL.two (ResA.tmp rfl) (ResA.tmp rfl)) (jG (bV zfz (bV zfz dG)))
    · rw [lG (by omega)]
      clear hb
      unfold ub
      generalize b.toNat = x at *
      refine aJ tabOk (sz := 31) Tryz.func151 rfl (by rw [Tryz.ntmps151]; rfl) ?_
      repeat' (first | ((with_reducible refine aB ?_); intro K hK hX) | ((with_reducible refine aC ?_); refine aD [0, 2, 3] rfl rfl ?_) | refine stA ?_ | ((first | refine hK _ _ _ _ ?_ | refine hX _ _ _ _ _ (by simp) ?_); clear hK hX K))
      refine aK zio ztr rfl (ResL.two (ResA.tmp rfl) (ResA.tmp rfl)) (jG (bV zfz (bV zfz dG)))
  · have h1 : ¬ 97 ≤ b.toNat := by omega
    by_cases h2 : 48 ≤ b.toNat
    · by_cases h3 : b.toNat ≤ 57
      · rw [nH (.inr (.inl ⟨h2, h3⟩))]
        clear hb
        unfold ub
        generalize b.toNat = x at *
        refine aJ tabOk (sz := 31) Tryz.func151 rfl (by rw [Tryz.ntmps151]; rfl) ?_
        repeat' (first | ((with_reducible refine aB ?_); intro K hK hX) | ((with_reducible refine aC ?_); refine aD [0, 2, 3] rfl rfl ?_) | refine stA ?_ | ((first | refine hK _ _ _ _ ?_ | refine hX _ _ _ _ _ (by simp) ?_); clear hK hX K))
        refine aK zio ztr rfl (ResL.two (ResA.tmp rfl) (ResA.tmp rfl)) (jG (bV zfz (bV zfz dG)))
      · rw [lG (by omega)]
        clear hb
        unfold ub
        generalize b.toNat = x at *
        refine aJ tabOk (sz := 31) Tryz.func151 rfl (by rw [Tryz.ntmps151]; rfl) ?_
        repeat' (first | ((with_reducible refine aB ?_); intro K hK hX) | ((with_reducible refine aC ?_); refine aD [0, 2, 3] rfl rfl ?_) | refine stA ?_ | ((first | refine hK _ _ _ _ ?_ | refine hX _ _ _ _ _ (by simp) ?_); clear hK hX K))
        refine aK zio ztr rfl (ResL.two (ResA.tmp rfl) (ResA.tmp rfl)) (jG (bV zfz (bV zfz dG)))
    · rw [lG (by omega)]
      clear hb
      unfold ub
      generalize b.toNat = x at *
      refine aJ tabOk (sz := 31) Tryz.func151 rfl (by rw [Tryz.ntmps151]; rfl) ?_
      repeat' (first | ((with_reducible refine aB ?_); intro K hK hX) | ((with_reducible refine aC ?_); refine aD [0, 2, 3] rfl rfl ?_) | refine stA ?_ | ((first | refine hK _ _ _ _ ?_ | refine hX _ _ _ _ _ (by simp) ?_); clear hK hX K))
      refine aK zio ztr rfl (ResL.two (ResA.tmp rfl) (ResA.tmp rfl)) (jG (bV zfz (bV zfz dG)))
end Go.Proofs.YtccnhpaldmjkbaaGreat
