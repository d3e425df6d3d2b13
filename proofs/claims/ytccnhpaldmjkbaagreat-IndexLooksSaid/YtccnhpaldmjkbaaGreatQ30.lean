/-
  Joined texts: AvMg JP JQ. Lemmas; no statement of a law.
-/
import Derived.Test.YtccnhpaldmjkbaaGreatQ28
set_option linter.unusedSimpArgs false
set_option linter.unusedVariables false
namespace Go.Av
open Go Go.RowKit Go.MapKept
def tabG (L : List (Value × CV)) : List (CV × AV) := L.map fun s => (.v s.1, .c s.2)
theorem dI {N : Nat} {L : List (Value × CV)} : (AObj.tab (tabG L)).ltB N = true := by simp [AObj.ltB, tabG, AV.ltB]
theorem uH {σ : Nat → Nat} {L : List (Value × CV)} : AObj.tab (tabG L) = (AObj.tab (tabG L)).mp σ := by
  simp only [AObj.mp, tabG, List.map_map]
  congr 1
theorem xN (L : List (Value × CV)) : (tabG L).length = L.length := List.length_map _
theorem xM (L : List (Value × CV)) (k : Value) (c : CV) : tabG L ++ [(.v k, .c c)] = tabG (L ++ [(k, c)]) := by simp [tabG]
theorem tabG_set (L : List (Value × CV)) (j : Nat) (k : Value) (c : CV) : (tabG L).set j (.v k, .c c) = tabG (L.set j (k, c)) := by simp [tabG, List.map_set]
theorem oX {key : Value} : ∀ {L : List (Value × CV)} {k : Nat} {s : Value × CV}, (∀ q s', q < k → L[q]? = some s' → s'.1 ≠ key) → L[k]? = some s → s.1 = key → MAt key (.c s.2) (tabG L) k
  | [], k, s, _, h, _ => by simp at h
  | t :: L, 0, s, _, h, e => by
    simp at h
    subst h
    exact ⟨by rw [← e], rfl⟩
  | t :: L, k + 1, s, hq, h, e => ⟨fun h2 => hq 0 t (by omega) rfl (by injection h2), oX (L := L) (fun q s' hqk hs => hq (q + 1) s' (by omega) (by simpa using hs)) (by simpa using h) e⟩
theorem uR {key : Value} {L : List (Value × CV)} (h : ∀ s ∈ L, s.1 ≠ key) : MNo key (tabG L) := fun p hp => by
  obtain ⟨s, hs, rfl⟩ := List.mem_map.1 hp
  intro e
  injection e with e
  exact h s hs e
theorem jJ {t : TK} {L : List (Value × CV)} (h : ∀ s ∈ L, isKeyT t s.1) : KeysOk t (tabG L) := fun p hp => by
  obtain ⟨s, hs, rfl⟩ := List.mem_map.1 hp
  exact ⟨s.1, rfl, h s hs⟩
section
variable {P : Program} {tab : Tab} {ev : Evl} {h : Heap} {d : Option Tmp} {T ty : TypeId} {x y z : Operand} {pos : String} {aft : Array Edge} {gd : Option (Nat × Bool)} {i id : Nat} {es : List (CV × AV)}
theorem lO {e : TyE} {K E : TypeId} {m : Nat} (tb : TabOk P tab) (hT : tyLook tab T = some e) (hk : e.kind = .map K E) (hx : ev x = some (.mh id)) (ho : lk h id = some (.tab es)) (hm : es.length = m) : Still P ⟨d, .call ⟨.builtin .len, #[x], #[T]⟩, ty, pos, aft, gd⟩ ev h (.c (.v (.int .i64 m))) := by
  subst hm
  exact s_lenM tb hT hk hx ho
theorem qP {e ek : TyE} {K E : TypeId} {k z : Value} (tb : TabOk P tab) (hT : tyLook tab T = some e) (hk : e.kind = .map K E) (hK : tyLook tab K = some ek) (hz : ∀ w, (zeroValue E).run P w = .ok z w) (hx : ev x = some (.mh id)) (ho : lk h id = some (.tab es)) (hy : ev y = some (.c (.v k))) (hkk : isKeyT ek.kind k) (hks : KeysOk ek.kind es) (hm : MNo k es) : Still P ⟨d, .lookup T x y true, ty, pos, aft, gd⟩ ev h (.tup [.c (.v z), .c (.v (.bool false))]) := by
  intro B dom M H w a hh hc he
  have h1 := he x _ hx
  have h2 := he y _ hy
  simp only [Rep, RepC] at h1 h2
  obtain ⟨hid, g, hM, hp⟩ := h1
  obtain ⟨ms, t, hb, hs, hr⟩ := gS hh hc ho hid hM
  obtain ⟨dk, hd, hdk⟩ := (aS tb hK).und
  rw [← hdk] at hkk hks
  have f1 := oJ (cG hkk) es ms.toList 0 hr (fun p hp => let ⟨x, e1, e2⟩ := hks p hp; ⟨x, e1, cG e2⟩) hm
  have hck := run_checkKey (w := w) hd (cG hkk) ms.isEmpty 9999
  refine ⟨.tuple #[z, .bool false], ?_, [z, .bool false], rfl, z, [.bool false], rfl, rfl, .bool false, [], rfl, rfl, rfl⟩
  simp [execOp, Instr.lookup, hp, h2, run_underlying ((aS tb hT).mapK hk), Go.MapKept.run_getObj_map hb, hck, run_findKey hd f1, hz]
end
section
variable {P : Program} {sz n : Nat} {env : Env} {h : Heap} {dfs : Defs} {K : AK} {ops : Array Oper} {rest : List Oper} {d : Option Tmp} {T ty : TypeId} {x y z : Operand} {pos : String} {aft : Array Edge} {gd : Option (Nat × Bool)} {b : Bool}
theorem lF (hh : AWL P ops sz (⟨d, .lookup T x y b, ty, pos, aft, gd⟩ :: rest) K n env h dfs) : AWL P ops sz (⟨d, .lookup T x y b, ty, pos, aft, gd⟩ :: rest) K n env h dfs := hh
theorem tL (hh : AWL P ops sz (⟨d, .mapUpdate T x y z, ty, pos, aft, gd⟩ :: rest) K n env h dfs) : AWL P ops sz (⟨d, .mapUpdate T x y z, ty, pos, aft, gd⟩ :: rest) K n env h dfs := hh
theorem isA_mm {r : Option Operand} (hh : AWL P ops sz (⟨d, .makeMap T r, ty, pos, aft, gd⟩ :: rest) K n env h dfs) : AWL P ops sz (⟨d, .makeMap T r, ty, pos, aft, gd⟩ :: rest) K n env h dfs := hh
end
end Go.Av
namespace Go.Proofs.YtccnhpaldmjkbaaGreat
open Go Go.RowKit Go.Av
set_option maxRecDepth 100000
theorem mD {m n : Nat} (h : lowB m = lowB n) : m % 256 = n % 256 := by
  have := congrArg UInt8.toNat h
  simpa [lowB] using this
theorem encI_inj {m n : Nat} {a b : List UInt8} (hm : m < 1099511627776) (hn : n < 1099511627776) (h : encI m ++ a = encI n ++ b) : m = n ∧ a = b := by
  simp only [encI, List.cons_append, List.nil_append, List.cons.injEq, true_and] at h
  obtain ⟨h1, h2, h3, h4, h5, h6⟩ := h
  have h1 := mD h1
  have h2 := mD h2
  have h3 := mD h3
  have h4 := mD h4
  have h5 := mD h5
  simp only [Nat.reducePow] at h1 h2 h3 h4
  exact ⟨by omega, h6⟩
theorem vJ : ∀ {t u a b : List UInt8}, t.flatMap esc ++ [0, 0] ++ a = u.flatMap esc ++ [0, 0] ++ b → t = u ∧ a = b
  | [], [], a, b, h => ⟨rfl, by simpa using h⟩
  | [], c :: u, a, b, h => by
    exfalso
    rw [List.flatMap_cons] at h
    unfold esc at h
    split at h
    · simp at h
    · rename_i hc; simp at h; exact hc h.1.symm
  | c :: t, [], a, b, h => by
    exfalso
    rw [List.flatMap_cons] at h
    unfold esc at h
    split at h
    · simp at h
    · rename_i hc; simp at h; exact hc h.1
  | c :: t, e :: u, a, b, h => by
    rw [List.flatMap_cons, List.flatMap_cons, List.append_assoc, List.append_assoc, List.append_assoc, List.append_assoc] at h
    have hh : ∀ x y : List UInt8, esc c ++ x = esc e ++ y → c = e ∧ x = y := fun x y hxy => by
      unfold esc at hxy
      split at hxy <;> split at hxy
      · rename_i h1 h2; exact ⟨h1.trans h2.symm, by simpa using hxy⟩
      · rename_i h1 h2; simp at hxy; exact absurd hxy.1.symm h2
      · rename_i h1 h2; simp at hxy; exact absurd hxy.1 h1
      · simpa using hxy
    obtain ⟨h1, h2⟩ := hh _ _ h
    obtain ⟨h3, h4⟩ := vJ (t := t) (u := u) (a := a) (b := b) (by rw [List.append_assoc, List.append_assoc]; exact h2)
    exact ⟨by rw [h1, h3], h4⟩
theorem encV_inj {v w : Vl} {a b : List UInt8} (hv : okP v) (hw : okP w) (h : encV v ++ a = encV w ++ b) : v = w ∧ a = b := by
  obtain ⟨vk, vn, vt⟩ := v
  obtain ⟨wk, wn, wt⟩ := w
  unfold encV at h
  rcases hv with ⟨h1, h2, h3⟩ | ⟨h1, h2, h2', h3⟩ | ⟨h1, h2, h3⟩ <;> rcases hw with ⟨k1, k2, k3⟩ | ⟨k1, k2, k2', k3⟩ | ⟨k1, k2, k3⟩ <;> simp only at h1 h2 h3 k1 k2 k3 <;> subst h1 <;> subst k1
  · subst h2; subst k2; subst h3; subst k3
    exact ⟨rfl, by simpa using h⟩
  · simp [encI] at h
  · simp at h
  · simp [encI] at h
  · subst h3; subst k3
    simp only at h2' k2'
    simp only [if_pos] at h
    obtain ⟨e1, e2⟩ := encI_inj (by omega) (by omega) h
    exact ⟨by congr 1; omega, e2⟩
  · simp [encI] at h
  · simp at h
  · simp [encI] at h
  · subst h2; subst k2
    simp only [show ¬ ((2 : Int) = 1) by decide, if_false, if_true, List.cons_append, List.cons.injEq, true_and] at h
    obtain ⟨e1, e2⟩ := vJ h
    exact ⟨by rw [e1], e2⟩
theorem pP : ∀ {r s : List Vl}, (∀ v ∈ r, okP v) → (∀ v ∈ s, okP v) → encR r = encR s → r = s
  | [], [], _, _, _ => rfl
  | [], w :: s, _, hs, h => by
    exfalso
    simp only [encR, List.flatMap_nil, List.flatMap_cons] at h
    have := congrArg List.length h
    simp only [List.length_nil, List.length_append] at this
    have h2 : 0 < (encV (clV w)).length := by unfold encV; split <;> (try split) <;> simp [encI]
    omega
  | v :: r, [], hr, _, h => by
    exfalso
    simp only [encR, List.flatMap_nil, List.flatMap_cons] at h
    have := congrArg List.length h
    simp only [List.length_nil, List.length_append] at this
    have h2 : 0 < (encV (clV v)).length := by unfold encV; split <;> (try split) <;> simp [encI]
    omega
  | v :: r, w :: s, hr, hs, h => by
    simp only [encR, List.flatMap_cons] at h
    rw [eZ (hr v (by simp)), eZ (hs w (by simp))] at h
    obtain ⟨h1, h2⟩ := encV_inj (hr v (by simp)) (hs w (by simp)) h
    rw [h1, pP (fun x hx => hr x (by simp [hx])) (fun x hx => hs x (by simp [hx])) h2]
structure Mt where
  r : List Vl
  c : Nat
  n : Int
def okW (ws : List Wd) (w : Wd) : Prop := ws = [] ∨ w ∈ ws
instance (ws : List Wd) (w : Wd) : Decidable (okW ws w) := by unfold okW; infer_instance
def putF : List Mt → Po → List Mt
  | [], x => [⟨x.r, 1, x.n⟩]
  | m :: F, x => if m.r = x.r then ⟨m.r, m.c + 1, min m.n x.n⟩ :: F else m :: putF F x
def fndF (ws : List Wd) (F : List Mt) (x : Po) : List Mt := if okW ws x.w then putF F x else F
def fnd (ws : List Wd) (q : List Po) : List Mt := q.foldl (fndF ws) []
theorem pU (ws : List Wd) (q : List Po) (x : Po) : fnd ws (q ++ [x]) = fndF ws (fnd ws q) x := by unfold fnd; rw [List.foldl_append]; rfl
theorem fnd_step {ws : List Wd} {p : List Po} {i : Nat} {x : Po} (h : p[i]? = some x) : fnd ws (p.take (i + 1)) = fndF ws (fnd ws (p.take i)) x := by
  rw [List.take_add_one, h, Option.toList_some, pU]
theorem oR : ∀ {F : List Mt} {x : Po}, (∀ m ∈ F, m.r ≠ x.r) → putF F x = F ++ [⟨x.r, 1, x.n⟩]
  | [], x, _ => rfl
  | m :: F, x, h => by rw [putF, if_neg (h m (by simp)), oR fun k hk => h k (by simp [hk])]; rfl
theorem oQ : ∀ {F : List Mt} {x : Po} {j : Nat} {m : Mt}, F[j]? = some m → m.r = x.r → (∀ (q : Nat) (k : Mt), q < j → F[q]? = some k → k.r ≠ x.r) → putF F x = F.set j ⟨m.r, m.c + 1, min m.n x.n⟩
  | [], x, j, m, h, _, _ => by simp at h
  | k :: F, x, 0, m, h, hr, _ => by
    simp at h
    subst h
    rw [putF, if_pos hr]; rfl
  | k :: F, x, j + 1, m, h, hr, hq => by
    rw [putF, if_neg (hq 0 k (by omega) rfl), oQ (F := F) (j := j) (by simpa using h) hr fun q s hqj hs => hq (q + 1) s (by omega) (by simpa using hs)]; rfl
theorem oN : ∀ (F : List Mt) (r : List Vl), (∃ (j : Nat) (m : Mt), F[j]? = some m ∧ m.r = r ∧ ∀ (q : Nat) (k : Mt), q < j → F[q]? = some k → k.r ≠ r) ∨ ∀ m ∈ F, m.r ≠ r
  | [], r => .inr fun m hm => by cases hm
  | k :: F, r => by
    by_cases h : k.r = r
    · exact .inl ⟨0, k, rfl, h, fun q s hq => by omega⟩
    · rcases oN F r with ⟨j, m, h1, h2, h3⟩ | h1
      · refine .inl ⟨j + 1, m, by simpa using h1, h2, fun q s hq hs => ?_⟩
        cases q with
        | zero => simp at hs; subst hs; exact h
        | succ q => exact h3 q s (by omega) (by simpa using hs)
      · exact .inr fun m hm => (List.mem_cons.1 hm).elim (fun e => e ▸ h) (h1 m)
def mine (ws : List Wd) (q : List Po) (r : List Vl) : List Po := q.filter fun x => decide (okW ws x.w ∧ x.r = r)
theorem mine_mem {ws : List Wd} {q : List Po} {r : List Vl} {x : Po} : x ∈ mine ws q r ↔ x ∈ q ∧ okW ws x.w ∧ x.r = r := by
  unfold mine
  rw [List.mem_filter, decide_eq_true_iff]
theorem iL (ws : List Wd) (q : List Po) (r : List Vl) (x : Po) : mine ws (q ++ [x]) r = if okW ws x.w ∧ x.r = r then mine ws q r ++ [x] else mine ws q r := by
  unfold mine
  rw [List.filter_append]
  by_cases h : okW ws x.w ∧ x.r = r
  · rw [if_pos h]; simp [h]
  · rw [if_neg h]; simp [h]
structure FndP (ws : List Wd) (q : List Po) (F : List Mt) : Prop where
  nd : (F.map (·.r)).Nodup
  cnt : ∀ m ∈ F, m.c = (mine ws q m.r).length ∧ (∃ x ∈ mine ws q m.r, x.n = m.n) ∧ ∀ x ∈ mine ws q m.r, m.n ≤ x.n
  all : ∀ x ∈ q, okW ws x.w → x.r ∈ F.map (·.r)
theorem iH (ws : List Wd) (q : List Po) : FndP ws q (fnd ws q) := by
  refine snocI (p := fun q => FndP ws q (fnd ws q)) ?_ ?_ q
  · exact ⟨List.nodup_nil, fun m hm => (by cases hm), fun x hx => (by cases hx)⟩
  · rintro q x ⟨h1, h2, h3⟩
    rw [pU]
    unfold fndF
    by_cases hw : okW ws x.w
    · rw [if_pos hw]
      rcases oN (fnd ws q) x.r with ⟨j, m, e1, e2, e3⟩ | e1
      · rw [oQ e1 e2 e3]
        have hmap : ((fnd ws q).set j ⟨m.r, m.c + 1, min m.n x.n⟩).map (·.r) = (fnd ws q).map (·.r) := by
          rw [List.map_set]
          refine List.ext_getElem? fun i => ?_
          rw [List.getElem?_set]
          by_cases hij : j = i
          · subst hij
            rw [if_pos rfl]
            have hlt := (List.getElem?_eq_some_iff.1 e1).1
            rw [if_pos (by simpa using hlt), List.getElem?_map, e1]; rfl
          · rw [if_neg hij]
        refine ⟨by rw [hmap]; exact h1, fun k hk => ?_, fun y hy hyw => ?_⟩
        · obtain ⟨i, hi⟩ := List.mem_iff_getElem?.1 hk
          rw [List.getElem?_set] at hi
          by_cases hij : j = i
          · subst hij
            rw [if_pos rfl] at hi
            have hlt := (List.getElem?_eq_some_iff.1 e1).1
            rw [if_pos hlt] at hi
            injection hi with hi
            subst hi
            obtain ⟨c1, ⟨y, hy, hyn⟩, c3⟩ := h2 m (List.mem_of_getElem? e1)
            rw [iL, if_pos ⟨hw, e2.symm⟩]
            refine ⟨by simp [c1], ?_, fun z hz => ?_⟩
            · by_cases hle : m.n ≤ x.n
              · exact ⟨y, by simp [hy], by simp only; omega⟩
              · exact ⟨x, by simp, by simp only; omega⟩
            · simp only
              rcases List.mem_append.1 hz with hz | hz
              · have := c3 z hz; omega
              · rw [List.mem_singleton.1 hz]; omega
          · rw [if_neg hij] at hi
            have hk := List.mem_of_getElem? hi
            have hne : x.r ≠ k.r := fun e => by
              obtain ⟨p1, p2⟩ := List.getElem?_eq_some_iff.1 hi
              obtain ⟨p3, p4⟩ := List.getElem?_eq_some_iff.1 e1
              have := (List.nodup_iff_pairwise_ne.1 h1)
              rw [List.pairwise_iff_getElem] at this
              rcases Nat.lt_or_gt_of_ne hij with hlt | hlt
              · exact this j i (by simpa using p3) (by simpa using p1) hlt (by simp [p2, p4, e2, e])
              · exact this i j (by simpa using p1) (by simpa using p3) hlt (by simp [p2, p4, e2, e])
            rw [iL, if_neg fun h => hne h.2]
            exact h2 k hk
        · rw [hmap]
          rcases List.mem_append.1 hy with hy | hy
          · exact h3 y hy hyw
          · rw [List.mem_singleton.1 hy, ← e2]
            exact List.mem_map_of_mem (List.mem_of_getElem? e1)
      · rw [oR e1]
        refine ⟨?_, fun k hk => ?_, fun y hy hyw => ?_⟩
        · rw [List.map_append, List.nodup_append]
          refine ⟨h1, by simp, fun a ha b hb e => ?_⟩
          obtain ⟨m, hm, rfl⟩ := List.mem_map.1 ha
          have : b = x.r := by simpa using hb
          exact e1 m hm (by rw [e, this])
        · rcases List.mem_append.1 hk with hk | hk
          · rw [iL, if_neg fun h => e1 k hk h.2.symm]
            exact h2 k hk
          · rw [List.mem_singleton.1 hk]
            have hno : mine ws q x.r = [] := List.filter_eq_nil_iff.2 fun y hy h => by
              obtain ⟨a1, a2⟩ := of_decide_eq_true h
              have := h3 y hy a1
              rw [a2] at this
              obtain ⟨m, hm, e⟩ := List.mem_map.1 this
              exact e1 m hm e
            simp only [iL, hno]
            rw [if_pos (by simp [hw])]
            exact ⟨rfl, ⟨x, by simp, rfl⟩, fun y hy => by simp at hy; rw [hy]; exact Int.le_refl _⟩
        · rw [List.map_append, List.mem_append]
          rcases List.mem_append.1 hy with hy | hy
          · exact .inl (h3 y hy hyw)
          · rw [List.mem_singleton.1 hy]; exact .inr (by simp)
    · rw [if_neg hw]
      refine ⟨h1, fun m hm => ?_, fun y hy hyw => ?_⟩
      · rw [iL, if_neg fun h => hw h.1]
        exact h2 m hm
      · rcases List.mem_append.1 hy with hy | hy
        · exact h3 y hy hyw
        · rw [List.mem_singleton.1 hy] at hyw; exact absurd hyw hw
def addW (D : List Wd) (w : Wd) : List Wd := if w ∈ D then D else D ++ [w]
def dedW (ws : List Wd) : List Wd := ws.foldl addW []
theorem rP (ws : List Wd) (w : Wd) : dedW (ws ++ [w]) = addW (dedW ws) w := by unfold dedW; rw [List.foldl_append]; rfl
theorem dedW_step {ws : List Wd} {i : Nat} {w : Wd} (h : ws[i]? = some w) : dedW (ws.take (i + 1)) = addW (dedW (ws.take i)) w := by rw [List.take_add_one, h, Option.toList_some, rP]
theorem gI (ws : List Wd) : (dedW ws).Nodup ∧ (∀ w, w ∈ dedW ws ↔ w ∈ ws) ∧ (dedW ws).length ≤ ws.length := by
  refine snocI (p := fun ws => (dedW ws).Nodup ∧ (∀ w, w ∈ dedW ws ↔ w ∈ ws) ∧ (dedW ws).length ≤ ws.length) ?_ ?_ ws
  · exact ⟨List.nodup_nil, fun w => Iff.rfl, Nat.le_refl _⟩
  · rintro ws w ⟨h1, h2, h3⟩
    rw [rP]
    unfold addW
    by_cases hw : w ∈ dedW ws
    · rw [if_pos hw]
      refine ⟨h1, fun v => ?_, by rw [List.length_append]; omega⟩
      rw [h2, List.mem_append, List.mem_singleton]
      exact ⟨.inl, fun h => h.elim id fun e => e ▸ (h2 w).1 hw⟩
    · rw [if_neg hw]
      refine ⟨?_, fun v => by rw [List.mem_append, List.mem_append, h2], by simp only [List.length_append, List.length_singleton]; omega⟩
      rw [List.nodup_append]
      exact ⟨h1, by simp, fun a ha b hb e => hw (by rw [← List.mem_singleton.1 hb, ← e]; exact ha)⟩
theorem nI {α : Type} [DecidableEq α] : ∀ {l m : List α}, l.Nodup → (∀ x ∈ l, x ∈ m) → l.length ≤ m.length
  | [], m, _, _ => Nat.zero_le _
  | x :: l, m, h, hs => by
    obtain ⟨h1, h2⟩ := List.nodup_cons.1 h
    have hx := hs x (by simp)
    have := nI (l := l) (m := m.erase x) h2 fun y hy => (List.mem_erase_of_ne (fun e => h1 (by rw [← e]; exact hy))).2 (hs y (by simp [hy]))
    have h3 := List.length_erase_of_mem hx
    have h4 : 0 < m.length := List.length_pos_of_mem hx
    rw [List.length_cons]; omega
theorem zM {α : Type} [DecidableEq α] {l m : List α} (h : l.Nodup) (hs : ∀ x ∈ l, x ∈ m) (hl : m.length ≤ l.length) : ∀ x ∈ m, x ∈ l := fun x hx => by
  by_cases hm : x ∈ l
  · exact hm
  · have := nI (l := x :: l) (m := m) (List.nodup_cons.2 ⟨hm, h⟩) fun y hy => (List.mem_cons.1 hy).elim (fun e => by rw [e]; exact hx) (hs y)
    rw [List.length_cons] at this; omega
def srchL (p : List Po) (ws : List Wd) : List En := ((fnd ws p).filter fun m => decide ((dedW ws).length ≤ m.c)).map fun m => ⟨m.r, m.n⟩
def leE (a b : En) : Bool := decide (cmpR a.r b.r ≤ 0)
def srchP (p : List Po) (ws : List Wd) : List En := (srchL p ws).mergeSort leE
structure Hit (ws : List Wd) (p : List Po) (e : En) : Prop where
  some : ∃ x ∈ mine ws p e.r, x.n = e.n
  le : ∀ x ∈ mine ws p e.r, e.n ≤ x.n
  all : ∀ w ∈ ws, ∃ x ∈ p, x.w = w ∧ x.r = e.r
theorem mY {x y : Po} (h1 : x.w = y.w) (h2 : x.r = y.r) : cmpP x y = 0 := by
  unfold cmpP
  have h0 : Lib.compareBytes x.w y.w = 0 := by
    have := gc_B.anti x.w y.w
    rw [h1] at this ⊢
    omega
  rw [if_neg (by omega), h2]
  exact dE _
theorem zL {ws : List Wd} {p : List Po} (hp : p.Pairwise fun x y => cmpP x y < 0) (r : List Vl) : ((mine ws p r).map (·.w)).Nodup := by
  have h := hp.filter (fun x => decide (okW ws x.w ∧ x.r = r))
  rw [List.nodup_iff_pairwise_ne, List.pairwise_map]
  refine (List.Pairwise.and_mem.1 h).imp fun {x y} ⟨hx, hy, hlt⟩ e => ?_
  have h1 := (mine_mem (ws := ws) (q := p) (r := r) (x := x)).1 hx
  have h2 := (mine_mem (ws := ws) (q := p) (r := r) (x := y)).1 hy
  have := mY e (h1.2.2.trans h2.2.2.symm)
  omega
theorem srchL_mem {p : List Po} {ws : List Wd} (hp : p.Pairwise fun x y => cmpP x y < 0) (e : En) : e ∈ srchL p ws ↔ Hit ws p e := by
  obtain ⟨f1, f2, f3⟩ := iH ws p
  obtain ⟨d1, d2, d3⟩ := gI ws
  have hnd := fun r => zL (ws := ws) hp r
  have hsub : ws ≠ [] → ∀ r, ∀ w ∈ (mine ws p r).map (·.w), w ∈ dedW ws := fun h0 r w hw => by
    obtain ⟨x, hx, rfl⟩ := List.mem_map.1 hw
    obtain ⟨_, h2, _⟩ := mine_mem.1 hx
    exact (d2 _).2 (h2.elim (fun e => absurd e h0) id)
  unfold srchL
  constructor
  · intro h
    obtain ⟨m, hm, rfl⟩ := List.mem_map.1 h
    obtain ⟨h1, h2⟩ := List.mem_filter.1 hm
    have h2 := of_decide_eq_true h2
    obtain ⟨c1, c2, c3⟩ := f2 m h1
    refine ⟨c2, c3, fun w hw => ?_⟩
    have h0 : ws ≠ [] := fun e => by rw [e] at hw; cases hw
    have := zM (hnd m.r) (hsub h0 m.r) (by rw [List.length_map, ← c1]; exact h2) w ((d2 w).2 hw)
    obtain ⟨x, hx, hxw⟩ := List.mem_map.1 this
    obtain ⟨q1, _, q3⟩ := mine_mem.1 hx
    exact ⟨x, q1, hxw, q3⟩
  · rintro ⟨⟨x, hx, hxn⟩, hle, hall⟩
    obtain ⟨q1, q2, q3⟩ := mine_mem.1 hx
    obtain ⟨m, hm, hmr⟩ := List.mem_map.1 (f3 x q1 q2)
    rw [q3] at hmr
    obtain ⟨c1, ⟨y, hy, hyn⟩, c3⟩ := f2 m hm
    rw [hmr] at c1 hy c3
    refine List.mem_map.2 ⟨m, List.mem_filter.2 ⟨hm, decide_eq_true ?_⟩, ?_⟩
    · rw [c1, ← List.length_map (f := Po.w)]
      refine nI d1 fun w hw => ?_
      obtain ⟨z, z1, z2, z3⟩ := hall w ((d2 w).1 hw)
      exact List.mem_map.2 ⟨z, mine_mem.2 ⟨z1, .inr (z2 ▸ (d2 w).1 hw), z3⟩, z2⟩
    · have h1 := hle y hy
      have h2 := c3 x hx
      obtain ⟨er, en⟩ := e
      simp only at hmr hxn h1
      rw [hmr, show m.n = en by omega]
theorem xB (p : List Po) (ws : List Wd) : ((srchL p ws).map (·.r)).Nodup := by
  obtain ⟨f1, _, _⟩ := iH ws p
  unfold srchL
  rw [List.map_map]
  exact (List.Sublist.map _ (List.filter_sublist (l := fnd ws p) (p := fun m => decide ((dedW ws).length ≤ m.c)))).nodup f1
theorem qU {p : List Po} {ws : List Wd} (q : List Vl → Prop) (h : ∀ x ∈ p, q x.r) : ∀ m ∈ fnd ws p, q m.r := fun m hm => by
  obtain ⟨_, f2, _⟩ := iH ws p
  obtain ⟨_, ⟨x, hx, _⟩, _⟩ := f2 m hm
  obtain ⟨h1, _, h3⟩ := mine_mem.1 hx
  exact h3 ▸ h x h1
theorem fO (p : List Po) (ws : List Wd) : (srchP p ws).Perm (srchL p ws) := List.mergeSort_perm _ _
theorem leE_tr (a b c : En) (h1 : leE a b = true) (h2 : leE b c = true) : leE a c = true := by
  unfold leE at *
  exact decide_eq_true (gc_R.tr _ _ _ (of_decide_eq_true h1) (of_decide_eq_true h2))
theorem leE_tot (a b : En) : (leE a b || leE b a) = true := by
  unfold leE
  have := gc_R.anti a.r b.r
  rw [Bool.or_eq_true, decide_eq_true_iff, decide_eq_true_iff]
  omega
theorem sQ {p : List Po} {ws : List Wd} (ho : ∀ x ∈ p, ∀ v ∈ x.r, okP v) : srtE (srchP p ws) := by
  have h1 : (srchP p ws).Pairwise fun a b => leE a b = true := List.pairwise_mergeSort leE_tr leE_tot _
  have h2 : ((srchP p ws).map (·.r)).Nodup := ((fO p ws).map _).nodup_iff.2 (xB p ws)
  rw [List.nodup_iff_pairwise_ne, List.pairwise_map] at h2
  have hok : ∀ e ∈ srchP p ws, ∀ v ∈ e.r, okP v := fun e he => by
    have := (fO p ws).mem_iff.1 he
    unfold srchL at this
    obtain ⟨m, hm, rfl⟩ := List.mem_map.1 this
    exact qU (fun r => ∀ v ∈ r, okP v) ho m (List.mem_filter.1 hm).1
  refine (List.Pairwise.and_mem.1 (h1.and h2)).imp fun {a b} ⟨ha, hb, h3, h4⟩ => ?_
  have h3 := of_decide_eq_true h3
  by_cases h : cmpR a.r b.r = 0
  · exact absurd (fB (hok a ha) (hok b hb) h) h4
  · omega
theorem fN {p : List Po} {ws : List Wd} (hp : p.Pairwise fun x y => cmpP x y < 0) (e : En) : e ∈ srchP p ws ↔ Hit ws p e := (fO p ws).mem_iff.trans (srchL_mem hp e)
theorem lS {p : List Po} {ws : List Wd} {L : List En} (hp : p.Pairwise fun x y => cmpP x y < 0) (ho : ∀ x ∈ p, ∀ v ∈ x.r, okP v) (hs : srtE L) (hL : ∀ e, e ∈ L ↔ Hit ws p e) : L = srchP p ws :=
  uF hs (sQ ho) fun e => (hL e).trans (fN hp e).symm
theorem Hit.of {ws us : List Wd} {p : List Po} {e : En} (h : ∀ w, w ∈ ws ↔ w ∈ us) (hh : Hit ws p e) : Hit us p e := by
  have hm : mine ws p e.r = mine us p e.r := by
    unfold mine
    refine List.filter_congr fun x _ => ?_
    have : okW ws x.w ↔ okW us x.w := by
      unfold okW
      rw [h x.w]
      refine or_congr ⟨fun e0 => ?_, fun e0 => ?_⟩ Iff.rfl
      · exact List.eq_nil_iff_forall_not_mem.2 fun w hw => by have := (h w).2 hw; rw [e0] at this; cases this
      · exact List.eq_nil_iff_forall_not_mem.2 fun w hw => by have := (h w).1 hw; rw [e0] at this; cases this
    simp only [this]
  obtain ⟨h1, h2, h3⟩ := hh
  rw [hm] at h1 h2
  exact ⟨h1, h2, fun w hw => h3 w ((h w).2 hw)⟩
end Go.Proofs.YtccnhpaldmjkbaaGreat
namespace Go.Proofs.YtccnhpaldmjkbaaGreat
open Go Go.RowKit Go.Av
set_option maxRecDepth 100000
theorem lk_mem {p : List Po} {w : Wd} {e : En} : e ∈ lkP p w ↔ ∃ x ∈ p, x.w = w ∧ x.r = e.r ∧ x.n = e.n := by
  unfold lkP
  constructor
  · intro h
    obtain ⟨x, hx, rfl⟩ := List.mem_map.1 h
    obtain ⟨h1, h2⟩ := List.mem_filter.1 hx
    exact ⟨x, h1, of_decide_eq_true h2, rfl, rfl⟩
  · rintro ⟨x, h1, h2, h3, h4⟩
    exact List.mem_map.2 ⟨x, List.mem_filter.2 ⟨h1, decide_eq_true h2⟩, by obtain ⟨er, en⟩ := e; simp only at h3 h4; rw [h3, h4]⟩
theorem cmpP_same {x y : Po} (h : x.w = y.w) : cmpP x y = cmpR x.r y.r := by
  unfold cmpP
  have h0 : Lib.compareBytes x.w y.w = 0 := by
    have := gc_B.anti x.w y.w
    rw [h] at this ⊢
    omega
  rw [if_neg (by omega)]
theorem zK {p : List Po} (hp : p.Pairwise fun x y => cmpP x y < 0) (w : Wd) : srtE (lkP p w) := by
  unfold srtE lkP
  rw [List.pairwise_map]
  refine (List.Pairwise.and_mem.1 (hp.filter fun x => decide (x.w = w))).imp fun {x y} ⟨hx, hy, h⟩ => ?_
  have h1 := of_decide_eq_true (List.mem_filter.1 hx).2
  have h2 := of_decide_eq_true (List.mem_filter.1 hy).2
  rw [cmpP_same (h1.trans h2.symm)] at h
  exact h
theorem srch_row {p : List Po} {ws : List Wd} (hp : p.Pairwise fun x y => cmpP x y < 0) (h0 : ws ≠ []) (r : List Vl) : r ∈ (srchP p ws).map (·.r) ↔ ∀ w ∈ ws, ∃ x ∈ p, x.w = w ∧ x.r = r := by
  constructor
  · intro h
    obtain ⟨e, he, rfl⟩ := List.mem_map.1 h
    exact ((fN hp e).1 he).all
  · intro h
    obtain ⟨w, hw⟩ : ∃ w, w ∈ ws := List.exists_mem_of_ne_nil _ h0
    obtain ⟨x, h1, h2, h3⟩ := h w hw
    obtain ⟨f1, f2, f3⟩ := iH ws p
    obtain ⟨m, hm, hmr⟩ := List.mem_map.1 (f3 x h1 (.inr (h2 ▸ hw)))
    rw [h3] at hmr
    obtain ⟨_, c2, c3⟩ := f2 m hm
    rw [hmr] at c2 c3
    exact List.mem_map.2 ⟨⟨r, m.n⟩, (fN hp _).2 ⟨c2, c3, h⟩, rfl⟩
def zrE (e : En) : En := ⟨e.r, 0⟩
def bothE (a b : List En) : List En := a.filter fun e => decide (e.r ∈ b.map (·.r))
def cntB (a b : List En) (i j : Nat) (r : List Vl) : Nat := (bothE (a.take i) b).length + if r ∈ (b.take j).map (·.r) then 1 else 0
end Go.Proofs.YtccnhpaldmjkbaaGreat
