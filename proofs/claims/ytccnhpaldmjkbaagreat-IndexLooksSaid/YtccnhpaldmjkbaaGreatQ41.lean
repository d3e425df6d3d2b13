/-
  Joined texts: AvTq JV. Lemmas; no statement of a law.
-/
import Derived.Test.YtccnhpaldmjkbaaGreatQ32
import Derived.Test.YtccnhpaldmjkbaaGreatQ36
import Derived.Test.YtccnhpaldmjkbaaGreatQ39
set_option maxHeartbeats 16000000
set_option linter.unusedSimpArgs false
set_option linter.unusedVariables false
namespace Go.Av
open Go Go.RowKit

def ACTq (P : Program) (f : FuncId) (T : TypeId) (c0 : List CV) (q : CV) (c1 : List CV) (r : CV) : Prop :=
  ∀ (ok : Nat → Prop) (w : World) (g : Nat) (us0 : List Value) (v1 : Value), ¬ ok g → w.heap[g]? = some (.cells us0.toArray T (0, 0)) → RepCs ok w c0 us0 → RepC ok w q v1 →
    Calls P f #[v1, Value.pointer (some ⟨g, 0, none⟩)] w fun e w' => ∃ v us1, e = .returned v ∧ FrB w [g] w' ∧ w'.heap[g]? = some (.cells us1.toArray T (0, 0)) ∧ RepCs (okg ok w g) w' c1 us1 ∧ RepC (okg ok w g) w' r v
theorem repc_one {ok : Nat → Prop} {w : World} {q : CV} {v : Value} (h : RepCs ok w [q] [v]) : RepC ok w q v := by
  simp only [RepCs] at h
  obtain ⟨u, us, e, h1, _⟩ := h
  injection e with e1 _
  rw [e1]; exact h1
section call
variable {P : Program} {ev : Evl} {h : Heap} {d : Option Tmp} {ty : TypeId} {pos : String} {aft : Array Edge} {gd : Option (Nat × Bool)} {i : Nat} {f : FuncId} {x0 x1 : Operand} {ats : Array TypeId} {T : TypeId} {c0 c1 cs : List CV} {q : CV} {a0 : List AV} {r : CV} {id : Nat}
theorem vF (hac : ACTq P f T c0 q c1 r) (hb : Body P f) (hx0 : ev x0 = some (.ref id 0)) (ho : lk h id = some (.blk T a0)) (ha0 : a0 = c0.map AV.c) (hx : argsC ev [x1] = some cs) (hcv : CvL cs [q]) (hl : c1.length = c0.length) :
    EStep P ⟨d, .call ⟨.value (.func f), [x1, x0].toArray, ats⟩, ty, pos, aft, gd⟩ ev h (.c r) [] (some (id, some (.blk T (c1.map AV.c)))) i i := by
  subst ha0
  intro B dom M H w a K Q hh hn hc he hK
  have hargs : RepCs (okOf B dom M H) w cs ([x1].map a.eval) := RepL.toC (C := ⟨dom, M, okOf B dom M H, w⟩) (eI he (by rw [fU hx, List.map_map]; rfl))
  have hp := he x0 _ hx0
  simp only [Rep] at hp
  obtain ⟨hid, g, hM, hp⟩ := hp
  obtain ⟨us0, hb0, hus0⟩ := eN hh hc ho hid hM
  have hng : ¬ okOf B dom M H g := fun hk => hk.2 id _ hid (hh id _ ho hid) hM
  unfold Oper.wp execOp
  simp only [resolve, Deferred.ofValue, Act.eval, invoke, Sem.run_bind, Sem.run_pure, Result.andThen_ok, List.map_toArray, Array.append_empty, Body.run hb, Oper.upon]
  rw [show (#[] ++ (List.map a.eval [x1, x0]).toArray : Array Value) = #[a.eval x1, Value.pointer (some ⟨g, 0, none⟩)] by simp [hp]]
  refine (hac _ w g us0 _ hng hb0 (RepL.toC hus0) (repc_one (hcv _ _ _ hargs))).mono ?_
  rintro e w' ⟨v, us1, rfl, hfr, hb1, hus1, hv⟩
  simp only
  have hgs := bN hb0
  have hg1 : (w'.putObj g (.cells us0.toArray T (0, 0))).heap[g]? = some (.cells us0.toArray T (0, 0)) := World.putObj_heap_same (bN hb1)
  have ho1 : ∀ k, k ≠ g → (w'.putObj g (.cells us0.toArray T (0, 0))).heap[k]? = w'.heap[k]? := fun k hk => World.putObj_heap_other (fun e => hk e)
  generalize hw1 : w'.putObj g (.cells us0.toArray T (0, 0)) = w1 at hg1 ho1
  have hs1 : w1.heap.size = w'.heap.size := by rw [← hw1]; simp [World.putObj]
  have hbl : Below w.heap.size w w1 := ⟨by rw [← hw1]; exact hfr.os, by rw [← hw1]; exact hfr.tape, by rw [← hw1]; exact hfr.output, by rw [hs1]; exact hfr.size, fun k hk => by
    by_cases e : k = g
    · subst e; rw [hg1, hb0]
    · rw [ho1 k e]; exact hfr.block k hk (by simp [e])⟩
  have hgr := hc.grow hbl i i (M' := M) (fun id _ => rfl) (fun id h1 h2 => by omega) (fun id o h1 h2 => by omega) (fun id id' o o' g h1 h2 => by omega) (fun hext id o h1 h2 => by omega)
  rw [cQ] at hgr
  obtain ⟨g1, g2⟩ := hgr
  have hmon : Keeps (okg (okOf B dom M H) w g) (okOf B dom M (ov (some (id, some (.blk T (c1.map AV.c)))) H)) w' w' := fun b hb hl => by
    refine ⟨⟨?_, fun k o hk hH he => ?_⟩, hl, rfl⟩
    · rcases hb.1 with h1 | h1
      · exact h1.1
      · exact .inr (.inl (Nat.le_trans hc.fr.size h1))
    · by_cases e : k = id
      · subst e
        rw [hM] at he
        injection he with he
        exact hb.2 he.symm
      · rw [gT (fun x hx => e (congrArg Prod.fst (Option.some.inj hx)).symm)] at hH
        rcases hb.1 with h1 | h1
        · exact h1.2 k o hk hH he
        · have := (hc.obj k o hk hH).lt b he
          simp only at this
          omega
  obtain ⟨k1, k2⟩ := g1.turnE (o' := .blk T (c1.map AV.c)) (w' := w') hid (hh id _ ho hid) hM (by rw [← hw1]; rfl) (by rw [← hw1]; rfl) (by rw [← hw1]; rfl) hs1.symm (fun k hk => (ho1 k hk).symm)
    (by
      unfold World.shape?
      rw [hb1, hg1]
      have e1 := hus1.length
      have e2 := (RepL.toC hus0).length
      simp only [List.size_toArray]
      rw [e1, e2, hl])
    (fun hext => ⟨g, us1, rfl, hb1, RepL.ofC (RepCs.mono hmon _ _ hus1)⟩)
  rw [cQ] at hK
  exact hK v w' M (g2.trans k2) k1 (RepC.mono hmon _ _ hv)
end call

section call
variable {P : Program} {sz n i n0 m : Nat} {env env0 : Env} {h h0 hr : Heap} {dfs : Defs} {K : AK} {ops : Array Oper} {l rest : List Oper} {d : Option Tmp} {es : List Eat} {ids : List Nat} {t : Nat} {ty : TypeId} {pos : String} {aft : Array Edge} {gd : Option (Nat × Bool)} {f : FuncId} {x0 x1 : Operand} {ats : Array TypeId} {T : TypeId} {c0 c1 cs : List CV} {q : CV} {a0 a1 : List AV} {r : CV} {id : Nat}
theorem yK (hac : ACTq P f T c0 q c1 r) (hg : guardA ops env ⟨d, .call ⟨.value (.func f), [x1, x0].toArray, ats⟩, ty, pos, aft, gd⟩ true) (hd : dstOk d sz = true) (hb : Body P f) (hx0 : evA env x0 = some (.ref id 0)) (ho : lk h id = some (.blk T a0)) (ha0 : a0 = c0.map AV.c) (hx : argsC (evA env) [x1] = some cs) (hcv : CvL cs [q]) (hl : c1.length = c0.length) (ha1 : a1 = c1.map AV.c)
    (next : AWL P ops sz rest K n (putE env d (.c r)) ((id, .blk T a1) :: h) dfs) : AWL P ops sz (⟨d, .call ⟨.value (.func f), [x1, x0].toArray, ats⟩, ty, pos, aft, gd⟩ :: rest) K n env h dfs := by
  subst ha1
  exact gN (c := some (id, some (.blk T (c1.map AV.c)))) (Δ := []) hg hd (Nat.le_refl _) rfl (vF hac hb hx0 ho ha0 hx hcv hl) (fun id h1 h2 => by omega) (by simp) next
theorem d_callTq (hac : ACTq P f T c0 q c1 r) (hg : guardA l.toArray env ⟨some t, .call ⟨.value (.func f), [x1, x0].toArray, ats⟩, ty, pos, aft, gd⟩ true) (hi : idsF env (Oper.looksAt l.toArray ⟨some t, .call ⟨.value (.func f), [x1, x0].toArray, ats⟩, ty, pos, aft, gd⟩) = some ids) (hfl : filtF ids h = some hr) (hb : Body P f)
    (hx0 : evT (Oper.looksAt l.toArray ⟨some t, .call ⟨.value (.func f), [x1, x0].toArray, ats⟩, ty, pos, aft, gd⟩) env x0 = some (.ref id 0)) (ho : lk hr id = some (.blk T a0)) (ha0 : a0 = c0.map AV.c) (hx : argsC (evT (Oper.looksAt l.toArray ⟨some t, .call ⟨.value (.func f), [x1, x0].toArray, ats⟩, ty, pos, aft, gd⟩) env) [x1] = some cs) (hcv : CvL cs [q]) (hl : c1.length = c0.length) (ha1 : a1 = c1.map AV.c) (hin : Nat.blt id n = true)
    (next : DrwE P l sz K dfs i n0 env0 h0 (es ++ [(ids, some (id, some (.blk T a1)))]) m rest n ((t, .c r) :: env) ((id, .blk T a1) :: h)) : DrwE P l sz K dfs i n0 env0 h0 es (m + 1) (⟨some t, .call ⟨.value (.func f), [x1, x0].toArray, ats⟩, ty, pos, aft, gd⟩ :: rest) n env h := by
  subst ha1
  exact dS (v := .c r) (Δ := []) hg (Nat.le_refl _) (cR hfl) (by simp) (c := some (id, some (.blk T (c1.map AV.c)))) rfl (fun k x e => by
    injection e with e; injection e with e1 e2; subst e1
    exact ⟨(cR hfl _ _ ho).2, by simpa [Nat.blt_eq] using hin⟩) (vF hac hb hx0 ho ha0 hx hcv hl) (fun id h1 h2 => by omega) (by simp) next
end call

section enter
theorem yF {P : Program} {tab : Tab} (tb : TabOk P tab) {f : FuncId} {fn : Func} {c : Code} {T : TypeId} {c0 c1 : List CV} {q r : CV} {sz : Nat} (hf : P.funcs[f]? = some fn) (hb : fn.body = some c) (hsz : max fn.ntmps 2 = sz)
    (hx : AW P sz c (RetT P tab fn.results.toList T c1 r) 1 (enumA 0 [.c q, .ref 0 0]) [(0, .blk T (c0.map AV.c))] [(none, [.ref 0 0])])     : ACTq P f T c0 q c1 r := by
  intro ok w g us0 v1 hng hb0 hc0 hvs
  have hok : ∀ b, ok b → okOf ⟨w, [g], ok, [.pointer (some ⟨g, 0, none⟩)]⟩ (lt 1) (fun _ => some g) (lk [(0, .blk T (c0.map AV.c))]) b := fun b hk => ⟨.inl hk, fun id o hid hH he => by
    injection he with he; subst he; exact hng hk⟩
  have hall : RepL (cx ⟨w, [g], ok, [.pointer (some ⟨g, 0, none⟩)]⟩ 1 (fun _ => some g) [(0, .blk T (c0.map AV.c))] w) [.c q, .ref 0 0] [v1, .pointer (some ⟨g, 0, none⟩)] :=
    ⟨_, _, rfl, RepC.mono (fun b hb hl => ⟨hok b hb, hl, rfl⟩) _ _ hvs, ⟨_, _, rfl, ⟨Nat.zero_lt_one, g, rfl, rfl⟩, rfl⟩⟩
  have hcc : ConcH ⟨w, [g], ok, [.pointer (some ⟨g, 0, none⟩)]⟩ (lt 1) (fun _ => some g) (lk [(0, .blk T (c0.map AV.c))]) w := by
    refine ⟨FrB.refl _ _, fun id o hid hH => ?_, fun id id' o o' g' h1 h2 _ _ _ _ => by simp only [lt] at h1 h2; omega, fun id o g' _ _ he => .inr (by injection he with he; simp [he])⟩
    have hid : id < 1 := hid
    obtain rfl : id = 0 := by omega
    have : some (AObj.blk T (c0.map AV.c)) = some o := hH
    injection this with this
    subst this
    exact ⟨g, us0, rfl, hb0, RepL.ofC (RepCs.mono (fun b hb hl => ⟨hok b hb, hl, rfl⟩) _ _ hc0)⟩
  refine eX hf hb (wp_mono (iR (hx ⟨w, [g], ok, [.pointer (some ⟨g, 0, none⟩)]⟩ _ w ⟨fun _ => some g, hcc, ?_, ?_, ?_⟩)) ?_)
  · simp; omega
  · intro t av ht
    obtain ⟨h1, h2⟩ := iG ht
    rw [Nat.sub_zero] at h2
    obtain ⟨u, hu, hru⟩ := hall.get h2
    have : (#[v1, Value.pointer (some ⟨g, 0, none⟩)] ++ Array.replicate (fn.ntmps - #[v1, Value.pointer (some ⟨g, 0, none⟩)].size) undef).getD t undef = u := by
      have hlt := (List.getElem?_eq_some_iff.1 hu).1
      rw [Array.getD_eq_getD_getElem?, Array.getElem?_append_left (by simpa using hlt)]
      rw [show #[v1, Value.pointer (some ⟨g, 0, none⟩)] = [v1, Value.pointer (some ⟨g, 0, none⟩)].toArray from rfl, List.getElem?_toArray, hu]
      rfl
    rw [this]
    exact hru
  · exact ⟨⟨_, _, rfl, ⟨Nat.zero_lt_one, g, rfl, rfl⟩, rfl⟩, rfl⟩
  · intro e a w' hq
    obtain ⟨n, env, h, dfs, ⟨h1, h2, h3, v, h4, h5⟩, M, d1, d2, d3, d4⟩ := hq
    have : LeavesM P fn a.tmps (fun e w' => ∃ v us1, e = .returned v ∧ FrB w [g] w' ∧ w'.heap[g]? = some (.cells us1.toArray T (0, 0)) ∧ RepCs (okg ok w g) w' c1 us1 ∧ RepC (okg ok w g) w' r v) a.defers w' := by
      refine dU h2 d1 d4 fun w2 g1 g2 => ?_
      obtain ⟨u, k1, k2⟩ := h4.run tb g1 (fun t av ht => Rep.ext g2 _ _ (d3 t av ht))
      have hfr := RepL.ext g2 _ _ (iI h3 d4)
      simp only [RepL, Rep] at hfr
      obtain ⟨u0, us', e1, ⟨hn, g', hM, e2⟩, _⟩ := hfr
      injection e1 with e1 e3
      rw [← e1] at e2
      injection e2 with e2
      injection e2 with e2
      injection e2 with e2 e4
      subst e2
      obtain ⟨us1, p1, p2, p3⟩ := h5 _ g M w2 u rfl hM hn g1 k1
      exact ⟨u, k2, u, us1, rfl, g1.fr, p1, p2, p3⟩
    rcases h1 with rfl | rfl <;> exact this
end enter
end Go.Av
namespace Go.Proofs.YtccnhpaldmjkbaaGreat
open Go Go.RowKit Go.Av
set_option maxRecDepth 100000
attribute [local irreducible] Still Adds AWL AW Drw DrwE EStep AC AWR Weak Frz Src RetK Out InK ItK AsK RdK RetT OutT ACT ACTq
open Classical in
theorem vX (p : List Po) (n : Nat) (ws : List Wd) (k : Nat) (hn : p.length = n) (hm : n ≤ maxLen) (hk : ws.length = k) (hf : ∀ x ∈ p, x.r.length ≤ maxLen ∧ x.w.length ≤ maxLen) (hv : ¬ valP p) : AC Tryz.prog 36 [.sl 3 n (pc p), .sl 1 k (strc ws)] (.c (.sl 2 0 [])) [] 0 := by
  have h1 := mB p n hn hm hf
  rw [decide_eq_false hv] at h1
  refine aJ tabOk (sz := 117) Tryz.func36 rfl (by rw [Tryz.ntmps36]; rfl) ?_
  repeat' (first | ((with_reducible refine aB ?_); intro K hK hX) | ((with_reducible refine aC ?_); refine aD [0, 1, 4, 5, 7, 8, 9, 11, 12, 13, 14, 15, 17, 22, 23, 24, 32, 33, 34, 93, 94, 95] rfl rfl ?_) | ((with_reducible refine aF ?_); refine aG [0, 1, 4, 5, 7, 8, 9, 11, 12, 13, 14, 15, 17, 22, 23, 24, 32, 33, 34, 93, 94, 95] rfl rfl ?_; refine aI [] ?_) | ((first | with_reducible refine aE ?_ | with_reducible refine aT ?_); (first | refine zA ?_ | refine zN ?_ | refine zD ?_); (first | refine c0 h1 ?_)) | refine stA ?_ | refine stD ?_ | ((first | refine hK _ _ _ _ ?_ | refine hX _ _ _ _ _ (by simp) ?_); clear hK hX K))
  refine aK zio (by exact ⟨tM, nF, trivial⟩) rfl (ResL.one (ResA.tmp rfl)) zou
theorem pT {p : List Po} (h : fitP p) : (∀ x ∈ p, x.r.length ≤ maxLen ∧ x.w.length ≤ maxLen) ∧ ∀ x ∈ p, x.r.length ≤ maxLen ∧ x.w.length ≤ 1000000 :=
  ⟨fun x hx => by have := h x hx; simp only [maxLen]; omega, fun x hx => by have := h x hx; simp only [maxLen]; omega⟩
theorem sB (p : List Po) (n : Nat) (w : Wd) (hn : p.length = n) (hm : n ≤ 100000) (hfp : fitP p) : ∃ (M : Nat) (R : List CV), R.length = M * 2 ∧ AC Tryz.prog 38 [.sl 3 n (pc p), sv w] (.c (.sl 2 M R)) [] 0 ∧ AC Tryz.prog 39 [.sl 3 n (pc p), sv w] (.c (.sl 2 M R)) [] 0 ∧ AC Tryz.prog 35 [.sl 2 M R, .sl 2 M R] (.c (bv true)) [] 0 := by
  obtain ⟨f1, f2⟩ := pT hfp
  have hm2 : n ≤ maxLen := by simp only [maxLen]; omega
  by_cases hv : valP p
  · have hl := oK p w
    refine ⟨_, ec (lkP p w), bH _, ilook_ok p n w hn (by omega) f1 hv _ rfl, wO p n w hn (by omega) hv _ rfl, kR _ _ rfl (by omega) fun e he => ?_⟩
    obtain ⟨x, x1, _, x3, _⟩ := lk_mem.1 he
    have := hfp x x1
    rw [← x3]; omega
  · exact ⟨0, [], rfl, ilook_bad p n w hn hm2 f1 hv, rlook_bad p n w hn hm2 f2 hv, kR [] 0 rfl (by omega) (fun e he => by cases he)⟩
theorem srch_both (p : List Po) (n : Nat) (ws : List Wd) (k : Nat) (hn : p.length = n) (hm : n ≤ 100000) (hk : ws.length = k) (hk2 : k ≤ 100000) (hfp : fitP p) : ∃ (M : Nat) (R : List CV), R.length = M * 2 ∧ AC Tryz.prog 36 [.sl 3 n (pc p), .sl 1 k (strc ws)] (.c (.sl 2 M R)) [] 0 ∧ AC Tryz.prog 37 [.sl 3 n (pc p), .sl 1 k (strc ws)] (.c (.sl 2 M R)) [] 0 ∧ AC Tryz.prog 35 [.sl 2 M R, .sl 2 M R] (.c (bv true)) [] 0 := by
  obtain ⟨f1, f2⟩ := pT hfp
  have hm2 : n ≤ maxLen := by simp only [maxLen]; omega
  by_cases hv : valP p
  · have hp := (gL hv).1
    refine ⟨_, ec (srchP p ws), bH _, zJ p n ws k hn hm hk hk2 hv _ rfl, zU p n ws k hn hm hk hk2 hv _ rfl, kR _ _ rfl ?_ fun e he => ?_⟩
    · have h1 := (fO p ws).length_eq
      have h2 := wW (dedW ws).length (fnd ws p)
      have h3 := fnd_len ws p
      have h4 : (srchL p ws).length = (selE (dedW ws).length (fnd ws p)).length := rfl
      omega
    · obtain ⟨x, hx, _⟩ := ((fN hp e).1 he).some
      obtain ⟨x1, _, x3⟩ := mine_mem.1 hx
      have := hfp x x1
      rw [← x3]; omega
  · exact ⟨0, [], rfl, vX p n ws k hn hm2 hk f1 hv, wS p n ws k hn hm2 hk f2 hv, kR [] 0 rfl (by omega) (fun e he => by cases he)⟩
def wdA (n : Nat) (a : Int) : Nat → Int
  | 0 => a
  | i + 1 => nextA n (wdA n a i) 9
theorem wdA_bd (n : Nat) (a : Int) (h1 : 0 ≤ a) (h2 : a ≤ 9223372036854775807) : ∀ i, 0 ≤ wdA n a i ∧ wdA n a i ≤ 9223372036854775807
  | 0 => ⟨h1, h2⟩
  | i + 1 => by
    obtain ⟨h3, h4⟩ := wdA_bd n a h1 h2 i
    exact cB n _ 9 h3 h4
theorem finds_ok (l : List Int) (n : Nat) (a : Int) (hn : l.length = n) (hnn : n ≤ maxLen) (ha0 : 0 ≤ a) (ha : a ≤ 9223372036854775807) (p : List Po) (m : Nat) (hm : p.length = m) (hm2 : m ≤ 100000) (hfp : fitP p) : ACTq Tryz.prog 34 72 (tpC l n a) (.sl 3 m (pc p)) (tpC l n (wdA n a 4)) (bv true) := by
  have hbd := wdA_bd n a ha0 ha
  have hw := fun i => kH l n (wdA n a i) hn hnn (hbd i).1 (hbd i).2
  have hlk := fun w => sB p m w hm hm2 hfp
  have hpl : (pc p).length = m * 3 := by rw [bQ, hm]
  have h0 : tpC l n a = tpC l n (wdA n a 0) := rfl
  have hs : ∀ i, nextA n (wdA n a i) 9 = wdA n a (i + 1) := fun i => rfl
  obtain ⟨A, hA⟩ : ∃ A : Nat → Int, wdA n a = A := ⟨_, rfl⟩
  rw [h0]
  rw [hA] at hw hs ⊢
  simp only [hs] at hw
  clear hbd hfp hs h0 hA
  generalize pc p = P at *
  refine yF tabOk (sz := 21) Tryz.func34 rfl (by rw [Tryz.ntmps34]; rfl) ?_
  repeat' (first | ((with_reducible refine aB ?_); intro K hK hX) | ((with_reducible refine aC ?_); refine aD [0, 1, 4, 5, 6] rfl rfl ?_) | refine stA ?_ | ((first | refine hK _ _ _ _ ?_ | refine hX _ _ _ _ _ (by simp) ?_); clear hK hX K))
  refine bC [5, 6] [0] rfl rfl (fun i : Nat => [(5, .c (iv i))]) (fun i => [(0, .blk 72 ((tpC l n (A i)).map AV.c))]) (fun i => i ≤ 4) (fun i => 4 - i) 0 (Nat.zero_le _) weakA ?_
  intro i hi K hK hX
  by_cases hlt : i < 4
  · have hwi := hw i
    generalize wrdW (nextX l n (A i) 9) = w at *
    obtain ⟨M, R, hR, h1, h2, h3⟩ := hlk w
    clear hw hlk
    repeat' (first | ((with_reducible refine aB ?_); intro K hK hX) | ((with_reducible refine aC ?_); refine aD [0, 1, 4, 5, 6] rfl rfl ?_) | ((with_reducible refine aE ?_); refine aX (hwi) aL rfl zby rfl rfl rfl rfl zcv rfl ztp ?_) | ((with_reducible refine aE ?_); (first | refine zA ?_ | refine zN ?_); (first | refine c0 h1 ?_ | refine c0 h2 ?_ | refine c0 h3 ?_)) | refine stA ?_ | ((first | refine hK _ _ _ _ ?_ | refine hX _ _ _ _ _ (by simp) ?_); clear hK hX K))
    exact ⟨i + 1, by omega, by omega, weakA⟩
  · have hie : i = 4 := by omega
    rw [hie]
    clear hw hlk
    repeat' (first | ((with_reducible refine aB ?_); intro K hK hX) | ((with_reducible refine aC ?_); refine aD [0, 1, 4, 5, 6] rfl rfl ?_) | refine stA ?_ | ((first | refine hK _ _ _ _ ?_ | refine hX _ _ _ _ _ (by simp) ?_); clear hK hX K))
    refine cH zio ztr rfl rfl (ResL.one (ResA.tmp rfl)) (cT zfz rfl rfl)
end Go.Proofs.YtccnhpaldmjkbaaGreat
