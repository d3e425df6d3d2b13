/- Lemmas for laws of the ledger. -/
import Derived.Test.YtbgehdndimlgkaaGreatS29
import Derived.Test.YtbgehdndimlgkaaGreatS30
import Derived.Test.YtbgehdndimlgkaaGreatS31
set_option linter.all false
namespace Go.Proofs.YtbgehdndimlgkaaGreat
open Go Go.RowKit Go.Av
set_option maxRecDepth 100000
attribute [local irreducible] Still Adds AWL AW Drw bX bY AC AWR cU Frz Go.Av.Src cQ Out InK ItK AsK RdK eP eI ACT ACA eW ACG fL AWS lec
theorem cQ3 (l:List LEn) (n:Nat) (hn:l.length=n) (hb:n<=1000000) (hw:OkL l) (p:Int) (q:Nat) (hq:(doneS l p).length=q):qC' 54 [.sl 65 n (lec l),iv p] (.c (.sl 1 q (dE .i64 (doneS l p)))) [] 0:=by
 have hll:(lec l).length=n*65:=by rw [fX hw,hn]
 obtain ⟨D,hD⟩:∃D:Nat->List Int,∀i,doneS (l.take i) p=D i:=⟨_,fun _=>rfl⟩
 obtain ⟨o,ho⟩:∃o:Nat->Nat,∀i,(D i).length=o i:=⟨_,fun _=>rfl⟩
 have hDn:D n=doneS l p:=by rw [<- hD,Ad aA]
 have hon:o n=q:=by rw [<- ho,hDn,hq]
 have hD0:D 0=[]:=by rw [<- hD];rfl
 have ho0:o 0=0:=by rw [<- ho,hD0];rfl
 refine aD aB (sz:=36) Tryz.func54 rfl (by rw [Tryz.ntmps54];rfl) ?_
 repeat' (first|(refine aC ?_;intro K hK hX)|refine zM ?_|(refine aG hK hX ?_;clear hK hX K)|fail)
 refine cB9 5 (.sl 1 0 []) rfl gM ?_
 refine bH [6,5] [] rfl rfl (fun i:Nat=>[(6,.c (iv i)),(5,.c (.sl 1 (o i) (dE .i64 (D i))))]) (fun i=>[]) (fun i=>i<=n) (fun i=>n-i) 0 (Am _) dX2 ?_
 intro i hi K hK hX
 by_cases hlt:i<n
 ·obtain ⟨e,hat⟩:∃e,l[i]? = some e:=⟨_,Ab aA⟩
  have hk0:=fN hw hat 0 aN
  rw [show (ecR e)[0]? = some (iv e.k) from rfl] at hk0
  have hk2:=fN hw hat 2 aN
  rw [show (ecR e)[2]? = some (iv e.plan) from rfl] at hk2
  have hk3:=fN hw hat 3 aN
  rw [show (ecR e)[3]? = some (iv e.step) from rfl] at hk3
  have hs:D (i+1)=if e.k=3/\e.plan=p then insA (fun a b:Int=>a<b) e.step (D i) else D i:=by rw [<- hD,<- hD,iF hat,bE6]
  by_cases h3:e.k=3
  ·by_cases hp:e.plan=p
   ·rw [Ak ⟨h3,hp⟩] at hs
    have hol:o i<=1000000:=by
     have:=kX (lt:=fun a b:Int=>a<b) (((l.take i).filter fun e=>decide (e.k=3/\e.plan=p)).map (·.step))
     have h2:(doneS (l.take i) p).length<=i:=by
      refine At this ?_
      rw [Bm]
      refine At (BK _ _) ?_
      rw [As]
      omega
     rw [hD,ho] at h2
     omega
    have hins:=cR1 (D i) (o i) (ho i) hol (by rw [<- hD];exact (dQ bB3 _).1) e.step (o (i+1)) (by rw [<- hs,ho])
    rw [<- hs] at hins
    clear hD hs
    repeat' (first|(refine aC ?_;intro K hK hX)|refine aK [0,1,4,5,6] ?_|(refine dK ?_;refine c0 hins ?_)|refine eJ ?_|refine stA ?_|(refine aG hK hX ?_;clear hK hX K)|fail)
    exact dS
   ·rw [Aj (fun h=>hp h.2)] at hs
    have hos:o (i+1)=o i:=by rw [<- ho,<- ho,hs]
    clear hD
    repeat' (first|(refine aC ?_;intro K hK hX)|refine aM3 ?_|(refine aG hK hX ?_;clear hK hX K)|fail)
    exact bN3
  ·rw [Aj (fun h=>h3 h.1)] at hs
   have hos:o (i+1)=o i:=by rw [<- ho,<- ho,hs]
   clear hD
   repeat' (first|(refine aC ?_;intro K hK hX)|refine aM3 ?_|(refine aG hK hX ?_;clear hK hX K)|fail)
   exact bN3
 ·obtain hin:i=n:=by omega
  rw [hin,hon,hDn] at *
  repeat' (first|(refine aC ?_;intro K hK hX)|refine zM ?_|(refine aG hK hX ?_;clear hK hX K)|fail)
  exact aY
theorem aQ6 (l : List LEn) (n : Nat) (hln : l.length = n) (hnb : n <= 1000) (hwl : OkL l) (e : LEn) (hw : e.wf) (hk : aT e.k) (hz : e.sz) (nv ns : Nat) (hnv : e.vs.length = nv) (hns : e.ss.length = ns) (r : Bool) (hr : r = true ↔ Fol l e) : qC' 27 [.sl 65 n (lec l), .agg (ecs e nv ns)] (.c (bv r)) [] 0 := by
  obtain ⟨x, nv', ns', ok, hv', hs', hrt, hok, _, hrd⟩ := aY9 e hw hk hz nv ns hnv hns
  have hz1 := hz.vs
  have hz2 := hz.ss
  have hF : FoC n (lec l) (ecs e nv ns) e.k e.day e.plan e.step e.rq.k e.vs e.ss nv ns := ⟨hnb, by rw [fX hwl, hln], cK hw.root nv ns, hnv, hns, by omega, by omega, rfl, rfl, rfl, rfl, rfl, rfl, rfl⟩
  have hel' := cK hrt nv' ns'
  have key : ∀ b : Bool, (b = true ↔ r = true) -> qC' 27 [.sl 65 n (lec l), .agg (ecs e nv ns)] (.c (bv b)) [] 0 -> qC' 27 [.sl 65 n (lec l), .agg (ecs e nv ns)] (.c (bv r)) [] 0 := fun b hb h => by
    have : b = r := by cases b <;> cases r <;> simp_all
    rwa [this] at h
  have no : ¬ Fol l e -> (false = true ↔ r = true) := fun hn => ⟨fun h => absurd h aN, fun h => absurd (hr.1 h) hn⟩
  have yes : Fol l e -> (true = true ↔ r = true) := fun hn => ⟨fun h => hr.2 hn, fun h => rfl⟩
  by_cases h0 : ok = true
  rotate_left
  · have hof : ok = false := by simpa using h0
    rw [hof] at hrd
    exact key false (no fun h => h0 (hok.2 h.rd)) (eG7 _ _ _ _ _ _ _ _ _ _ _ _ hF _ hel' hrd)
  rw [h0] at hrd
  have hrdp := hok.1 h0
  by_cases d1 : e.day < 0
  · exact key false (no fun h => by have := h.day.1; omega) (eG8 _ _ _ _ _ _ _ _ _ _ _ _ hF _ hel' hrd d1)
  by_cases d2 : 1048576 < e.day
  · exact key false (no fun h => by have := h.day.2.1; omega) (eG9 _ _ _ _ _ _ _ _ _ _ _ _ hF _ hel' hrd d1 d2)
  have hfa : ∀ (k : Int) (b : Bool), (b = true ↔ jZ l k e.plan) -> qC' 83 [.sl 65 n (lec l), iv k, iv e.plan] (.c (bv b)) [] 0 := fun k b hb => cQ9 l n hln aA hwl k e.plan b hb
  obtain ⟨b2, hb2⟩ : ∃ b : Bool, b = true ↔ jZ l 2 e.plan := by
    by_cases h : jZ l 2 e.plan
    · exact ⟨true, ⟨fun _ => h, fun _ => rfl⟩⟩
    · exact ⟨false, ⟨fun h' => (by cases h'), fun h' => absurd h' h⟩⟩
  obtain ⟨b4, hb4⟩ : ∃ b : Bool, b = true ↔ jZ l 4 e.plan := by
    by_cases h : jZ l 4 e.plan
    · exact ⟨true, ⟨fun _ => h, fun _ => rfl⟩⟩
    · exact ⟨false, ⟨fun h' => (by cases h'), fun h' => absurd h' h⟩⟩
  have hop : (b2 && !b4) = true ↔ jZ l 2 e.plan /\ ¬ jZ l 4 e.plan := by rw [<- hb2, <- hb4]; cases b2 <;> cases b4 <;> simp
  have pass : (∀ y, l.getLast? = some y -> y.day <= e.day) -> ∀ b : Bool, qW' 223 foR (cQ Tryz.prog tab Tryz.f27.results.toList (.c (bv b)) [] 0) 2 [(0, .c (.sl 65 n (lec l))), (3, .ref 0 0), (4, .c (bv false)), (7, .c (bv (b2 && !b4)))] [(1, .row 49 (ecs x nv' ns')), (0, .row 49 (ecs e nv ns))] [] -> qC' 27 [.sl 65 n (lec l), .agg (ecs e nv ns)] (.c (bv b)) [] 0 := fun hld b hb => by
    by_cases hn0 : n = 0
    · exact eI5 _ _ _ _ _ _ _ _ _ _ _ _ hF _ hel' hrd d1 d2 hn0 b2 b4 (hfa 2 b2 hb2) (hfa 4 b4 hb4) b hb
    · obtain ⟨y, hy⟩ : ∃ y, l[n - 1]? = some y := ⟨_, Ab aA⟩
      have hy1 := fN hwl hy 1 aN
      rw [show (ecR y)[1]? = some (iv y.day) from rfl, show n - 1 = ((n : Int) - 1).toNat from by omega] at hy1
      have := hld y (by rw [List.getLast?_eq_getElem?, hln]; exact hy)
      exact eI6 _ _ _ _ _ _ _ _ _ _ _ _ hF _ hel' hrd d1 d2 y.day aA hy1 aA b2 b4 (hfa 2 b2 hb2) (hfa 4 b4 hb4) b hb
  by_cases hld : ∀ y, l.getLast? = some y -> y.day <= e.day
  rotate_left
  · have hn0 : n ≠ 0 := fun h => hld fun y hy => by
      have : l = [] := An aA
      rw [this] at hy
      cases hy
    obtain ⟨y, hy⟩ : ∃ y, l[n - 1]? = some y := ⟨_, Ab aA⟩
    have hlast : l.getLast? = some y := by rw [List.getLast?_eq_getElem?, hln]; exact hy
    have hy1 := fN hwl hy 1 aN
    rw [show (ecR y)[1]? = some (iv y.day) from rfl, show n - 1 = ((n : Int) - 1).toNat from by omega] at hy1
    have hlt : e.day < y.day := by
      by_cases h : e.day < y.day
      · exact h
      · exact absurd (fun z hz => by rw [hlast] at hz; injection hz with hz; rw [<- hz]; omega) hld
    exact key false (no fun h => hld h.day.2.2) (eH0 _ _ _ _ _ _ _ _ _ _ _ _ hF _ hel' hrd d1 d2 y.day aA hy1 hlt)
  have pass := pass hld
  have hday : 0 <= e.day /\ e.day <= 1048576 /\ ∀ y, l.getLast? = some y -> y.day <= e.day := ⟨by omega, by omega, hld⟩
  have hkk := aX7 hk hrdp
  have mk : (e.k = 1 -> 1 <= e.rq.k /\ e.rq.k <= 3) -> (e.k = 2 -> e.plan = nV l 2 /\ (e.vs ≠ [] \/ e.ss ≠ []) /\ (erasV l).length + e.vs.length <= 512 /\ (erasS l).length + e.ss.length <= 512 /\ (e.vs.Pairwise ltV /\ ∀ v ∈ e.vs, v ∉ iY l) /\ e.ss.Pairwise ltS /\ ∀ v ∈ e.ss, v ∉ lO l) -> (e.k = 3 -> (jZ l 2 e.plan /\ ¬ jZ l 4 e.plan) /\ (0 <= e.step /\ e.step < 128) /\ ¬ ∃ x ∈ l, x.k = 3 /\ x.plan = e.plan /\ x.step = e.step) -> (e.k = 4 -> jZ l 2 e.plan /\ ¬ jZ l 4 e.plan) -> (e.k = 5 -> e.step = nV l 5 /\ e.step < 4) -> Fol l e := fun a1 a2 a3 a4 a5 => ⟨hrdp, hday, a1, a2, a3, a4, a5⟩
  by_cases c1 : e.k = 1
  · by_cases r1 : e.rq.k < 1
    · exact key false (no fun h => by have := h.rq c1; omega) (pass false (eH1 _ _ _ _ _ _ _ _ _ _ _ _ hF _ c1 r1 _))
    by_cases r3 : 3 < e.rq.k
    · exact key false (no fun h => by have := h.rq c1; omega) (pass false (eH2 _ _ _ _ _ _ _ _ _ _ _ _ hF _ c1 r1 r3 _))
    exact key true (yes (mk (fun _ => by omega) (fun h => by omega) (fun h => by omega) (fun h => by omega) (fun h => by omega))) (pass true (eH3 _ _ _ _ _ _ _ _ _ _ _ _ hF _ c1 r1 r3 _))
  by_cases c2 : e.k = 2
  · obtain ⟨q1, hq1⟩ : ∃ q, (erasV l).length = q := ⟨_, rfl⟩
    obtain ⟨q2, hq2⟩ : ∃ q, (erasS l).length = q := ⟨_, rfl⟩
    have hqb1 : q1 <= 1000000 := by
      have h1 := kX (lt := ltV) (iY l)
      have h2 := tP hwl
      have h3 : (erasV l).length <= l.length * 1000 := At h1 h2
      omega
    have hqb2 : q2 <= 1000000 := by
      have h1 := kX (lt := ltS) (lO l)
      have h2 := aL8 hwl
      have h3 : (erasS l).length <= l.length * 1000 := At h1 h2
      omega
    have her := bH4 l n hln hnb hwl q1 hq1
    have hrm := aZ0 l n hln hnb hwl q2 hq2
    have hev : ∀ v ∈ erasV l, oG v := fun v hv => yF hwl v (((dQ slo_V _).2 v).1 hv)
    have hes : ∀ v ∈ erasS l, sP v := fun v hv => aL9 hwl v (((dQ slo_S _).2 v).1 hv)
    have hvs : ∀ v ∈ e.vs, oG v := hw.vs
    have hss : ∀ v ∈ e.ss, sP v := hw.ss
    have g1 : (∀ q, q < nv -> kZ ltV (erasV l) e.vs q) ↔ e.vs.Pairwise ltV /\ ∀ v ∈ e.vs, v ∉ iY l := by
      rw [<- hnv, aO8 slo_V]
      exact Cy C5 (Ch fun v => Ch fun _ => Cz ((dQ slo_V _).2 v))
    have g2 : (∀ q, q < ns -> kZ ltS (erasS l) e.ss q) ↔ e.ss.Pairwise ltS /\ ∀ v ∈ e.ss, v ∉ lO l := by
      rw [<- hns, aO8 slo_S]
      exact Cy C5 (Ch fun v => Ch fun _ => Cz ((dQ slo_S _).2 v))
    by_cases p1 : ∀ q, q < nv -> kZ ltV (erasV l) e.vs q
    · by_cases p2 : ∀ q, q < ns -> kZ ltS (erasS l) e.ss q
      · have hct := aK2 l n hln aA hwl 2 _ rfl
        have hcb : nV l 2 <= 1000000 := by
          unfold nV
          have := BK (fun e : LEn => decide (e.k = 2)) l
          omega
        have h1 : e.vs ≠ [] ↔ nv ≠ 0 := by rw [<- hnv]; exact Cz Cj.symm
        have h2 : e.ss ≠ [] ↔ ns ≠ 0 := by rw [<- hns]; exact Cz Cj.symm
        refine pass r (eH6 _ _ _ _ _ _ _ _ _ _ _ _ hF _ c2 _ q1 hq1 hqb1 hev hvs her p1 _ q2 hq2 hqb2 hes hss hrm p2 _ hcb hct r (hr.trans ⟨fun h => ?_, fun h => ?_⟩) _)
        · obtain ⟨w1, w2, w3, w4, _⟩ := h.er c2
          rw [h1, h2] at w2
          exact ⟨w1, by omega, by omega, by omega⟩
        · obtain ⟨w1, w2, w3, w4⟩ := h
          have w5 : e.vs ≠ [] \/ e.ss ≠ [] := by rw [h1, h2]; omega
          exact mk (fun h => by omega) (fun _ => ⟨w1, w5, by omega, by omega, g1.1 p1, g2.1 p2⟩) (fun h => by omega) (fun h => by omega) (fun h => by omega)
      · obtain ⟨j0, hj, hbad, hgd⟩ := rZ p2
        exact key false (no fun h => p2 (g2.2 (h.er c2).2.2.2.2.2)) (pass false (eH5 _ _ _ _ _ _ _ _ _ _ _ _ hF _ c2 _ q1 hq1 hqb1 hev hvs her p1 _ q2 hq2 hqb2 hes hss hrm j0 hj hbad hgd _))
    · obtain ⟨j0, hj, hbad, hgd⟩ := rZ p1
      exact key false (no fun h => p1 (g1.2 (h.er c2).2.2.2.2.1)) (pass false (eH4 _ _ _ _ _ _ _ _ _ _ _ _ hF _ c2 _ q1 hq1 hqb1 hev hvs her j0 hj hbad hgd _))
  by_cases c3 : e.k = 3
  · obtain ⟨q, hq⟩ : ∃ q, (doneS l e.plan).length = q := ⟨_, rfl⟩
    have hdn := cQ3 l n hln aA hwl e.plan q hq
    have hqb : q <= 1000000 := by
      have := kX (lt := fun a b : Int => a < b) ((l.filter fun x => decide (x.k = 3 /\ x.plan = e.plan)).map (·.step))
      rw [Bm] at this
      have h2 := BK (fun x : LEn => decide (x.k = 3 /\ x.plan = e.plan)) l
      have h3 : (doneS l e.plan).length <= l.length := At this h2
      omega
    have hmem : e.step ∈ doneS l e.plan ↔ ∃ x ∈ l, x.k = 3 /\ x.plan = e.plan /\ x.step = e.step := by
      unfold doneS
      rw [(dQ bB3 _).2, BG]
      constructor
      · rintro ⟨x, hx, h⟩
        obtain ⟨h1, h2⟩ := List.mem_filter.1 hx
        have h2 := CB h2
        exact ⟨x, h1, h2.1, h2.2, h⟩
      · rintro ⟨x, hx, h1, h2, h3⟩
        exact ⟨x, List.mem_filter.2 ⟨hx, AP ⟨h1, h2⟩⟩, h3⟩
    by_cases hm : e.step ∈ doneS l e.plan
    · exact key false (no fun h => (h.st c3).2.2 (hmem.1 hm)) (pass false (eH7 _ _ _ _ _ _ _ _ _ _ _ _ hF _ c3 _ q hq hqb hdn hm _))
    by_cases ho : (b2 && !b4) = true
    · rw [ho] at pass
      by_cases s1 : e.step < 0
      · exact key false (no fun h => by have := (h.st c3).2.1.1; omega) (pass false (eH9 _ _ _ _ _ _ _ _ _ _ _ _ hF c3 _ q hq hqb hdn hm s1 _))
      by_cases s2 : 128 <= e.step
      · exact key false (no fun h => by have := (h.st c3).2.1.2; omega) (pass false (eI0 _ _ _ _ _ _ _ _ _ _ _ _ hF c3 _ q hq hqb hdn hm s1 s2 _))
      exact key true (yes (mk (fun h => by omega) (fun h => by omega) (fun _ => ⟨hop.1 ho, by omega, fun h => hm (hmem.2 h)⟩) (fun h => by omega) (fun h => by omega))) (pass true (eI1 _ _ _ _ _ _ _ _ _ _ _ _ hF c3 _ q hq hqb hdn hm s1 aA _))
    · rw [show (b2 && !b4) = false by simpa using ho] at pass
      exact key false (no fun h => ho (hop.2 (h.st c3).1)) (pass false (eH8 _ _ _ _ _ _ _ _ _ _ _ _ hF c3 _ q hq hqb hdn hm _))
  by_cases c4 : e.k = 4
  · refine key (b2 && !b4) (hop.trans ⟨fun h => hr.2 (mk (fun h => by omega) (fun h => by omega) (fun h => by omega) (fun _ => h) (fun h => by omega)), fun h => (hr.1 h).co c4⟩) (pass _ (eR4 _ _ _ _ _ _ _ _ _ _ _ _ hF _ c4 _))
  by_cases c5 : e.k = 5
  · have hct := aK2 l n hln aA hwl 5 _ rfl
    have hcb : nV l 5 <= 1000000 := by
      unfold nV
      have := BK (fun e : LEn => decide (e.k = 5)) l
      omega
    by_cases s1 : e.step = (nV l 5 : Int)
    · by_cases s2 : 4 <= e.step
      · exact key false (no fun h => by have := (h.sg c5).2; omega) (pass false (eI3 _ _ _ _ _ _ _ _ _ _ _ _ hF _ c5 _ hcb hct s1 s2 _))
      exact key true (yes (mk (fun h => by omega) (fun h => by omega) (fun h => by omega) (fun h => by omega) (fun _ => ⟨s1, by omega⟩))) (pass true (eI4 _ _ _ _ _ _ _ _ _ _ _ _ hF _ c5 _ hcb hct s1 aA _))
    exact key false (no fun h => s1 (h.sg c5).1) (pass false (eI2 _ _ _ _ _ _ _ _ _ _ _ _ hF _ c5 _ hcb hct s1 _))
  exact key true (yes (mk (fun h => by omega) (fun h => by omega) (fun h => by omega) (fun h => by omega) (fun h => by omega))) (pass true (eR5 _ _ _ _ _ _ _ _ _ _ _ _ hF _ aA _))
end Go.Proofs.YtbgehdndimlgkaaGreat
