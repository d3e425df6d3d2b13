/-
  The sanity check of the layer (walk), and the plain laws for it.
-/
import Derived.Test.YtgofigkhdjjlmaaD8
import Derived.Test.YtgofigkhdjjlmaaWK
import Derived.Test.YtgofigkhdjjlmaaD10
import Derived.Test.YtgofigkhdjjlmaaAvS
import Derived.Test.YtgofigkhdjjlmaaAvT
set_option linter.unusedVariables false
set_option linter.unusedSimpArgs false
namespace Go.Proofs.Ytgofigkhdjjlmaa
open Go Go.RowKit Go.Av
set_option maxRecDepth 100000
theorem hx_dg (n : Nat) (h : n < 16) : dg (hx n) = some n := by
  have : ∀ n : Fin 16, dg (hx n.val) = some n.val := by decide
  exact this ⟨n, h⟩
theorem fmt_at : ∀ (l : List UInt8) (i : Nat), i < l.length → (fmt l)[2 * i]? = some (hx ((l.getD i 0).toNat / 16)) ∧ (fmt l)[2 * i + 1]? = some (hx ((l.getD i 0).toNat % 16))
  | [], i, h => by simp at h
  | b :: l, 0, h => by simp [fmt]
  | b :: l, i + 1, h => by
    have := fmt_at l i (by simpa using h)
    simp only [fmt, List.flatMap_cons, List.cons_append, List.nil_append, show 2 * (i + 1) = 2 * i + 2 by omega, show 2 * i + 2 + 1 = 2 * i + 1 + 2 by omega, List.getElem?_cons_succ, List.getD_cons_succ] at this ⊢
    exact this
theorem sb_fmt (l : List UInt8) (i : Nat) (h : i < l.length) : sb ⟨(fmt l).toArray⟩ (2 * i) = hx ((l.getD i 0).toNat / 16) ∧ sb ⟨(fmt l).toArray⟩ (2 * i + 1) = hx ((l.getD i 0).toNat % 16) := by
  obtain ⟨h1, h2⟩ := fmt_at l i h
  constructor
  · simp only [sb, Array.getD_eq_getD_getElem?, List.getElem?_toArray, h1, Option.getD_some]
  · simp only [sb, Array.getD_eq_getD_getElem?, List.getElem?_toArray, h2, Option.getD_some]
theorem dg_fmt (l : List UInt8) (i : Nat) (h : i < l.length) : dg (sb ⟨(fmt l).toArray⟩ (2 * i)) = some ((l.getD i 0).toNat / 16) ∧ dg (sb ⟨(fmt l).toArray⟩ (2 * i + 1)) = some ((l.getD i 0).toNat % 16) := by
  obtain ⟨h1, h2⟩ := sb_fmt l i h
  have := (l.getD i 0).toNat_lt
  rw [h1, h2]
  exact ⟨hx_dg _ (by omega), hx_dg _ (by omega)⟩
theorem good_fmt (l : List UInt8) (hl : l.length = 32) : good ⟨(fmt l).toArray⟩ := by
  refine ⟨?_, fun i hi => ?_⟩
  · show (fmt l).toArray.size = 64
    rw [List.size_toArray, fmt_length, hl]
  · obtain ⟨h1, h2⟩ := dg_fmt l (i / 2) (by omega)
    rcases Nat.mod_two_eq_zero_or_one i with h | h
    · rw [show i = 2 * (i / 2) by omega, h1]; rfl
    · rw [show i = 2 * (i / 2) + 1 by omega, h2]; rfl
theorem pb_fmt (l : List UInt8) (i : Nat) (h : i < l.length) : pb ⟨(fmt l).toArray⟩ i = l.getD i 0 := by
  obtain ⟨h1, h2⟩ := dg_fmt l i h
  have := (l.getD i 0).toNat_lt
  apply UInt8.toNat.inj
  rw [pb_nat]
  simp only [dv, h1, h2, Option.getD_some]
  omega
theorem pval_fmt (l : List UInt8) (hl : l.length = 32) : pval ⟨(fmt l).toArray⟩ = l := by
  rw [pval_good _ (good_fmt l hl)]
  apply List.ext_getElem (by simp [hl])
  intro i h1 h2
  rw [List.getElem_map, List.getElem_range, pb_fmt l i h2]
  simp [List.getD, List.getElem?_eq_getElem h2]
theorem perr_fmt (l : List UInt8) (hl : l.length = 32) : perr ⟨(fmt l).toArray⟩ = 0 := perr_good _ (good_fmt l hl)
theorem sum1_ne : sum 1#64 [] ≠ List.replicate 32 0 := by decide +kernel
theorem u8c_int (l : List UInt8) : u8c l = intc .u8 (l.map fun b => (b.toNat : Int)) := by simp [u8c, intc]
theorem u8_inj (l l' : List UInt8) : (l.map fun b => (b.toNat : Int)) = (l'.map fun b => (b.toNat : Int)) ↔ l = l' := by
  constructor
  · intro h
    exact (List.map_inj_right (fun a b hab => by
      have : a.toNat = b.toNat := by omega
      exact UInt8.toNat.inj this)).1 h
  · rintro rfl; rfl
section
variable {P : Program} {tab : Tab} {ev : Evl} {h : Heap} {d : Option Tmp} {T ty T' E n : Nat} {x y : Operand} {pos : String} {aft : Array Edge} {gd : Option (Nat × Bool)} {e e' : TyE} {l l' : List UInt8} {cs cs' : List CV} {b : Bool} (tb : TabOk P tab) (hg : P.eqGuardType P.depth T = false) (hT : tyLook tab T = some e) (hk : e.kind = .array n E) (hE : tyLook tab E = some e') (hke : e'.kind = .int .u8) (hs : Nat.beq e'.size 1 = true) (hx : ev x = some (.c (.agg cs))) (hy : ev y = some (.c (.agg cs'))) (hcx : cs = u8c l) (hcy : cs' = u8c l') (hlx : l.length = n) (hly : l'.length = n)
include tb hg hT hk hE hke hs hx hy hcx hcy hlx hly
theorem s_eqlU (hb : decide (l = l') = b) : Still P ⟨d, .binOp .eql T x y T', ty, pos, aft, gd⟩ ev h (.c (.v (.bool b))) :=
  s_eqlA tb hg hT hk hE hke hs hx hy (hcx.trans (u8c_int l)) (hcy.trans (u8c_int l')) (by rw [List.length_map]; exact hlx) (by rw [List.length_map]; exact hly) (by rw [← hb]; exact decide_eq_decide.2 (u8_inj l l'))
theorem s_neqU (hb : (!decide (l = l')) = b) : Still P ⟨d, .binOp .neq T x y T', ty, pos, aft, gd⟩ ev h (.c (.v (.bool b))) :=
  s_neqA tb hg hT hk hE hke hs hx hy (hcx.trans (u8c_int l)) (hcy.trans (u8c_int l')) (by rw [List.length_map]; exact hlx) (by rw [List.length_map]; exact hly) (by rw [← hb]; exact congrArg (!·) (decide_eq_decide.2 (u8_inj l l')))
end
attribute [local irreducible] Still Adds AWL AW Drw AC AWR Weak Frz Src RetK Out InK
set_option maxHeartbeats 4000000 in
theorem awake_ok : AC Try.prog 32 [] (.c (.v (.bool true))) [] 0 := by
  have hs : (sum 1#64 []).length = 32 := sum_length _ _
  have hus : (u8c (sum 1#64 [])).length = 32 := by rw [u8c_length, hs]
  have hpa := parse_ok ⟨(fmt (sum 1#64 [])).toArray⟩
  rw [pval_fmt _ hs, perr_fmt _ hs] at hpa
  have hne := sum1_ne
  have hne' : (!decide (sum 1#64 [] = List.replicate 32 0)) = true := by rw [decide_eq_false hne]; rfl
  clear hne
  have hsu := sum_ok 1#64 [] 0 rfl (by decide)
  have hrs := rsum_ok 1#64 [] 0 rfl (by decide)
  generalize sum 1#64 [] = D at *
  refine ac_enter tabOk (sz := 28) Try.func32 rfl (by rw [Try.ntmps32]; rfl) ?_
  repeat' (first
    | ((with_reducible refine aw_seqk ?_); intro K hK hX)
    | ((with_reducible refine isC_reg ?_); refine aw_prune [0, 1, 2, 3] rfl rfl ?_; with_reducible refine aw_region ?_)
    | ((with_reducible refine isC_draw ?_); refine aw_prune [0, 1, 2, 3] rfl rfl ?_; refine aw_drwF [] ?_)
    | ((first | with_reducible refine isA_call ?_ | with_reducible refine isD_call ?_); (first | refine zA ?_ | refine zN ?_ | refine zD ?_); (first | refine c0 (hsu) ?_ | refine c0 (hrs) ?_ | refine c0 (format_ok D hs) ?_ | refine c0 (hpa) ?_))
    | ((first | ((with_reducible refine isA_any ?_); refine xA ?_) | ((with_reducible refine isDk_any ?_); refine xD ?_)); (first | ((with_reducible refine e_bin ?_); (first | refine ex_i (s_eqlU tabOk (by kernel_rfl) rfl rfl rfl rfl rfl rfl rfl rfl rfl hs hs (decide_eq_true rfl)) ?_ | refine ex_i (s_neqU tabOk (by kernel_rfl) rfl rfl rfl rfl rfl rfl rfl rfl (l' := List.replicate 32 0) rfl hs rfl hne') ?_))))
    | refine stA ?_
    | refine stD ?_
    | (refine hK _ _ _ _ ?_; clear hK hX K)
    | (refine hX _ _ _ _ _ (by simp) ?_; clear hK hX K))
  refine retK_mk (by first | exact .inl rfl | exact .inr rfl) (by exact trivial) (ResL.one (ResA.tmp rfl)) (by first | exact out_c (by first | exact frz_c cv_rfl | exact frz_c cv_nil | exact frz_ownW rfl rfl (by first | rfl | with_reducible assumption | (simp <;> fail) | omega | (simp; omega) | assumption) | exact frz_eq (frz_c cv_rfl) (by first | rfl | (simp <;> fail) | fail)) | exact out_own rfl rfl)
end Go.Proofs.Ytgofigkhdjjlmaa
