/-
  The walk's laws for make, copy, append, slice literals and conversions of bytes to strings, over a world of which 'St' is known. For every program.
-/
import Derived.Test.YtddlgdppfeeplaaSt
set_option linter.unusedVariables false
set_option linter.unusedSimpArgs false
namespace Go.Er
open Go Go.RowKit

/-- What is known of a slice type t with elements e. -/
structure SlT (P : Program) (t e : TypeId) (z : Value) (size bytes : Nat) : Prop where
  ht : P.underlying t = some (.slice e)
  hi : (P.info? e).map (fun i => (i.zero, i.size, i.bytes)) = some (some z, size, bytes)
  hz : z.cells.size = size
  pos : 0 < size

theorem SlT.size {P : Program} {t e : TypeId} {z : Value} {size bytes : Nat} (T : SlT P t e z size bytes) : (P.info? e).map (·.size) = some size := by
  obtain ⟨i, hi, _, h1, _⟩ := info_parts T.hi
  simp [hi, h1]

/-- A row of n zeros of one cell each, behind a name that the walk does not open. -/
def zrow (z : Value) (n : Nat) : List Value := List.replicate n z
theorem zrow_length (z : Value) (n : Nat) : (zrow z n).length = n := by simp [zrow]

theorem SlR.of_blk {w : World} {lo hi g n : Nat} {e : TypeId} {size : Nat} {cs : List Value} (h : w.heap[g]? = some (.cells cs.toArray e (0, 0))) (hlo : lo ≤ g) (hhi : g < hi) (hn : cs.length = n * size) (hm : n ≤ maxLen) :
    SlR w lo hi size (some ⟨g, 0, none⟩) n n cs :=
  ⟨Nat.le_refl _, hm, hn, fun _ => ⟨g, 0, rfl, hlo, hhi, fun j u hu => by simp only [World.cell?, h]; simpa using hu⟩⟩

theorem SlR.len8 {w : World} {lo hi n c : Nat} {A : Option Addr} {l : List UInt8} (h : SlR w lo hi 1 A n c (u8s l)) : l.length = n := by
  have := h.len
  rw [u8s_length] at this
  omega

@[go_sem] theorem cat_toList (x y : List UInt8) : ((⟨x.toArray⟩ : ByteArray) ++ ⟨y.toArray⟩).toList = x ++ y := by
  rw [ByteArray.mk_append_mk, ByteArray.toList_mk]

section laws
variable {P : Program} {w0 w : World} {L : List Own} {F : List Fct} {ops : Array Oper} {rest : List Oper} {a : Act} {Q : Exit → Act → World → Prop}
  {d : Option Tmp} {t e ty : TypeId} {x y : Operand} {pos : String} {aft : Array Edge} {z : Value} {size bytes : Nat}

/-- make([]T, n): the new row is known whole. -/
theorem st_makeN (T : SlT P t e z size bytes) (h : St w0 L F w) (n : Nat) {I J : Int} {kl kc : IntKind} (hl : a.eval x = .int kl I) (hc : a.eval y = .int kc J) (hL : I = (n : Int)) (hC : J = (n : Int)) (b2 : bytes * n ≤ 281474976710656) (b3 : n ≤ maxLen)
    (next : ∀ w' g, St w0 (.blk g e (madeCells z.cells (n * size)).toList :: L) F w' → wpList P ops Q rest (a.put d (.slice (some ⟨g, 0, none⟩) n n)) w') :
    wpList P ops Q (⟨d, .makeSlice t x y, ty, pos, aft, none⟩ :: rest) a w := by
  obtain ⟨i, hi, hz, h1, hby⟩ := info_parts T.hi
  refine wpList_plain rfl fun K hK => ?_
  subst hL hC
  have h63' : (n : Int) ≤ 9223372036854775807 := by
    simp only [maxLen] at b3
    omega
  have hb' : (i.bytes : Int) * (n : Int) ≤ 281474976710656 := by
    have h : ((i.bytes * n : Nat) : Int) ≤ 281474976710656 := by rw [hby]; omega
    rwa [Int.natCast_mul] at h
  have hr := run_make (P := P) w t e i z T.ht hi hz kl kc n n (by omega) (Int.le_refl _) hb' h63'
  simp only [Int.toNat_natCast, h1] at hr
  unfold Oper.wp execOp
  simp [hl, hc, hr, Result.andThen]
  have := h.alloc e (madeCells z.cells (n * size)).toList
  rw [Array.toArray_toList] at this
  exact hK _ _ (next _ _ this)

theorem st_make (T : SlT P t e z 1 bytes) (hz : z.cells = #[z]) (h : St w0 L F w) (n : Nat) {I J : Int} {kl kc : IntKind} (hl : a.eval x = .int kl I) (hc : a.eval y = .int kc J) (hL : I = (n : Int)) (hC : J = (n : Int)) (b2 : bytes * n ≤ 281474976710656) (b3 : n ≤ maxLen)
    (next : ∀ w' g, St w0 (.blk g e (zrow z n) :: L) F w' → wpList P ops Q rest (a.put d (.slice (some ⟨g, 0, none⟩) n n)) w') :
    wpList P ops Q (⟨d, .makeSlice t x y, ty, pos, aft, none⟩ :: rest) a w :=
  st_makeN T h n hl hc hL hC b2 b3 (by
    rw [hz, Nat.mul_one, toList_madeCells_one]
    exact next)

/-- make([]T, 0, n): a slice of the call's own, with nothing in it. -/
theorem st_make0 (T : SlT P t e z size bytes) (h : St w0 L F w) (n : Nat) {J : Int} {kl kc : IntKind} (hl : a.eval x = .int kl 0) (hc : a.eval y = .int kc J) (hC : J = (n : Int)) (b2 : bytes * n ≤ 281474976710656) (b3 : n ≤ maxLen)
    (next : ∀ w' g, St w0 (.row e size (.slice (some ⟨g, 0, none⟩) 0 n) 0 [] :: L) F w' → wpList P ops Q rest (a.put d (.slice (some ⟨g, 0, none⟩) 0 n)) w') :
    wpList P ops Q (⟨d, .makeSlice t x y, ty, pos, aft, none⟩ :: rest) a w := by
  obtain ⟨i, hi, hz, h1, hby⟩ := info_parts T.hi
  refine wpList_plain rfl fun K hK => ?_
  subst hC
  obtain ⟨w', hr, hown, hg⟩ := run_make_own (P := P) w 0 t e i z size T.ht hi hz h1 kl kc n (by rw [hby]; exact b2) b3 (Nat.zero_le _)
  unfold Oper.wp execOp
  simp [hl, hc, hr, Result.andThen]
  exact hK _ _ (next _ _ (h.new hg (.row e size _ 0 []) hown (fun k hk => by injection hk with hk; simp only at hk; omega)))

/-- copy(dst, src), elements of one cell: dst lies at place off of an own block; src reads as the cells xs, all of which fit. -/
theorem st_copy (T : SlT P t e z 1 bytes) (h : St w0 L F w) (i : Nat) {sT : TypeId} {dp sp : Option Addr} {dLen dCap sLen sCap : Nat} (hd : a.eval x = .slice dp dLen dCap) (hs : a.eval y = .slice sp sLen sCap)
    (g off : Nat) {bt : TypeId} {cs : List Value} (hp : L[i]? = some (.blk g bt cs)) {lo hi : Nat} (xs : List Value) (hR : SlR w lo hi 1 sp sLen sCap xs) (hle : sLen ≤ dLen) (hdp : 0 < sLen → dp = some ⟨g, off, none⟩)
    (hfit : off + sLen ≤ cs.length) (h1 : ∀ v ∈ xs, v.oneCell' = true)
    (next : ∀ w', St w0 (L.set i (.blk g bt (splice cs off xs))) F w' → wpList P ops Q rest (a.put d (.int .i64 sLen)) w') :
    wpList P ops Q (⟨d, .call ⟨.builtin .copy, #[x, y], #[t, sT]⟩, ty, pos, aft, none⟩ :: rest) a w := by
  have hlen : xs.length = sLen := by have := hR.len; omega
  by_cases h0 : xs.length = 0
  · obtain rfl : xs = [] := List.eq_nil_of_length_eq_zero h0
    have h00 : sLen = 0 := by simpa using hlen.symm
    subst h00
    refine wpList_copy_nothing rfl x y t sT rfl e T.ht T.size dp sp dLen dCap 0 sCap hd hs (by simp) ?_
    have hsame : L.set i (.blk g bt (splice cs off [])) = L := by
      have : splice cs off [] = cs := by simp [splice]
      rw [this]
      apply List.ext_getElem?
      intro j
      rw [List.getElem?_set]
      by_cases hij : i = j
      · subst hij
        have hi : i < L.length := by
          rcases Nat.lt_or_ge i L.length with h1 | h1
          · exact h1
          · rw [List.getElem?_eq_none h1] at hp; cases hp
        rw [if_pos rfl, if_pos hi, hp]
      · rw [if_neg hij]
    exact next w (by rw [hsame]; exact h)
  · obtain ⟨b, o', hsp, _, _, hc⟩ := hR.2.2.2 (by omega)
    have hdp' := hdp (by omega)
    subst hsp hdp'
    refine wpList_copy_own rfl x y t sT rfl e T.ht T.size g off dLen dCap ⟨b, o', none⟩ sLen sCap hd hs cs.toArray bt (h.blk i hp) xs (by rw [hlen]; exact (Nat.min_eq_left hle).symm) (fun j v hv => by rw [add_mk]; exact hc j v hv) (by simp; omega) h1 ?_
    have := next _ (h.setRow i hp (splice cs off xs))
    rw [hlen]
    rw [show goInt (sLen : Int) = Value.int .i64 sLen from rfl]
    simpa [splice, hlen] using this

/-- append(s, src...): s is a slice of the call's own, nil or not; src reads as the cells ys. -/
theorem st_append (T : SlT P t e z size bytes) (h : St w0 L F w) (i : Nat) {v : Value} {n : Nat} {xs : List Value} (hs : a.eval x = v) (hp : L[i]? = some (.row e size v n xs))
    {sp : Option Addr} {m c : Nat} (hx : a.eval y = .slice sp m c) {lo hi : Nat} (ys : List Value) (hR : SlR w lo hi size sp m c ys) (h1 : ∀ u ∈ ys, u.oneCell' = true)
    (h63 : n + m ≤ maxLen) (hbytes : (n + m) * bytes ≤ 140737488355328)
    (next : ∀ w' A' c', St w0 (L.set i (.row e size (.slice A' (n + m) c') (n + m) (xs ++ ys))) F w' → wpList P ops Q rest (a.put d (.slice A' (n + m) c')) w') :
    wpList P ops Q (⟨d, .call ⟨.builtin .append, #[x, y], #[t, t]⟩, ty, pos, aft, none⟩ :: rest) a w := by
  obtain ⟨ti, hi, hz, hs1, hby⟩ := info_parts T.hi
  refine wpList_plain rfl fun K hK => ?_
  have hown : w.ownsRow 0 e size v n xs := h.at_ i hp
  have key : ∃ v' w', (Builtin.append_ #[t, t] ty #[v, .slice sp m c]).run P w = .ok v' w' ∧ w'.ownsRow 0 e size v' (n + m) (xs ++ ys) ∧ w.grownBy w' v.ownBlock ∧ (v'.ownBlock = v.ownBlock ∨ v'.ownBlock = some w.heap.size) := by
    rcases sp with _ | ad
    · have hm : m = 0 := by
        rcases Nat.eq_zero_or_pos m with h0 | h0
        · exact h0
        · obtain ⟨b, o, he, _⟩ := hR.2.2.2 h0
          cases he
      subst hm
      have hn : ys = [] := List.eq_nil_of_length_eq_zero (by simpa using hR.len)
      subst hn
      refine ⟨v, w, ?_, by simpa using hown, World.grownBy.refl w _, .inl rfl⟩
      rcases hown.2 with ⟨rfl, rfl⟩ | ⟨g, cap, cur, rfl, _, _, hnc, _⟩
      · simp [Builtin.append_, run_underlying T.ht, sizeOf, typeInfo, hi, Builtin.lenOf, Builtin.firstCells]
      · simp [Builtin.append_, run_underlying T.ht, sizeOf, typeInfo, hi, Builtin.lenOf, Builtin.firstCells, hnc, storeCells]
    · have hcells : ∀ j u, ys[j]? = some u → w.cell? (ad.add j) = some u := by
        intro j u hu
        rcases Nat.eq_zero_or_pos m with h0 | h0
        · subst h0
          have hn : ys = [] := List.eq_nil_of_length_eq_zero (by simpa using hR.len)
          subst hn
          simp at hu
        · obtain ⟨b, o, he, _, _, hc⟩ := hR.2.2.2 h0
          injection he with he
          subst he
          rw [add_mk]
          exact hc j u hu
      obtain ⟨v', w', hrun, h2, h3, _, h5⟩ := run_append_own_at (P := P) w 0 t ty e ti z size bytes T.ht hi hz hs1 hby T.hz T.pos v n xs hown ad m c ys hR.len hcells h1 h63 hbytes (Nat.zero_le _)
      exact ⟨v', w', hrun, h2, h3, h5⟩
  obtain ⟨v', w', hrun, h2, h3, h4⟩ := key
  unfold Oper.wp execOp
  simp only [resolve, invoke, builtin, Sem.run_bind, Sem.run_pure, Result.andThen_ok, List.map_toArray, List.map_cons, List.map_nil, hs, hx, hrun]
  have hform : ∃ A' c', v' = .slice A' (n + m) c' := by
    rcases h2.2 with ⟨rfl, h0⟩ | ⟨g, cap, cur, rfl, _⟩
    · exact ⟨none, 0, by rw [h0]⟩
    · exact ⟨_, _, rfl⟩
  obtain ⟨A', c', rfl⟩ := hform
  refine hK _ _ (next w' A' c' (h.upd i hp h3 (.row e size (.slice A' (n + m) c') (n + m) (xs ++ ys)) h2 (fun k hk => ?_)))
  rcases h4 with h4 | h4
  · exact .inl (h4.symm.trans hk)
  · refine .inr ?_
    have : some w.heap.size = some k := h4.symm.trans hk
    injection this with this
    omega

/-- A nil slice becomes one of the call's own: what 'var out []T' is worth. -/
theorem St.nil (h : St w0 L F w) (e : TypeId) (size : Nat) : St w0 (.row e size (.slice none 0 0) 0 [] :: L) F w :=
  h.new (World.grownBy.refl w none) (.row e size (.slice none 0 0) 0 []) (World.ownsRow_nil w 0 e size) (fun k hk => by cases hk)

/-- string(b): the bytes that b reads as. -/
theorem run_tostr {P : Program} {w : World} {src e dst : TypeId} (hs : P.underlying src = some (.slice e)) (he : P.underlying e = some (.int .u8)) (hd : P.underlying dst = some .string) {lo hi : Nat} {A : Option Addr} {n c : Nat} {l : List UInt8}
    (hR : SlR w lo hi 1 A n c (u8s l)) : (convert src dst (.slice A n c)).run P w = .ok (.string ⟨l.toArray⟩) w := by
  have hlen : l.length = n := by have := hR.len; rw [u8s_length] at this; omega
  rcases Nat.eq_zero_or_pos n with h0 | h0
  · subst h0
    obtain rfl : l = [] := List.eq_nil_of_length_eq_zero hlen
    rcases A with _ | ad
    · rw [run_convert_bytes_nil w src e hs he 0 c dst hd]; rfl
    · rw [run_convert_bytes_string w src dst e _ 0 c hs he hd]
      simp [Conv.bytesToString, loadCells, loadCellsFrom]
      rfl
  · obtain ⟨b, o, rfl, _, _, hc⟩ := hR.2.2.2 h0
    have := run_convert_bytes_arg (P := P) w src e hs he b o n c (l.map fun b => (b.toNat : Int)) (by simpa using hlen) (fun i hi => by
      rw [hc i (.int .u8 (l[i]'(by omega)).toNat) (by simp [u8s, List.getElem?_eq_getElem (show i < l.length by omega)])]
      simp [List.getD, List.getElem?_eq_getElem (show i < l.length by omega)]) dst hd
    rw [this]
    congr 2
    simp only [strOfNums]
    congr 1
    simp only [List.map_map, Array.mk.injEq]
    have : ((fun n : Int => UInt8.ofNat n.toNat) ∘ fun b : UInt8 => (b.toNat : Int)) = id := by
      funext b
      simp
    rw [this, List.map_id]

theorem st_tostr {src dst : TypeId} {gd : Option (Nat × Bool)} (hgd : Region.wanted ⟨d, .convert src dst x, ty, pos, aft, gd⟩ (yielded ops a.tmps) = true) (hs : P.underlying src = some (.slice e)) (he : P.underlying e = some (.int .u8)) (hd : P.underlying dst = some .string) {lo hi : Nat} {A : Option Addr} {n c : Nat} {l : List UInt8}
    (hx : a.eval x = .slice A n c) (hR : SlR w lo hi 1 A n c (u8s l)) (next : wpList P ops Q rest (a.put d (.string ⟨l.toArray⟩)) w) :
    wpList P ops Q (⟨d, .convert src dst x, ty, pos, aft, gd⟩ :: rest) a w := by
  refine wpList_step fun K hK => ?_
  rw [if_pos hgd]
  unfold Oper.wp execOp
  simp only [hx, Sem.run_bind, Sem.run_pure, Result.andThen_ok, run_tostr hs he hd hR]
  exact hK _ _ next

/-- []T{..}: a new block with the elements' cells. -/
theorem st_bslice (T : SlT P t e z size bytes) (h : St w0 L F w) {n : Nat} {parts : Array (Nat × Operand)} {cs : List Value} (hn : n * size ≤ 16777216) (h0 : 0 < n)
    (hf : Instr.fill (fun i => some (i * size, size)) ((Array.range (n * size)).map (z.cells[· % z.cells.size]!)) (parts.map fun p => (p.1, a.eval p.2)).toList = some cs.toArray)
    (next : ∀ w' g, St w0 (.blk g e cs :: L) F w' → wpList P ops Q rest (a.put d (.slice (some ⟨g, 0, none⟩) n n)) w') :
    wpList P ops Q (⟨d, .buildSlice t n parts, ty, pos, aft, none⟩ :: rest) a w := by
  obtain ⟨i, hi, hz, h1, hby⟩ := info_parts T.hi
  refine wpList_plain rfl fun K hK => ?_
  have hne : ¬ n * size = 0 := by
    have := Nat.mul_pos h0 T.pos
    omega
  unfold Oper.wp execOp
  have hle : ¬ n * size > 2 ^ 24 := by simpa using hn
  simp only [Instr.buildSlice, Sem.run_bind, run_underlying T.ht w, Result.andThen_ok, sizeOf, typeInfo]
  simp [hi, h1, hne, hle, zeroValue, typeInfo, hz]
  rw [show (List.map (fun p : Nat × Operand => (p.1, a.eval p.2)) parts.toList) = (parts.map fun p => (p.1, a.eval p.2)).toList by simp, hf]
  simp [newRow]
  exact hK _ _ (next _ _ (h.alloc e cs))

theorem st_bslice0 (T : SlT P t e z size bytes) (h : St w0 L F w)
    (next : ∀ w' g, St w0 (.row e size (.slice (some ⟨g, 0, none⟩) 0 0) 0 [] :: L) F w' → wpList P ops Q rest (a.put d (.slice (some ⟨g, 0, none⟩) 0 0)) w') :
    wpList P ops Q (⟨d, .buildSlice t 0 #[], ty, pos, aft, none⟩ :: rest) a w := by
  obtain ⟨i, hi, hz, h1, hby⟩ := info_parts T.hi
  refine wpList_plain rfl fun K hK => ?_
  unfold Oper.wp execOp
  simp only [Instr.buildSlice, Sem.run_bind, run_underlying T.ht w, Result.andThen_ok, sizeOf, typeInfo]
  simp [hi, newRow, Instr.fill, Array.range_zero']
  refine hK _ _ (next _ _ (h.new (World.grownBy_alloc w _ none) (.row e size (.slice (some ⟨w.heap.size, 0, none⟩) 0 0) 0 []) ?_ (fun k hk => by injection hk with hk; simp only at hk; omega)))
  exact World.ownsRow_made w #[] 0 (Nat.zero_le _) (by simp [maxLen]) (by simp)

theorem isl_conv {K : Act → Prop} {src dst : TypeId} {gd : Option (Nat × Bool)} (h : wpStill P ops w K (⟨d, .convert src dst x, ty, pos, aft, gd⟩ :: rest) a) : wpStill P ops w K (⟨d, .convert src dst x, ty, pos, aft, gd⟩ :: rest) a := h

theorem stl_tostr {K : Act → Prop} {src dst : TypeId} {gd : Option (Nat × Bool)} (hgd : Region.wanted ⟨d, .convert src dst x, ty, pos, aft, gd⟩ (yielded ops a.tmps) = true) (hs : P.underlying src = some (.slice e)) (he : P.underlying e = some (.int .u8)) (hd : P.underlying dst = some .string) {lo hi : Nat} {A : Option Addr} {n c : Nat} {l : List UInt8}
    (hx : a.eval x = .slice A n c) (hR : SlR w lo hi 1 A n c (u8s l)) (next : wpStill P ops w K rest (a.put d (.string ⟨l.toArray⟩))) :
    wpStill P ops w K (⟨d, .convert src dst x, ty, pos, aft, gd⟩ :: rest) a := by
  refine wpStill_step fun K' hK => ?_
  rw [if_pos hgd]
  unfold Oper.still execOp
  simp only [hx, Sem.run_bind, Sem.run_pure, Result.andThen_ok, run_tostr hs he hd hR]
  exact ⟨rfl, hK _ next⟩

theorem freeze_block (w : World) (g k : Nat) {cs : Array Value} {e : TypeId} (h : w.heap[g]? = some (.cells cs e (0, 0))) : (w.freeze ⟨g, k, none⟩ 1).heap[g]? = some (.cells cs e (k, k + 1)) := by
  unfold World.freeze
  rw [if_neg (by decide)]
  simp [Array.getElem?_modify, h]
theorem freeze_other (w : World) (g k j : Nat) (h : j ≠ g) : (w.freeze ⟨g, k, none⟩ 1).heap[j]? = w.heap[j]? := by
  unfold World.freeze
  rw [if_neg (by decide)]
  simp only [Array.getElem?_modify]
  rw [if_neg (by omega)]

/-- []byte of a constant string: the literal's row gets the run-time's mark behind its last cell; from then on it is only read. -/
theorem st_bconst (ht : P.underlying t = some (.slice e)) (he : P.underlying e = some (.int .u8)) {g n c : Nat} {cs : List Value} (h : St w0 (.blk g e cs :: L) F w) (hx : a.eval x = .slice (some ⟨g, 0, none⟩) n c) (hlen : cs.length = n) (hc : n ≤ c) (hm : c ≤ maxLen)
    (next : ∀ w', St w0 L (.sl g (g + 1) 1 (some ⟨g, 0, none⟩) n c cs :: F) w' → wpList P ops Q rest (a.put d (.slice (some ⟨g, 0, none⟩) n c)) w') :
    wpList P ops Q (⟨d, .convert t t x, ty, pos, aft, none⟩ :: rest) a w := by
  refine wpList_plain rfl fun K hK => ?_
  have hb := h.blk 0 rfl
  have hsh : w.shape? g = some (e, cs.length) := by
    unfold World.shape?
    rw [hb]
    simp
  have hrun : (convert t t (.slice (some ⟨g, 0, none⟩) n c)).run P w = .ok (.slice (some ⟨g, 0, none⟩) n c) (w.freeze ⟨g, cs.length, none⟩ 1) := by
    simp [convert, run_underlying ht, run_underlying he, markStringish, hsh]
  unfold Oper.wp execOp
  simp only [hx, Sem.run_bind, Sem.run_pure, Result.andThen_ok, hrun]
  have hsz : (w.freeze ⟨g, cs.length, none⟩ 1).heap.size = w.heap.size := by
    unfold World.freeze
    rw [if_neg (by decide)]
    simp
  have hgb : w.grownBy (w.freeze ⟨g, cs.length, none⟩ 1) (some g) :=
    ⟨by unfold World.freeze; rfl, by unfold World.freeze; rfl, by unfold World.freeze; rfl, by rw [hsz]; exact Nat.le_refl _, fun k _ hk => freeze_other w g _ k (fun e => hk (by rw [e]))⟩
  refine hK _ _ (next _ ?_)
  have hnd := List.pairwise_cons.1 h.nodup
  have hglo := h.lo_ 0 rfl g rfl
  refine ⟨h.below.grown hgb h.size (fun k hk => by injection hk with hk; subst hk; exact hglo), fun p hp => ?_, hnd.2, fun f hf => ?_⟩
  · have ho := h.own p (List.mem_cons_of_mem _ hp)
    exact ⟨p.dep w _ (fun k hk => freeze_other w g _ k (fun e => hnd.1 p hp g rfl (by rw [hk, e]))) ho.1, ho.2⟩
  · rcases List.mem_cons.1 hf with rfl | hf
    · refine ⟨⟨hc, hm, by omega, fun _ => ⟨g, 0, rfl, Nat.le_refl _, Nat.lt_succ_self _, fun j u hu => ?_⟩⟩, ?_, fun p hp k hk => ?_⟩
      · simp only [World.cell?, freeze_block w g _ hb]
        simpa using hu
      · show g + 1 ≤ _
        rw [hsz]
        exact lt_of_block hb
      · show k < g ∨ g + 1 ≤ k
        have : k ≠ g := fun e => hnd.1 p hp g rfl (by rw [hk, e])
        omega
    · obtain ⟨h1, h2, h3⟩ := h.facts f hf
      refine ⟨f.dep w _ (fun k hk1 hk2 => freeze_other w g _ k (fun e => by have := h3 (.blk g _ cs) (List.mem_cons_self) g rfl; omega)) h1, by rw [hsz]; exact h2, fun p hp => h3 p (List.mem_cons_of_mem _ hp)⟩

def enumF {α : Type} : Nat → List α → List (Nat × α)
  | _, [] => []
  | k, x :: xs => (k, x) :: enumF (k + 1) xs

theorem fill_ones : ∀ (vs : List Value) (k : Nat) (arr : List Value), (∀ v ∈ vs, v.cells = #[v]) → k + vs.length ≤ arr.length →
    Instr.fill (fun i => some (i * 1, 1)) arr.toArray (enumF k vs) = some (ins arr k vs).toArray
  | [], k, arr, _, _ => by simp [enumF, Instr.fill, ins]
  | v :: vs, k, arr, h, hl => by
    have hv := h v (by simp)
    simp only [List.length_cons] at hl
    simp only [enumF, Instr.fill, hv]
    have h1 : ¬ (#[v].size ≠ 1 || k * 1 + #[v].size > arr.toArray.size) = true := by simp; omega
    rw [if_neg h1]
    have h2 : Array.foldl (fun (cs : Array Value) (x : Value × Nat) => cs.setIfInBounds (k * 1 + x.2) x.1) arr.toArray #[v].zipIdx = (arr.set k v).toArray := by simp
    have := fill_ones vs (k + 1) (arr.set k v) (fun u hu => h u (by simp [hu])) (by simp; omega)
    rw [show ins arr k (v :: vs) = ins (arr.set k v) (k + 1) vs from rfl, ← this]
    congr 1

theorem enumF_map {α β : Type} (f : α → β) : ∀ (xs : List α) (k : Nat), (enumF k xs).map (fun p => (p.1, f p.2)) = enumF k (xs.map f)
  | [], _ => rfl
  | x :: xs, k => by simp [enumF, enumF_map f xs]

/-- []T{x, y, ..}, elements of one cell. -/
theorem st_bsliceV (T : SlT P t e z 1 bytes) (h : St w0 L F w) {n : Nat} {parts : Array (Nat × Operand)} (xs : List Operand) (vs : List Value) (hn : n ≤ 16777216) (h0 : 0 < n) (hpa : parts = (enumF 0 xs).toArray) (hvs : xs.map a.eval = vs) (hlen : vs.length = n) (hone : ∀ v ∈ vs, v.cells = #[v])
    (next : ∀ w' g, St w0 (.blk g e vs :: L) F w' → wpList P ops Q rest (a.put d (.slice (some ⟨g, 0, none⟩) n n)) w') :
    wpList P ops Q (⟨d, .buildSlice t n parts, ty, pos, aft, none⟩ :: rest) a w := by
  refine st_bslice T h (cs := vs) (by omega) h0 ?_ next
  subst hpa
  rw [show ((enumF 0 xs).toArray.map fun p => (p.1, a.eval p.2)).toList = enumF 0 vs by rw [← hvs, ← enumF_map]; simp]
  have he : (Array.range (n * 1)).map (z.cells[· % z.cells.size]!) = (List.replicate n (z.cells[0]!)).toArray := by
    have hz1 := T.hz
    apply Array.ext
    · simp
    · intro i h1 h2
      simp [hz1, Nat.mod_one]
  rw [he, fill_ones vs 0 _ hone (by simp; omega)]
  rw [ins_whole _ _ (by simp; omega)]
end laws
end Go.Er
