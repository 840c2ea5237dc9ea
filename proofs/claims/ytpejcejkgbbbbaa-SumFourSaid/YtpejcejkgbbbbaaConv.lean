/- A row of bytes that '[]byte(s)' made, or that grew out of one: what it holds, how it is read, written, appended to and told as a text. -/
import Derived.Test.YtpejcejkgbbbbaaWMore
import Derived.Lib.AppendStr
import Derived.Lib.ConvBytes
import Derived.Laws.BytesArg
import Derived.Laws.IdiomCopy
set_option linter.unusedVariables false
set_option linter.unusedSimpArgs false
namespace Go.Proofs.Ytpejcejkgbbbbaa.Conv
open Go.RowKit Go.Proofs.YtpejcejkgbbbbaaW.PrintWords Go.Proofs.YtpejcejkgbbbbaaW.PrintLast Go.Proofs.YtpejcejkgbbbbaaW.PrintMore

/-- The slice value v holds the bytes l, in a block of the call's own, none of whose cells is frozen. -/
def CRow (e : TypeId) (W : World) (base : Nat) (v : Value) (l : List Int) : Prop :=
  ∃ g cap cur fr, v = .slice (some ⟨g, 0, none⟩) l.length cap ∧ base ≤ g ∧ W.heap[g]? = some (.cells cur e fr) ∧ (fr.2 = 0 ∨ cur.size ≤ fr.1) ∧ l.length ≤ cap ∧ cap ≤ maxLen ∧ cur.size = cap ∧
    ∀ (j : Nat) (x : Int), l[j]? = some x → cur[j]? = some (Value.int .u8 x)
section
variable {e : TypeId} {W W1 : World} {base : Nat} {v : Value} {l : List Int}
theorem cell_plain (w : World) (g j : Nat) (cs : Array Value) (t : TypeId) (fr : Nat × Nat) (hg : w.heap[g]? = some (.cells cs t fr)) : w.cell? ⟨g, j, none⟩ = cs[j]? := by
  simp [World.cell?, hg]
theorem frozen_no (w : World) (g j : Nat) (cs : Array Value) (t : TypeId) (fr : Nat × Nat) (hg : w.heap[g]? = some (.cells cs t fr)) (hf : fr.2 = 0 ∨ cs.size ≤ fr.1) (hj : j < cs.size) : w.frozen? ⟨g, j, none⟩ = false := by
  obtain ⟨lo, hi⟩ := fr
  simp only at hf
  simp only [World.frozen?, hg, Bool.and_eq_false_iff, decide_eq_false_iff_not]
  omega
theorem heap_setCell_fr (w : World) (g i : Nat) (cs : Array Value) (t : TypeId) (fr : Nat × Nat) (v : Value) (hg : w.heap[g]? = some (.cells cs t fr)) :
    (w.setCell ⟨g, i, none⟩ v).heap[g]? = some (.cells (cs.setIfInBounds i v) t fr) := by
  rw [setCell_eq_setRow w g i cs t fr v hg]
  exact setRow_heap w g cs _ t _ hg
theorem CRow.of_conv (W : World) (base : Nat) (s : ByteArray) (hb : base ≤ W.heap.size) (hs : s.size ≤ maxLen) :
    CRow e (Lib.bytesWorld W e s) base (.slice (some ⟨W.heap.size, 0, none⟩) s.size (grownCap W s.size 0 e)) (bytesOf s) := by
  have hge := grownCap_ge W s.size 0 e
  have hz : (Lib.bytesCells W e s).size = grownCap W s.size 0 e := by
    simp only [Lib.bytesCells, Array.size_append, Array.size_map, Array.size_replicate]
    have : s.data.size = s.size := rfl
    omega
  refine ⟨W.heap.size, _, _, _, by rw [bytesOf_length], hb, Lib.bytesWorld_at_new W e s, .inr (Nat.le_refl _), by rw [bytesOf_length]; exact hge, grownCap_le_maxLen W s.size 0 e hs, hz, ?_⟩
  intro j x hx
  have hj : j < s.data.size := by
    have := (List.getElem?_eq_some_iff.1 hx).1
    rwa [bytesOf_length] at this
  simp only [bytesOf, List.getElem?_map] at hx
  simp only [Lib.bytesCells]
  rw [Array.getElem?_append_left (by simpa using hj), Array.getElem?_map]
  simp only [Array.getElem?_toList] at hx
  rw [Array.getElem?_eq_getElem hj] at hx ⊢
  simp only [Option.map_some, Option.some.injEq] at hx ⊢
  rw [hx]
theorem CRow.of_own {n : Nat} (h : W.ownsRow base e 1 v n (nums .u8 l)) (hv : v ≠ .slice none 0 0) : CRow e W base v l := by
  have hl : l.length = n := by have := h.1; simp [nums] at this; exact this
  rcases h.2 with ⟨rfl, _⟩ | ⟨g, cap, cur, rfl, hb, hg, h1, h2, h3, h4⟩
  · exact absurd rfl hv
  · rw [Nat.mul_one] at h3 h4
    refine ⟨g, cap, cur, (0, 0), by rw [hl], hb, hg, .inl rfl, by omega, h2, h3, fun j x hx => ?_⟩
    have hj : j < n := by rw [← hl]; exact (List.getElem?_eq_some_iff.1 hx).1
    have : (cur.toList.take n)[j]? = some (.int .u8 x) := by rw [h4]; simp [nums, hx]
    rw [List.getElem?_take, if_pos hj] at this
    simpa using this
theorem CRow.kept {row : Option Nat} (h : CRow e W base v l) (hg : W.grownBy W1 row) (hne : v.ownBlock ≠ row) : CRow e W1 base v l := by
  obtain ⟨g, cap, cur, fr, rfl, hb, hgg, rest⟩ := h
  refine ⟨g, cap, cur, fr, rfl, hb, ?_, rest⟩
  rw [hg.block g (Array.getElem?_eq_some_iff.1 hgg).1 (by simpa [Value.ownBlock] using hne)]
  exact hgg
theorem CRow.some_block (h : CRow e W base v l) : ∃ g, v.ownBlock = some g ∧ base ≤ g ∧ g < W.heap.size := by
  obtain ⟨g, cap, cur, fr, rfl, hb, hgg, rest⟩ := h
  exact ⟨g, rfl, hb, (Array.getElem?_eq_some_iff.1 hgg).1⟩
theorem CRow.below (h : CRow e W base v l) (hb : Below W.heap.size W W1) : CRow e W1 base v l := by
  obtain ⟨g, h0, _⟩ := h.some_block
  exact h.kept (grown_of_below hb none) (by rw [h0]; simp)
theorem CRow.alloc (h : CRow e W base v l) (o : Obj) : CRow e (W.alloc o) base v l := h.below (below_alloc (Below.refl _ _) o)
theorem CRow.slice (h : CRow e W base v l) : ∃ g cap, v = .slice (some ⟨g, 0, none⟩) l.length cap ∧ base ≤ g ∧ l.length ≤ cap ∧ (∀ j x, l[j]? = some x → W.cell? ⟨g, j, none⟩ = some (.int .u8 x)) ∧ (∀ j, j < l.length → W.frozen? ⟨g, j, none⟩ = false) := by
  obtain ⟨g, cap, cur, fr, rfl, hb, hg, hf, h1, h2, h3, h4⟩ := h
  exact ⟨g, cap, rfl, hb, h1, fun j x hx => by rw [cell_plain W g j cur e fr hg]; exact h4 j x hx, fun j hj => frozen_no W g j cur e fr hg hf (by omega)⟩
theorem CRow.set {g n cap : Nat} (h : CRow e W base (.slice (some ⟨g, 0, none⟩) n cap) l) (i : Nat) (x : Int) : CRow e (W.setCell ⟨g, i, none⟩ (.int .u8 x)) base (.slice (some ⟨g, 0, none⟩) n cap) (l.set i x) := by
  obtain ⟨g', cap', cur, fr, hv, hb, hg, hf, h1, h2, h3, h4⟩ := h
  injection hv with hv hn hc
  injection hv with hv
  injection hv with hv
  subst hv hc hn
  refine ⟨g, cap, cur.setIfInBounds i (.int .u8 x), fr, by rw [List.length_set], hb, heap_setCell_fr W g i cur e fr _ hg, ?_, by rw [List.length_set]; exact h1, h2, by simpa using h3, ?_⟩
  · simpa using hf
  · intro j y hy
    rw [Array.getElem?_setIfInBounds]
    by_cases hij : i = j
    · subst hij
      have hi : i < l.length := by
        have := (List.getElem?_eq_some_iff.1 hy).1
        rwa [List.length_set] at this
      rw [List.getElem?_set_self hi] at hy
      injection hy with hy
      rw [if_pos rfl, if_pos (by omega), hy]
    · rw [List.getElem?_set_ne hij] at hy
      rw [if_neg hij]
      exact h4 j y hy
theorem CRow.cells {g n cap : Nat} (h : CRow e W base (.slice (some ⟨g, 0, none⟩) n cap) l) : n = l.length ∧ (∀ j x, l[j]? = some x → W.cell? ⟨g, j, none⟩ = some (.int .u8 x)) ∧ (∀ j, j < l.length → W.frozen? ⟨g, j, none⟩ = false) := by
  obtain ⟨g', cap', cur, fr, hv, hb, hg, hf, h1, h2, h3, h4⟩ := h
  injection hv with hv hn hc
  injection hv with hv
  injection hv with hv
  subst hv hc hn
  exact ⟨rfl, fun j x hx => by rw [cell_plain W g j cur e fr hg]; exact h4 j x hx, fun j hj => frozen_no W g j cur e fr hg hf (by omega)⟩
theorem bytes_get (s : ByteArray) (i : Nat) (h : i < s.size) : (bytesOf s)[i]? = some (bt s (i : Int)) := by
  have hd : i < s.data.toList.length := by simpa using h
  unfold bt
  rw [dif_pos (by simpa using h)]
  simp only [bytesOf, List.getElem?_map, List.getElem?_eq_getElem hd, Option.map_some]
  rfl
theorem CRow.text {P : Program} {src dst : TypeId} (h : CRow e W base v l) (hs : P.underlying src = some (.slice e)) (he : P.underlying e = some (.int .u8)) (hd : P.underlying dst = some .string) :
    (convert src dst v).run P W = .ok (.string (strOfNums l)) W := by
  obtain ⟨g, cap, rfl, hb, h1, hc, _⟩ := h.slice
  refine run_convert_bytes_arg W src e hs he g 0 l.length cap l rfl (fun i hi => ?_) dst hd
  rw [Nat.zero_add]
  refine hc i _ ?_
  simp [List.getElem?_eq_getElem hi, List.getD_eq_getElem?_getD]
/-- In all worlds that are no younger: the text that a slice's bytes are. -/
theorem nums_strCells (s : ByteArray) : Lib.strCells s = nums .u8 (bytesOf s) := by simp [Lib.strCells, nums, bytesOf]
theorem setCells_block (g o : Nat) : ∀ (vs : List Value) (cur : Array Value) (w : World) (t : TypeId) (fr : Nat × Nat), w.heap[g]? = some (.cells cur t fr) → o + vs.length ≤ cur.size →
    ∃ cur', (w.setCells g o vs).heap[g]? = some (.cells cur' t fr) ∧ cur'.size = cur.size ∧ (∀ j, j < o → cur'[j]? = cur[j]?) ∧ (∀ j u, vs[j]? = some u → cur'[o + j]? = some u) ∧ (∀ k, k ≠ g → (w.setCells g o vs).heap[k]? = w.heap[k]?) ∧ (w.setCells g o vs).heap.size = w.heap.size ∧
      (w.setCells g o vs).os = w.os ∧ (w.setCells g o vs).tape = w.tape ∧ (w.setCells g o vs).output = w.output := by
  intro vs
  induction vs generalizing o with
  | nil => intro cur w t fr hg _; exact ⟨cur, hg, rfl, fun _ _ => rfl, fun j u h => by simp at h, fun _ _ => rfl, rfl, rfl, rfl, rfl⟩
  | cons v r ih =>
    intro cur w t fr hg hl
    simp only [List.length_cons] at hl
    obtain ⟨cur', h1, h2, h3, h4, h5, h6, h7, h8, h9⟩ := ih (o + 1) (cur.setIfInBounds o v) (w.setCell ⟨g, o, none⟩ v) t fr (heap_setCell_fr w g o cur t fr v hg) (by simp; omega)
    simp only [World.setCells]
    refine ⟨cur', h1, by simpa using h2, fun j hj => ?_, fun j u hu => ?_, fun k hk => ?_, ?_, h7, h8, h9⟩
    · rw [h3 j (by omega), Array.getElem?_setIfInBounds, if_neg (by omega)]
    · cases j with
      | zero =>
        simp only [List.getElem?_cons_zero, Option.some.injEq] at hu
        rw [Nat.add_zero, h3 o (by omega), Array.getElem?_setIfInBounds, if_pos rfl, if_pos (by omega), hu]
      | succ j =>
        simp only [List.getElem?_cons_succ] at hu
        have := h4 j u hu
        rwa [show o + 1 + j = o + (j + 1) from by omega] at this
    · rw [h5 k hk]; exact heap_setCell_other w _ k v hk
    · rw [h6]; simp
end

/-! append -/
section
variable {P : Program} {e : TypeId} {W : World} {base : Nat} {v : Value} {l : List Int}
/-- What is appended: its cells, wherever it is asked. -/
structure Gives (P : Program) (W : World) (x : Value) (m : List Int) : Prop where
  len : ∀ w, (Builtin.lenOf x).run P w = .ok m.length w
  cells : (Builtin.firstCells 1 m.length x).run P W = .ok (nums .u8 m).toArray W
  drew : (Builtin.firstCells 1 m.length x).run P W.drew = .ok (nums .u8 m).toArray W.drew
theorem gives_string (s : ByteArray) : Gives P W (.string s) (bytesOf s) := by
  have hl : (bytesOf s).length = s.size := bytesOf_length s
  refine ⟨fun w => by rw [hl]; rfl, ?_, ?_⟩
  · rw [hl, ← nums_strCells]; exact Lib.run_firstCells_string W 1 s
  · rw [hl, ← nums_strCells]; exact Lib.run_firstCells_string W.drew 1 s
theorem gives_cells (h c : Nat) (m : List Int) (hc : ∀ j x, m[j]? = some x → W.cell? ⟨h, j, none⟩ = some (.int .u8 x)) : Gives P W (.slice (some ⟨h, 0, none⟩) m.length c) m := by
  have hk : ∀ w : World, (∀ j x, m[j]? = some x → w.cell? ⟨h, j, none⟩ = some (.int .u8 x)) → (Builtin.firstCells 1 m.length (.slice (some ⟨h, 0, none⟩) m.length c)).run P w = .ok (nums .u8 m).toArray w := by
    intro w hw
    refine run_firstCells_some (P := P) w 1 m.length ⟨h, 0, none⟩ m.length c (nums .u8 m) (by rw [nums_length, Nat.mul_one]) (fun j u hu => ?_)
    simp only [nums, List.getElem?_map, Option.map_eq_some_iff] at hu
    obtain ⟨x, hx, rfl⟩ := hu
    rw [add_plain]
    exact hw j x hx
  exact ⟨fun w => rfl, hk W hc, hk W.drew (by simpa using hc)⟩
theorem nums_one (m : List Int) : ∀ u ∈ nums .u8 m, u.oneCell' = true := by
  intro u hu
  simp only [nums, List.mem_map] at hu
  obtain ⟨b, _, rfl⟩ := hu
  rfl
/-- append(v, x...): some value that holds both, in a world that is the old one but for v's own block and new ones. -/
theorem run_append_crow (t u ty : TypeId) (i : TypeInfo) (ht : P.underlying t = some (.slice e)) {du : TypeDesc} (hu : P.underlying u = some du) (hui : du = .string ∨ du = .slice e) (hi : P.info? e = some i) (hz : i.zero = some (.int .u8 0)) (hsize : i.size = 1) (hby : i.bytes = 1)
    (h : CRow e W base v l) (x : Value) (m : List Int) (hx : Gives P W x m) (hlim : l.length + m.length ≤ 140737488355328) (hbase : base ≤ W.heap.size) :
    ∃ v' W', (Builtin.append_ #[t, u] ty #[v, x]).run P W = .ok v' W' ∧ CRow e W' base v' (l ++ m) ∧ W.grownBy W' v.ownBlock ∧ (v'.ownBlock = v.ownBlock ∨ v'.ownBlock = some W.heap.size) := by
  obtain ⟨g, cap, cur, fr, rfl, hb, hg, hf, h1, h2, h3, h4⟩ := h
  have hzi : ∀ w : World, (underlying u).run P w = .ok du w := fun w => run_underlying hu w
  by_cases hroom : l.length + m.length ≤ cap
  · have hst := run_storeCells_cells (P := P) g l.length (nums .u8 m) 0 W
      (fun j hj => by rw [nums_length] at hj; rw [cell_plain W g _ cur e fr hg]; simp; omega)
      (fun j hj => by rw [nums_length] at hj; exact frozen_no W g _ cur e fr hg hf (by omega)) (nums_one m)
    obtain ⟨cur', c1, c2, c3, c4, c5, c6, c7, c8, c9⟩ := setCells_block g l.length (nums .u8 m) cur W e fr hg (by rw [nums_length]; omega)
    refine ⟨.slice (some ⟨g, 0, none⟩) (l.length + m.length) cap, W.setCells g l.length (nums .u8 m), ?_, ⟨g, cap, cur', fr, by rw [List.length_append], hb, c1, by rw [c2]; exact hf, by rw [List.length_append]; exact hroom, h2, by rw [c2]; exact h3, ?_⟩, ⟨c7, c8, c9, by rw [c6]; exact Nat.le_refl _, fun k hk hne => c5 k (by simpa [Value.ownBlock, eq_comm] using hne)⟩, .inl rfl⟩
    · rw [Nat.add_zero] at hst
      rcases hui with rfl | rfl <;> simp [Builtin.append_, run_underlying ht, hzi, sizeOf, typeInfo, hi, hsize, hx.len, hx.cells, hroom, Addr.add_lit, hst]
    · intro j y hy
      by_cases hj : j < l.length
      · rw [List.getElem?_append_left hj] at hy
        rw [c3 j hj]
        exact h4 j y hy
      · rw [List.getElem?_append_right (by omega)] at hy
        have := c4 (j - l.length) (.int .u8 y) (by simp [nums, hy])
        rwa [show l.length + (j - l.length) = j from by omega] at this
  · have h63' : ¬ (9223372036854775807 < ((l.length : Int) + (m.length : Int))) := by omega
    have hns := nextslicecap_le (need := l.length + m.length) (old := cap) (by omega)
    have hge := grownCap_ge W (l.length + m.length) cap e
    have hcm : grownCap W (l.length + m.length) cap e ≤ maxLen := grownCap_le_maxLen W (l.length + m.length) cap e (by simp only [maxLen]; omega)
    have hfo := run_firstCells_some (P := P) W.drew 1 l.length ⟨g, 0, none⟩ l.length cap (nums .u8 l) (by rw [nums_length, Nat.mul_one]) (fun j u hu => by
      simp only [nums, List.getElem?_map, Option.map_eq_some_iff] at hu
      obtain ⟨y, hy, rfl⟩ := hu
      rw [add_plain]
      have : W.cell? ⟨g, j, none⟩ = some (.int .u8 y) := by rw [cell_plain W g j cur e fr hg]; exact h4 j y hy
      simpa using this)
    refine ⟨.slice (some ⟨W.heap.size, 0, none⟩) (l.length + m.length) (grownCap W (l.length + m.length) cap e), W.drew.alloc (.cells ((nums .u8 l).toArray ++ (nums .u8 m).toArray ++ Builtin.zeroCells (Value.int .u8 0).cells (grownCap W (l.length + m.length) cap e - (l.length + m.length))) e), ?_, ?_, ?_, .inr rfl⟩
    · have h48' : ¬ (281474976710656 < Builtin.nextslicecap (l.length + m.length) cap) := by omega
      rcases hui with rfl | rfl <;> simp [Builtin.append_, run_underlying ht, hzi, sizeOf, typeInfo, zeroValue, hi, hz, hsize, hby, hx.len, hx.drew, hroom, h63', h48', Question.forced, hfo, newRow, grownCap, ← Array.append_assoc]
    · refine ⟨W.heap.size, _, _, (0, 0), by rw [List.length_append], hbase, heap_alloc_new W.drew _, .inl rfl, by rw [List.length_append]; exact hge, hcm, ?_, ?_⟩
      · have hz1 : (Value.int IntKind.u8 0).cells.size = 1 := rfl
        simp only [Array.size_append, List.size_toArray, size_zeroCells, hz1, nums_length]
        omega
      · intro j y hy
        have hj : j < (nums .u8 l).toArray.size + (nums .u8 m).toArray.size := by
          have := (List.getElem?_eq_some_iff.1 hy).1
          simpa [nums_length] using this
        rw [Array.getElem?_append_left (by rw [Array.size_append]; exact hj)]
        rw [List.append_toArray, List.getElem?_toArray, ← nums_append, nums, List.getElem?_map, hy]
        rfl
    · exact ⟨rfl, rfl, rfl, by simp, fun k hk _ => heap_alloc_old W.drew _ hk⟩
end
/-- The operation, for the walk. -/
theorem wpList_append_crow {P : Program} {e : TypeId} {W : World} {base : Nat} {v : Value} {l : List Int} {ops : Array Oper} {rest : List Oper} {o : Oper} {a : Act} {Q : Exit → Act → World → Prop} (hgd : o.guard = none) (sl x : Operand) (t u : TypeId)
    (ho : o.op = .call { callee := .builtin .append, args := #[sl, x], argTypes := #[t, u] })
    (ht : P.underlying t = some (.slice e)) {du : TypeDesc} (hu : P.underlying u = some du) (hui : du = .string ∨ du = .slice e) (hinfo : (P.info? e).map (fun i => (i.zero, i.size, i.bytes)) = some (some (.int .u8 0), 1, 1))
    (hs : a.eval sl = v) (h : CRow e W base v l) (xv : Value) (hx : a.eval x = xv) (m : List Int) (hg : Gives P W xv m) (hlim : l.length + m.length ≤ 140737488355328) (hbase : base ≤ W.heap.size)
    (k : ∀ v' W', CRow e W' base v' (l ++ m) → W.grownBy W' v.ownBlock → (v'.ownBlock = v.ownBlock ∨ v'.ownBlock = some W.heap.size) → wpList P ops Q rest (a.put o.dst v') W') : wpList P ops Q (o :: rest) a W := by
  obtain ⟨i, hi, hzz⟩ := Option.map_eq_some_iff.1 hinfo
  simp only [Prod.mk.injEq] at hzz
  refine wpList_plain hgd fun K hK => ?_
  obtain ⟨v', w', hr, h2, h3, h4⟩ := run_append_crow (P := P) t u o.type i ht hu hui hi hzz.1 hzz.2.1 hzz.2.2 h xv m hg hlim hbase
  unfold Oper.wp execOp
  simp only [ho, resolve, invoke, builtin, Sem.run_bind, Sem.run_pure, Result.andThen_ok, List.map_toArray, List.map_cons, List.map_nil, hs, hx, hr]
  exact hK _ _ (k v' w' h2 h3 h4)
end Go.Proofs.Ytpejcejkgbbbbaa.Conv
