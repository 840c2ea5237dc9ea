import Derived.Test.YtgfmdfgibkkfaaaKaWMore
import Derived.Lib.AppendStr
import Derived.Lib.ConvBytes
import Derived.Laws.BytesArg
import Derived.Laws.IdiomCopy
set_option linter.unusedVariables false
set_option linter.unusedSimpArgs false
namespace Go.Proofs.Ytgfmdfgibkkfaaa.Conv
open Go.RowKit Go.Proofs.YtgfmdfgibkkfaaaW.PrintWords Go.Proofs.YtgfmdfgibkkfaaaW.PrintLast Go.Proofs.YtgfmdfgibkkfaaaW.PrintMore
def CRow (e : TypeId) (W : World) (base : Nat) (v : Value) (l : List Int) : Prop :=
  ∃ g cap cur fr, v = .slice (some ⟨g, 0, none⟩) l.length cap ∧ base ≤ g ∧ W.heap[g]? = some (.cells cur e fr) ∧ (fr.2 = 0 ∨ cur.size ≤ fr.1) ∧ l.length ≤ cap ∧ cap ≤ maxLen ∧ cur.size = cap ∧
    ∀ (j : Nat) (x : Int), l[j]? = some x → cur[j]? = some (Value.int .u8 x)
section
variable {e : TypeId} {W W1 : World} {base : Nat} {v : Value} {l : List Int}
theorem cell_plain (w : World) (g j : Nat) (cs : Array Value) (t : TypeId) (fr : Nat × Nat) (hg : w.heap[g]? = some (.cells cs t fr)) : w.cell? ⟨g, j, none⟩ = cs[j]? := by
  simp [World.cell?, hg]
theorem frozen_no (w : World) (g j : Nat) (cs : Array Value) (t : TypeId) (fr : Nat × Nat) (hg : w.heap[g]? = some (.cells cs t fr)) (hf : fr.2 = 0 ∨ cs.size ≤ fr.1) (hj : j < cs.size) : w.frozen? ⟨g, j, none⟩ = false := by
  obtain ⟨lo, hi⟩ := fr
  simp only at hf
  simp only [World.frozen?, hg, Bool.and_eq_false_iff, decide_eq_false_iff_not]
  omega
theorem heap_setCell_fr (w : World) (g i : Nat) (cs : Array Value) (t : TypeId) (fr : Nat × Nat) (v : Value) (hg : w.heap[g]? = some (.cells cs t fr)) :
    (w.setCell ⟨g, i, none⟩ v).heap[g]? = some (.cells (cs.setIfInBounds i v) t fr) := by
  rw [setCell_eq_setRow w g i cs t fr v hg]
  exact setRow_heap w g cs _ t _ hg
theorem CRow.of_conv (W : World) (base : Nat) (s : ByteArray) (hb : base ≤ W.heap.size) (hs : s.size ≤ maxLen) :
    CRow e (Lib.bytesWorld W e s) base (.slice (some ⟨W.heap.size, 0, none⟩) s.size (grownCap W s.size 0 e)) (bytesOf s) := by
  have hge := grownCap_ge W s.size 0 e
  have hz : (Lib.bytesCells W e s).size = grownCap W s.size 0 e := by
    simp only [Lib.bytesCells, Array.size_append, Array.size_map, Array.size_replicate]
    have : s.data.size = s.size := rfl
    omega
  refine ⟨W.heap.size, _, _, _, by rw [bytesOf_length], hb, Lib.bytesWorld_at_new W e s, .inr (Nat.le_refl _), by rw [bytesOf_length]; exact hge, grownCap_le_maxLen W s.size 0 e hs, hz, ?_⟩
  intro j x hx
  have hj : j < s.data.size := by
    have := (List.getElem?_eq_some_iff.1 hx).1
    rwa [bytesOf_length] at this
  simp only [bytesOf, List.getElem?_map] at hx
  simp only [Lib.bytesCells]
  rw [Array.getElem?_append_left (by simpa using hj), Array.getElem?_map]
  simp only [Array.getElem?_toList] at hx
  rw [Array.getElem?_eq_getElem hj] at hx ⊢
  simp only [Option.map_some, Option.some.injEq] at hx ⊢
  rw [hx]
theorem CRow.kept {row : Option Nat} (h : CRow e W base v l) (hg : W.grownBy W1 row) (hne : v.ownBlock ≠ row) : CRow e W1 base v l := by
  obtain ⟨g, cap, cur, fr, rfl, hb, hgg, rest⟩ := h
  refine ⟨g, cap, cur, fr, rfl, hb, ?_, rest⟩
  rw [hg.block g (Array.getElem?_eq_some_iff.1 hgg).1 (by simpa [Value.ownBlock] using hne)]
  exact hgg
theorem CRow.some_block (h : CRow e W base v l) : ∃ g, v.ownBlock = some g ∧ base ≤ g ∧ g < W.heap.size := by
  obtain ⟨g, cap, cur, fr, rfl, hb, hgg, rest⟩ := h
  exact ⟨g, rfl, hb, (Array.getElem?_eq_some_iff.1 hgg).1⟩
theorem CRow.below (h : CRow e W base v l) (hb : Below W.heap.size W W1) : CRow e W1 base v l := by
  obtain ⟨g, h0, _⟩ := h.some_block
  exact h.kept (grown_of_below hb none) (by rw [h0]; simp)
theorem CRow.slice (h : CRow e W base v l) : ∃ g cap, v = .slice (some ⟨g, 0, none⟩) l.length cap ∧ base ≤ g ∧ l.length ≤ cap ∧ (∀ j x, l[j]? = some x → W.cell? ⟨g, j, none⟩ = some (.int .u8 x)) ∧ (∀ j, j < l.length → W.frozen? ⟨g, j, none⟩ = false) := by
  obtain ⟨g, cap, cur, fr, rfl, hb, hg, hf, h1, h2, h3, h4⟩ := h
  exact ⟨g, cap, rfl, hb, h1, fun j x hx => by rw [cell_plain W g j cur e fr hg]; exact h4 j x hx, fun j hj => frozen_no W g j cur e fr hg hf (by omega)⟩
theorem CRow.set {g n cap : Nat} (h : CRow e W base (.slice (some ⟨g, 0, none⟩) n cap) l) (i : Nat) (x : Int) : CRow e (W.setCell ⟨g, i, none⟩ (.int .u8 x)) base (.slice (some ⟨g, 0, none⟩) n cap) (l.set i x) := by
  obtain ⟨g', cap', cur, fr, hv, hb, hg, hf, h1, h2, h3, h4⟩ := h
  injection hv with hv hn hc
  injection hv with hv
  injection hv with hv
  subst hv hc hn
  refine ⟨g, cap, cur.setIfInBounds i (.int .u8 x), fr, by rw [List.length_set], hb, heap_setCell_fr W g i cur e fr _ hg, ?_, by rw [List.length_set]; exact h1, h2, by simpa using h3, ?_⟩
  · simpa using hf
  · intro j y hy
    rw [Array.getElem?_setIfInBounds]
    by_cases hij : i = j
    · subst hij
      have hi : i < l.length := by
        have := (List.getElem?_eq_some_iff.1 hy).1
        rwa [List.length_set] at this
      rw [List.getElem?_set_self hi] at hy
      injection hy with hy
      rw [if_pos rfl, if_pos (by omega), hy]
    · rw [List.getElem?_set_ne hij] at hy
      rw [if_neg hij]
      exact h4 j y hy
theorem CRow.cells {g n cap : Nat} (h : CRow e W base (.slice (some ⟨g, 0, none⟩) n cap) l) : n = l.length ∧ (∀ j x, l[j]? = some x → W.cell? ⟨g, j, none⟩ = some (.int .u8 x)) ∧ (∀ j, j < l.length → W.frozen? ⟨g, j, none⟩ = false) := by
  obtain ⟨g', cap', cur, fr, hv, hb, hg, hf, h1, h2, h3, h4⟩ := h
  injection hv with hv hn hc
  injection hv with hv
  injection hv with hv
  subst hv hc hn
  exact ⟨rfl, fun j x hx => by rw [cell_plain W g j cur e fr hg]; exact h4 j x hx, fun j hj => frozen_no W g j cur e fr hg hf (by omega)⟩
theorem bytes_get (s : ByteArray) (i : Nat) (h : i < s.size) : (bytesOf s)[i]? = some (bt s (i : Int)) := by
  have hd : i < s.data.toList.length := by simpa using h
  unfold bt
  rw [dif_pos (by simpa using h)]
  simp only [bytesOf, List.getElem?_map, List.getElem?_eq_getElem hd, Option.map_some]
  rfl
theorem CRow.text {P : Program} {src dst : TypeId} (h : CRow e W base v l) (hs : P.underlying src = some (.slice e)) (he : P.underlying e = some (.int .u8)) (hd : P.underlying dst = some .string) :
    (convert src dst v).run P W = .ok (.string (strOfNums l)) W := by
  obtain ⟨g, cap, rfl, hb, h1, hc, _⟩ := h.slice
  refine run_convert_bytes_arg W src e hs he g 0 l.length cap l rfl (fun i hi => ?_) dst hd
  rw [Nat.zero_add]
  refine hc i _ ?_
  simp [List.getElem?_eq_getElem hi, List.getD_eq_getElem?_getD]
end
section
variable {P : Program} {e : TypeId} {W : World} {base : Nat} {v : Value} {l : List Int}
end
end Go.Proofs.Ytgfmdfgibkkfaaa.Conv
