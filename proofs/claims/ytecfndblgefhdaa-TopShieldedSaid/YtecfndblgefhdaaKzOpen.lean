import Derived.Test.YtecfndblgefhdaaKzRx0
namespace Go.Proofs.Ytecfndblgefhdaa.XOpen
open Go.RowKit Go.Proofs.YtecfndblgefhdaaW.PrintWords Go.Proofs.YtecfndblgefhdaaW.PrintLast
set_option linter.unusedVariables false
def Opens {α : Type} (P : Program) (w : World) (t : TypeId) (d : Kd α) (good : α → Prop) : Prop :=
 ∀ (H : Type) (enc : TypeId × Value → H) (base : Nat) (sp : Nat → Bool) (held : Bool) (fuel : Nat) (cs : List Value) (x : DataW H × List MemPlace),
  DataW.trod enc P w base sp held fuel t cs = some x → (∀ n ∈ x.1.weights P t, n ≤ 140737488351232) → ∃ a, d.K w a cs ∧ good a
theorem cells_get {w : World} {base : Nat} {a : Addr} {n : Nat} {cs : List Value} (h : w.cells? base a n = some cs) {i : Nat} {u : Value} (hu : cs[i]? = some u) : w.cell? (a.add i) = some u := by
 obtain ⟨h1, h2, h3⟩ := World.cells?_some h
 have hi : i < cs.length := (List.getElem?_eq_some_iff.1 hu).1
 have := h3 i z7_
 rw [this, hu]
theorem opens_int {P : Program} {w : World} {t : TypeId} {k : IntKind} (ht : P.underlying t = some (.int k)) : Opens P w t (Kd.int k) (fun n => (Lit.int k n).wf = true) := by
 intro H enc base sp held fuel cs x h hw
 obtain ⟨n, rfl, rfl, hn⟩ := DataW.trod_int ht h
 exact ⟨n, rfl, hn⟩
theorem opens_string {P : Program} {w : World} {t : TypeId} (ht : P.underlying t = some .string) : Opens P w t Kd.string (fun s => s.size ≤ 140737488351232) := by
 intro H enc base sp held fuel cs x h hw
 obtain ⟨s, rfl, rfl, hn⟩ := DataW.trod_string ht h
 refine ⟨s, rfl, ?_⟩
 have := hw s.data.toList.length (by simp [DataW.weights])
 rwa [Array.length_toList] at this
theorem weightsAll_mem {H : Type} {P : Program} {e : TypeId} : ∀ {l : List (DataW H)} {d : DataW H}, d ∈ l → ∀ n ∈ d.weights P e, n ∈ DataW.weightsAll P e l
 | [], d, hd, n, hn => by cases hd
 | d0 :: l, d, hd, n, hn => by
  simp only [DataW.weightsAll, List.mem_append]
  rcases List.mem_cons.1 hd with rfl | hd
  ·exact .inl hn
  ·exact .inr (weightsAll_mem hd n hn)
theorem choose_list {α : Type} {p : Nat → α → Prop} : ∀ (n : Nat), (∀ i, i < n → ∃ a, p i a) → ∃ l : List α, l.length = n ∧ ∀ i a, l[i]? = some a → p i a
 | 0, _ => ⟨[], rfl, fun i a h => by simp at h⟩
 | n + 1, h => by
  obtain ⟨l, hl, hp⟩ := choose_list n (fun i hi => h i z7_)
  obtain ⟨a, ha⟩ := h n z7_
  refine ⟨l ++ [a], by simp [hl], fun i b hb => ?_⟩
  by_cases hi : i < l.length
  ·rw [List.getElem?_append_left hi] at hb
   exact hp i b hb
  ·rw [List.getElem?_append_right z7_] at hb
   have hi' : i - l.length = 0 := by
    have := (List.getElem?_eq_some_iff.1 hb).1
    simp only [List.length_singleton] at this
    omega
   rw [hi'] at hb
   simp at hb
   subst hb
   have : i = n := by omega
   subst this
   exact ha
theorem opens_slice {α : Type} {P : Program} {w : World} {t e : TypeId} {d : Kd α} {good : α → Prop} (ht : P.underlying t = some (.slice e)) (hc : P.cellsOf e = d.sz) (b : Nat) (hb : P.bytesOf e = b)
  (he : Opens P w e d good) : Opens P w t (Kd.slice e d) (fun l => l.length * b ≤ 140737488351232 ∧ l.length ≤ 9223372036854775807 ∧ ∀ a ∈ l, good a) := by
 intro H enc base sp held fuel cs x h hw
 rcases DataW.trod_slice ht h with ⟨rfl, rfl⟩ | ⟨a, len, cap, elems, rest, n, _, rfl, rfl, hbs, hl, hm, hlen, hel, _, _⟩
 ·exact ⟨[], ⟨none, 0, rfl, Nat.le_refl _, rfl, Nat.zero_le _, fun h => absurd h (by simp)⟩, by simp, by simp, fun _ h => by cases h⟩
 ·have hw1 : (elems.length + rest.length) * P.bytesOf e ≤ 140737488351232 := by
   exact hw ((elems.length + rest.length) * P.bytesOf e) (by simp only [DataW.weights, ht, List.length_map]; exact List.mem_cons_self)
  have each : ∀ i, i < len → ∃ y : α, good y ∧ ∃ c, c.length = d.sz ∧ d.K w y c ∧ ∀ j u, c[j]? = some u → w.cell? (a.add (i * d.sz + j)) = some u := by
   intro i hi
   have h1 := hel i hi
   have hi' : i < elems.length := by omega
   rw [List.getElem?_eq_getElem hi', Option.bind_eq_some_iff] at h1
   obtain ⟨c, hcs, hy⟩ := h1
   have hmem : elems[i] ∈ elems := List.getElem_mem hi'
   have hw2 : ∀ m ∈ (elems[i]).1.weights P e, m ≤ 140737488351232 := by
    intro m hm'
    refine hw m ?_
    simp only [DataW.weights, ht, List.mem_cons, List.mem_append]
    exact .inr (.inl (weightsAll_mem (List.mem_map_of_mem hmem) m hm'))
   obtain ⟨y, hK, hg⟩ := he H enc base sp held n c elems[i] hy hw2
   refine ⟨y, hg, c, d.K_len hK, hK, fun j u hu => ?_⟩
   have := cells_get hcs hu
   rw [hc] at this
   rw [show (a.add (i * d.sz + j)) = (a.add (i * d.sz)).add j from by
    simp only [Addr.add]
    by_cases h1 : i * d.sz = 0 <;> by_cases h2 : j = 0 <;> simp_all [Nat.add_assoc]]
   exact this
  obtain ⟨l, hll, hp⟩ := choose_list len each
  have hmax : len ≤ 9223372036854775807 := by
   have : maxLen = 9223372036854775807 := rfl
   omega
  refine ⟨l, ⟨some a, cap, by rw [hll], z7_, rfl, by rw [hll]; exact hmax, fun _ => ⟨a, rfl, fun j p hj => (hp j p hj).2⟩⟩, ?_, by rw [hll]; exact hmax, ?_⟩
  ·rw [hll, ← hb, ← hlen]
   exact Nat.le_trans (Nat.mul_le_mul_right _ (Nat.le_add_right _ _)) hw1
  ·intro y hy
   obtain ⟨i, hi⟩ := List.getElem?_of_mem hy
   exact (hp i y hi).1
def OpensF {α : Type} (P : Program) (w : World) (fs : List Field) (o : Nat) (d : Kd α) (good : α → Prop) : Prop :=
 ∀ (H : Type) (enc : TypeId × Value → H) (base : Nat) (sp : Nat → Bool) (held : Bool) (n : Nat) (cs : List Value) (xs : List (DataW H × List MemPlace)),
  xs.length = fs.length → (∀ (i : Nat) (f : Field), fs[i]? = some f → DataW.trod enc P w base sp held n f.type ((cs.drop f.offset).take (P.cellsOf f.type)) = xs[i]?) →
  (∀ n ∈ DataW.weightsEach P (fs.map (·.type)) (xs.map (·.1)), n ≤ 140737488351232) → o + d.sz = cs.length → ∃ a, d.K w a (cs.drop o) ∧ good a
theorem opensF_one {α : Type} {P : Program} {w : World} {f : Field} {o : Nat} {d : Kd α} {good : α → Prop} (ho : f.offset = o) (hc : P.cellsOf f.type = d.sz) (h : Opens P w f.type d good) : OpensF P w [f] o d good := by
 intro H enc base sp held n cs xs hx hf hw hl
 match xs, hx with
 | [x], _ =>
  have h0 := hf 0 f rfl
  simp only [List.getElem?_cons_zero] at h0
  subst ho
  rw [hc, List.take_of_length_le (by rw [List.length_drop]; omega)] at h0
  refine h H enc base sp held n _ x h0 (fun m hm => hw m ?_)
  simp [DataW.weightsEach]
  exact hm
theorem opensF_cons {α β : Type} {P : Program} {w : World} {f : Field} {fs : List Field} {o : Nat} {d : Kd α} {d2 : Kd β} {good : α → Prop} {good2 : β → Prop} (ho : f.offset = o) (hc : P.cellsOf f.type = d.sz) (h : Opens P w f.type d good)
  (hs : OpensF P w fs (o + d.sz) d2 good2) : OpensF P w (f :: fs) o (Kd.pair d d2) (fun x => good x.1 ∧ good2 x.2) := by
 intro H enc base sp held n cs xs hx hf hw hl
 match xs, hx with
 | x :: xs, hx =>
  have h0 := hf 0 f rfl
  simp only [List.getElem?_cons_zero] at h0
  subst ho
  rw [hc] at h0
  obtain ⟨a, hK, hg⟩ := h H enc base sp held n _ x h0 (fun m hm => hw m (by simp only [List.map_cons, DataW.weightsEach, List.mem_append]; exact .inl hm))
  obtain ⟨b, hK2, hg2⟩ := hs H enc base sp held n cs xs (by simpa using hx) (fun i g hg => by simpa using hf (i + 1) g (by simpa using hg))
   (fun m hm => hw m (by simp only [List.map_cons, DataW.weightsEach, List.mem_append]; exact .inr hm)) (by rw [← hl]; show _ = _ + (d.sz + d2.sz); omega)
  refine ⟨(a, b), ⟨_, _, ?_, hK, hK2⟩, hg, hg2⟩
  rw [← List.drop_drop, List.take_append_drop]
theorem opens_struct {α : Type} {P : Program} {w : World} {t : TypeId} {fs : Array Field} {d : Kd α} {good : α → Prop} (ht : P.underlying t = some (.struct fs)) (hc : P.cellsOf t = d.sz) (h : OpensF P w fs.toList 0 d good) : Opens P w t d good := by
 intro H enc base sp held fuel cs x hx hw
 obtain ⟨xs, n, _, rfl, hl, hlen, hf⟩ := DataW.trod_struct ht hx
 have := h H enc base sp held n cs xs (by simpa using hlen) (fun i f hi => hf i f (by simpa using hi)) (fun m hm => hw m (by simp only [DataW.weights, ht]; exact hm)) z7_
 simpa using this
theorem opens_iso {α β : Type} {P : Program} {w : World} {t : TypeId} {d : Kd α} {good : α → Prop} (f : β → α) (g : α → β) (hfg : ∀ a, f (g a) = a) (h : Opens P w t d good) : Opens P w t (Kd.iso d f) (fun b => good (f b)) := by
 intro H enc base sp held fuel cs x hx hw
 obtain ⟨a, hK, hg⟩ := h H enc base sp held fuel cs x hx hw
 exact ⟨g a, by show d.K w (f (g a)) cs; rw [hfg]; exact hK, by show good (f (g a)); rw [hfg]; exact hg⟩
theorem weights_at {H : Type} {P : Program} {ts : List TypeId} {ds : List (DataW H)} (h : (DataW.weightsEach P ts ds).all (· ≤ reachBytes) = true) {j : Nat} {t : TypeId} {d : DataW H} (ht : ts[j]? = some t) (hd : ds[j]? = some d) : ∀ n ∈ d.weights P t, n ≤ 140737488351232 := by
 intro n hn
 have := List.all_eq_true.1 h _ (DataW.weights_mem_each ht hd n hn)
 exact of_decide_eq_true this
end Go.Proofs.Ytecfndblgefhdaa.XOpen
