import Derived.Test.YtecfndblgefhdaaKcPx17
namespace Go.Proofs.Ytecfndblgefhdaa.XOpen
open Go.RowKit Go.Proofs.YtecfndblgefhdaaW.PrintWords Go.Proofs.YtecfndblgefhdaaW.PrintLast
set_option linter.unusedVariables false
def Opens {α : Type} (P : Program) (w : World) (t : TypeId) (d : Kd α) (good : α → Prop) : Prop :=
 ∀ (H : Type) (enc : TypeId × Value → H) (base : Nat) (sp : Nat → Bool) (held : Bool) (fuel : Nat) (cs : List Value) (x : DataW H × List MemPlace),
  DataW.trod enc P w base sp held fuel t cs = some x → (∀ n ∈ x.1.weights P t, n ≤ 140737488351232) → ∃ a, d.K w a cs ∧ good a
theorem cells_get {w : World} {base : Nat} {a : Addr} {n : Nat} {cs : List Value} (h : w.cells? base a n = some cs) {i : Nat} {u : Value} (hu : cs[i]? = some u) : w.cell? (a.add i) = some u := by
 obtain ⟨h1, h2, h3⟩ := World.cells?_some h
 have hi : i < cs.length := (List.getElem?_eq_some_iff.1 hu).1
 have := h3 i z2_
 rw [this, hu]
theorem opens_int {P : Program} {w : World} {t : TypeId} {k : IntKind} (ht : P.underlying t = some (.int k)) : Opens P w t (Kd.int k) (fun n => (Lit.int k n).wf = true) := by
 intro H enc base sp held fuel cs x h hw
 obtain ⟨n, rfl, rfl, hn⟩ := DataW.trod_int ht h
 exact ⟨n, rfl, hn⟩
theorem opens_bool {P : Program} {w : World} {t : TypeId} (ht : P.underlying t = some .bool) : Opens P w t Kd.bool (fun _ => True) := by
 intro H enc base sp held fuel cs x h hw
 obtain ⟨n, rfl, rfl⟩ := DataW.trod_bool ht h
 exact ⟨n, rfl, trivial⟩
theorem opens_string {P : Program} {w : World} {t : TypeId} (ht : P.underlying t = some .string) : Opens P w t Kd.string (fun s => s.size ≤ 140737488351232) := by
 intro H enc base sp held fuel cs x h hw
 obtain ⟨s, rfl, rfl, hn⟩ := DataW.trod_string ht h
 refine ⟨s, rfl, ?_⟩
 have := hw s.data.toList.length (by simp [DataW.weights])
 rwa [Array.length_toList] at this
theorem weightsAll_mem {H : Type} {P : Program} {e : TypeId} : ∀ {l : List (DataW H)} {d : DataW H}, d ∈ l → ∀ n ∈ d.weights P e, n ∈ DataW.weightsAll P e l
 | [], d, hd, n, hn => by cases hd
 | d0 :: l, d, hd, n, hn => by
  simp only [DataW.weightsAll, List.mem_append]
  rcases List.mem_cons.1 hd with rfl | hd
  ·exact .inl hn
  ·exact .inr (weightsAll_mem hd n hn)
theorem choose_list {α : Type} {p : Nat → α → Prop} : ∀ (n : Nat), (∀ i, i < n → ∃ a, p i a) → ∃ l : List α, l.length = n ∧ ∀ i a, l[i]? = some a → p i a
 | 0, _ => ⟨[], rfl, fun i a h => by simp at h⟩
 | n + 1, h => by
  obtain ⟨l, hl, hp⟩ := choose_list n (fun i hi => h i z2_)
  obtain ⟨a, ha⟩ := h n z2_
  refine ⟨l ++ [a], by simp [hl], fun i b hb => ?_⟩
  by_cases hi : i < l.length
  ·rw [List.getElem?_append_left hi] at hb
   exact hp i b hb
  ·rw [List.getElem?_append_right z2_] at hb
   have hi' : i - l.length = 0 := by
    have := (List.getElem?_eq_some_iff.1 hb).1
    simp only [List.length_singleton] at this
    omega
   rw [hi'] at hb
   simp at hb
   subst hb
   have : i = n := by omega
   subst this
   exact ha
theorem opens_slice {α : Type} {P : Program} {w : World} {t e : TypeId} {d : Kd α} {good : α → Prop} (ht : P.underlying t = some (.slice e)) (hc : P.cellsOf e = d.sz) (b : Nat) (hb : P.bytesOf e = b)
  (he : Opens P w e d good) : Opens P w t (Kd.slice e d) (fun l => l.length * b ≤ 140737488351232 ∧ l.length ≤ 9223372036854775807 ∧ ∀ a ∈ l, good a) := by
 intro H enc base sp held fuel cs x h hw
 rcases DataW.trod_slice ht h with ⟨rfl, rfl⟩ | ⟨a, len, cap, elems, rest, n, _, rfl, rfl, hbs, hl, hm, hlen, hel, _, _⟩
 ·exact ⟨[], ⟨none, 0, rfl, Nat.le_refl _, rfl, Nat.zero_le _, fun h => absurd h (by simp)⟩, by simp, by simp, fun _ h => by cases h⟩
 ·have hw1 : (elems.length + rest.length) * P.bytesOf e ≤ 140737488351232 := by
   exact hw ((elems.length + rest.length) * P.bytesOf e) (by simp only [DataW.weights, ht, List.length_map]; exact List.mem_cons_self)
  have each : ∀ i, i < len → ∃ y : α, good y ∧ ∃ c, c.length = d.sz ∧ d.K w y c ∧ ∀ j u, c[j]? = some u → w.cell? (a.add (i * d.sz + j)) = some u := by
   intro i hi
   have h1 := hel i hi
   have hi' : i < elems.length := by omega
   rw [List.getElem?_eq_getElem hi', Option.bind_eq_some_iff] at h1
   obtain ⟨c, hcs, hy⟩ := h1
   have hmem : elems[i] ∈ elems := List.getElem_mem hi'
   have hw2 : ∀ m ∈ (elems[i]).1.weights P e, m ≤ 140737488351232 := by
    intro m hm'
    refine hw m ?_
    simp only [DataW.weights, ht, List.mem_cons, List.mem_append]
    exact .inr (.inl (weightsAll_mem (List.mem_map_of_mem hmem) m hm'))
   obtain ⟨y, hK, hg⟩ := he H enc base sp held n c elems[i] hy hw2
   refine ⟨y, hg, c, d.K_len hK, hK, fun j u hu => ?_⟩
   have := cells_get hcs hu
   rw [hc] at this
   rw [show (a.add (i * d.sz + j)) = (a.add (i * d.sz)).add j from by
    simp only [Addr.add]
    by_cases h1 : i * d.sz = 0 <;> by_cases h2 : j = 0 <;> simp_all [Nat.add_assoc]]
   exact this
  obtain ⟨l, hll, hp⟩ := choose_list len each
  have hmax : len ≤ 9223372036854775807 := by
   have : maxLen = 9223372036854775807 := rfl
   omega
  refine ⟨l, ⟨some a, cap, by rw [hll], z2_, rfl, by rw [hll]; exact hmax, fun _ => ⟨a, rfl, fun j p hj => (hp j p hj).2⟩⟩, ?_, by rw [hll]; exact hmax, ?_⟩
  ·rw [hll, ← hb, ← hlen]
   exact Nat.le_trans (Nat.mul_le_mul_right _ (Nat.le_add_right _ _)) hw1
  ·intro y hy
   obtain ⟨i, hi⟩ := List.getElem?_of_mem hy
   exact (hp i y hi).1
def OpensF {α : Type} (P : Program) (w : World) (fs : List Field) (o : Nat) (d : Kd α) (good : α → Prop) : Prop :=
 ∀ (H : Type) (enc : TypeId × Value → H) (base : Nat) (sp : Nat → Bool) (held : Bool) (n : Nat) (cs : List Value) (xs : List (DataW H × List MemPlace)),
  xs.length = fs.length → (∀ (i : Nat) (f : Field), fs[i]? = some f → DataW.trod enc P w base sp held n f.type ((cs.drop f.offset).take (P.cellsOf f.type)) = xs[i]?) →
  (∀ n ∈ DataW.weightsEach P (fs.map (·.type)) (xs.map (·.1)), n ≤ 140737488351232) → o + d.sz = cs.length → ∃ a, d.K w a (cs.drop o) ∧ good a
theorem opensF_one {α : Type} {P : Program} {w : World} {f : Field} {o : Nat} {d : Kd α} {good : α → Prop} (ho : f.offset = o) (hc : P.cellsOf f.type = d.sz) (h : Opens P w f.type d good) : OpensF P w [f] o d good := by
 intro H enc base sp held n cs xs hx hf hw hl
 match xs, hx with
 | [x], _ =>
  have h0 := hf 0 f rfl
  simp only [List.getElem?_cons_zero] at h0
  subst ho
  rw [hc, List.take_of_length_le (by rw [List.length_drop]; omega)] at h0
  refine h H enc base sp held n _ x h0 (fun m hm => hw m ?_)
  simp [DataW.weightsEach]
  exact hm
theorem opensF_cons {α β : Type} {P : Program} {w : World} {f : Field} {fs : List Field} {o : Nat} {d : Kd α} {d2 : Kd β} {good : α → Prop} {good2 : β → Prop} (ho : f.offset = o) (hc : P.cellsOf f.type = d.sz) (h : Opens P w f.type d good)
  (hs : OpensF P w fs (o + d.sz) d2 good2) : OpensF P w (f :: fs) o (Kd.pair d d2) (fun x => good x.1 ∧ good2 x.2) := by
 intro H enc base sp held n cs xs hx hf hw hl
 match xs, hx with
 | x :: xs, hx =>
  have h0 := hf 0 f rfl
  simp only [List.getElem?_cons_zero] at h0
  subst ho
  rw [hc] at h0
  obtain ⟨a, hK, hg⟩ := h H enc base sp held n _ x h0 (fun m hm => hw m (by simp only [List.map_cons, DataW.weightsEach, List.mem_append]; exact .inl hm))
  obtain ⟨b, hK2, hg2⟩ := hs H enc base sp held n cs xs (by simpa using hx) (fun i g hg => by simpa using hf (i + 1) g (by simpa using hg))
   (fun m hm => hw m (by simp only [List.map_cons, DataW.weightsEach, List.mem_append]; exact .inr hm)) (by rw [← hl]; show _ = _ + (d.sz + d2.sz); omega)
  refine ⟨(a, b), ⟨_, _, ?_, hK, hK2⟩, hg, hg2⟩
  rw [← List.drop_drop, List.take_append_drop]
theorem opens_struct {α : Type} {P : Program} {w : World} {t : TypeId} {fs : Array Field} {d : Kd α} {good : α → Prop} (ht : P.underlying t = some (.struct fs)) (hc : P.cellsOf t = d.sz) (h : OpensF P w fs.toList 0 d good) : Opens P w t d good := by
 intro H enc base sp held fuel cs x hx hw
 obtain ⟨xs, n, _, rfl, hl, hlen, hf⟩ := DataW.trod_struct ht hx
 have := h H enc base sp held n cs xs (by simpa using hlen) (fun i f hi => hf i f (by simpa using hi)) (fun m hm => hw m (by simp only [DataW.weights, ht]; exact hm)) z2_
 simpa using this
theorem opens_iso {α β : Type} {P : Program} {w : World} {t : TypeId} {d : Kd α} {good : α → Prop} (f : β → α) (g : α → β) (hfg : ∀ a, f (g a) = a) (h : Opens P w t d good) : Opens P w t (Kd.iso d f) (fun b => good (f b)) := by
 intro H enc base sp held fuel cs x hx hw
 obtain ⟨a, hK, hg⟩ := h H enc base sp held fuel cs x hx hw
 exact ⟨g a, by show d.K w (f (g a)) cs; rw [hfg]; exact hK, by show good (f (g a)); rw [hfg]; exact hg⟩
theorem weights_at {H : Type} {P : Program} {ts : List TypeId} {ds : List (DataW H)} (h : (DataW.weightsEach P ts ds).all (· ≤ reachBytes) = true) {j : Nat} {t : TypeId} {d : DataW H} (ht : ts[j]? = some t) (hd : ds[j]? = some d) : ∀ n ∈ d.weights P t, n ≤ 140737488351232 := by
 intro n hn
 have := List.all_eq_true.1 h _ (DataW.weights_mem_each ht hd n hn)
 exact of_decide_eq_true this
end Go.Proofs.Ytecfndblgefhdaa.XOpen
set_option linter.unusedVariables false
set_option linter.unusedSimpArgs false
namespace Go.Proofs.Ytecfndblgefhdaa.Core
open Go.RowKit Go.Proofs.YtecfndblgefhdaaW.PrintWords Go.Proofs.YtecfndblgefhdaaW.PrintMore
def digs (n : Nat) : Nat → List UInt8
 | 0 => []
 | w + 1 => UInt8.ofNat (n / 256 ^ w) :: digs n w
def num (l : List UInt8) : Nat := l.foldl (fun a b => 256 * a + b.toNat) 0
theorem digs_length (n w : Nat) : (digs n w).length = w := by
 induction w with
 | zero => rfl
 | succ w ih => simp [digs, ih]
theorem digs_get (n w i : Nat) (h : i < w) : (digs n w)[i]? = some (UInt8.ofNat (n / 256 ^ (w - 1 - i))) := by
 induction w generalizing i with
 | zero => omega
 | succ w ih =>
  cases i with
  | zero => simp [digs]
  | succ i =>
   simp only [digs, List.getElem?_cons_succ]
   rw [ih i z2_]
   congr 4
   omega
theorem digs_snoc (n w : Nat) : digs n (w + 1) = digs (n / 256) w ++ [UInt8.ofNat n] := by
 induction w with
 | zero => simp [digs]
 | succ w ih =>
  rw [digs, ih, digs]
  simp only [List.cons_append]
  congr 2
  rw [Nat.pow_succ, Nat.mul_comm, Nat.div_div_eq_div_mul]
theorem num_foldl (l : List UInt8) (a : Nat) : l.foldl (fun a b => 256 * a + b.toNat) a = a * 256 ^ l.length + num l := by
 induction l generalizing a with
 | nil => simp [num]
 | cons b l ih =>
  unfold num
  simp only [List.foldl_cons, List.length_cons]
  rw [ih, ih (256 * 0 + b.toNat), Nat.pow_succ]
  rw [Nat.add_mul, Nat.mul_zero, Nat.zero_add, Nat.mul_comm 256 a, Nat.mul_assoc, Nat.mul_comm 256 (256 ^ l.length), Nat.add_assoc]
theorem num_append (l m : List UInt8) : num (l ++ m) = num l * 256 ^ m.length + num m := by
 rw [num, List.foldl_append, num_foldl]
 rfl
theorem num_cons (b : UInt8) (l : List UInt8) : num (b :: l) = b.toNat * 256 ^ l.length + num l := by
 have := num_append [b] l
 simpa [num] using this
theorem num_snoc (l : List UInt8) (b : UInt8) : num (l ++ [b]) = 256 * num l + b.toNat := by
 rw [num_append]
 simp [num]
 omega
theorem num_lt (l : List UInt8) : num l < 256 ^ l.length := by
 induction l with
 | nil => simp [num]
 | cons b l ih =>
  rw [num_cons, List.length_cons, Nat.pow_succ]
  have hb : b.toNat ≤ 255 := by have := b.toNat_lt; omega
  have : b.toNat * 256 ^ l.length ≤ 255 * 256 ^ l.length := Nat.mul_le_mul_right _ hb
  omega
theorem num_digs (n w : Nat) (h : n < 256 ^ w) : num (digs n w) = n := by
 induction w generalizing n with
 | zero => simp at h; subst h; rfl
 | succ w ih =>
  rw [digs_snoc, num_snoc, ih (n / 256) (by rw [Nat.pow_succ] at h; omega)]
  simp
  omega
def mk (l : List UInt8) : ByteArray := ⟨l.toArray⟩
theorem mk_data (l : List UInt8) : (mk l).data.toList = l := rfl
theorem data_mk (s : ByteArray) : mk s.data.toList = s := rfl
theorem mk_size (l : List UInt8) : (mk l).size = l.length := by simp [mk, ByteArray.size]
theorem ba_ext {a b : ByteArray} (h : a.data.toList = b.data.toList) : a = b := by rw [← data_mk a, ← data_mk b, h]
theorem mk_append (l m : List UInt8) : mk l ++ mk m = mk (l ++ m) := by
 apply ba_ext
 simp [mk]
theorem mk_inj {l m : List UInt8} : mk l = mk m ↔ l = m := ⟨fun h => by rw [← mk_data l, h, mk_data], fun h => by rw [h]⟩
theorem strOfNums_mk (xs : List Int) : strOfNums xs = mk (xs.map fun n => UInt8.ofNat n.toNat) := rfl
theorem empty_mk : (⟨#[]⟩ : ByteArray) = mk [] := rfl
theorem bt_data (s : ByteArray) (i : Nat) (h : i < s.size) : bt s (i : Int) = ((s.data.toList[i]'(by simpa using h)).toNat : Int) := by
 unfold bt
 rw [dif_pos (by simpa using h)]
 simp [ByteArray.getElem_eq_getElem_data]
theorem data_extract_list (s : ByteArray) (i j : Nat) : (s.extract i j).data.toList = (s.data.toList.take j).drop i := by
 rw [ByteArray.data_extract, Array.toList_extract, List.extract_eq_take_drop, List.drop_take]
end Go.Proofs.Ytecfndblgefhdaa.Core
namespace Go.Proofs.Ytecfndblgefhdaa.Oct
open Go.RowKit Go.Proofs.Ytecfndblgefhdaa.P Go.Proofs.Ytecfndblgefhdaa.Core Go.Proofs.YtecfndblgefhdaaW.PrintWords Go.Proofs.YtecfndblgefhdaaW.PrintLast Go.Proofs.YtecfndblgefhdaaW.PrintMore
theorem wf_i64 {n : Int} : (Lit.int .i64 n).wf = true ↔ -9223372036854775808 ≤ n ∧ n ≤ 9223372036854775807 := by
 have e0 : IntKind.i64.min = -9223372036854775808 := by decide
 have e1 : IntKind.i64.max = 9223372036854775807 := by decide
 simp [Lit.wf, e0, e1]
theorem wrap64_id {n : Int} (h0 : -9223372036854775808 ≤ n) (h1 : n ≤ 9223372036854775807) : wrap64 n = n := by unfold wrap64; omega
theorem pow_cast (w : Nat) : ((256 ^ w : Nat) : Int) = (256 : Int) ^ w := Int.natCast_pow 256 w
def putS (n w : Int) : ByteArray × Int :=
 if w < 1 ∨ 8 < w then (mk [], 1) else if n < 0 ∨ (256 : Int) ^ w.toNat ≤ n then (mk [], 10) else (mk (digs n.toNat w.toNat), 0)
def getS (s : ByteArray) : Int × Int :=
 if s.size < 1 ∨ 8 < s.size then (0, 1) else if 9223372036854775807 < num s.data.toList then (0, 10) else ((num s.data.toList : Int), 0)
def numberS (s : ByteArray) (w : Int) : Int × ByteArray × Int :=
 if w < 1 ∨ 8 < w then (0, mk [], 1) else if (s.size : Int) < w then (0, mk [], 2) else
  if (getS (s.extract 0 w.toNat)).2 = 0 then ((getS (s.extract 0 w.toNat)).1, s.extract w.toNat s.size, 0) else (0, mk [], (getS (s.extract 0 w.toNat)).2)
theorem num_take_succ (l : List UInt8) (i : Nat) (h : i < l.length) : num (l.take (i + 1)) = 256 * num (l.take i) + (l[i]).toNat := by
 rw [List.take_succ_eq_append_getElem h, num_snoc]
def pre (n w i : Nat) : List Int := (List.range w).map fun j => if j < i then ((n / 256 ^ (w - 1 - j) % 256 : Nat) : Int) else 0
theorem pre_length (n w i : Nat) : (pre n w i).length = w := by simp [pre]
theorem pre_zero (n w : Nat) : pre n w 0 = List.replicate w 0 := by
 apply List.ext_getElem?
 intro i
 by_cases h : i < w <;> simp [pre, h, List.getElem?_replicate]
theorem pre_set (n w i : Nat) (h : i < w) : (pre n w i).set i ((n / 256 ^ (w - 1 - i) % 256 : Nat) : Int) = pre n w (i + 1) := by
 apply List.ext_getElem (by simp [pre])
 intro j h1 h2
 simp only [List.length_set, pre_length] at h1
 rw [List.getElem_set]
 simp only [pre, List.getElem_map, List.getElem_range]
 by_cases hij : i = j
 ·subst hij; simp
 ·rw [if_neg hij]
  by_cases hj : j < i
  ·rw [if_pos hj, if_pos z2_]
  ·rw [if_neg hj, if_neg z2_]
theorem pre_full (n w : Nat) : strOfNums (pre n w w) = mk (digs n w) := by
 rw [strOfNums_mk, mk_inj]
 apply List.ext_getElem?
 intro i
 by_cases h : i < w
 ·rw [digs_get n w i h]
  simp only [pre, List.map_map, List.getElem?_map]
  rw [List.getElem?_range h]
  simp [h]
  apply UInt8.toNat_inj.1
  rw [show (((n : Int) / 256 ^ (w - 1 - i) % 256).toNat) = n / 256 ^ (w - 1 - i) % 256 from by
   rw [show ((n : Int) / 256 ^ (w - 1 - i) % 256) = ((n / 256 ^ (w - 1 - i) % 256 : Nat) : Int) from by simp]
   exact Int.toNat_natCast _]
  simp
 ·rw [List.getElem?_eq_none (by simp [pre]; omega), List.getElem?_eq_none z173_]
theorem shr_num (n j : Nat) (hj : j ≤ 64) : shr .i64 (n : Int) (j : Int) = ((n / 2 ^ j : Nat) : Int) := by
 unfold shr
 rw [show (j : Int).toNat = j from z2_, Nat.min_eq_left (by simpa [IntKind.bits] using hj)]
 simp
theorem put_l0 (n w : Nat) (hw : w ≤ 8) (d : Nat) : ∀ (i k : Nat), i + d = w → d < k →
  octet_Put.l0 k (n : Int) (w : Int) (pre n w i) (w : Int) (i : Int) = some (mk (digs n w), 0) := by
 induction d with
 | zero =>
  intro i k hi hk
  obtain ⟨k, rfl⟩ : ∃ m, k = m + 1 := ⟨k - 1, z2_⟩
  simp only [octet_Put.l0]
  rw [if_neg z2_]
  obtain rfl : i = w := by omega
  rw [pre_full]
 | succ d ih =>
  intro i k hi hk
  obtain ⟨k, rfl⟩ : ∃ m, k = m + 1 := ⟨k - 1, z2_⟩
  simp only [octet_Put.l0]
  have e1 : wrap64 ((w : Int) - 1) = (w : Int) - 1 := wrap64_id z2_ z2_
  have e2 : wrap64 ((w : Int) - 1 - i) = ((w - 1 - i : Nat) : Int) := by rw [wrap64_id z2_ z2_]; omega
  have e3 : wrap64 (8 * ((w - 1 - i : Nat) : Int)) = ((8 * (w - 1 - i) : Nat) : Int) := by rw [wrap64_id z2_ z2_]; omega
  have e4 : wrap64 ((i : Int) + 1) = ((i + 1 : Nat) : Int) := by rw [wrap64_id z2_ z2_]; omega
  rw [e1, e2, e3, e4, shr_num _ _ z2_, pre_length]
  rw [if_pos z2_, if_pos z2_, if_pos z2_, if_pos z2_]
  rw [show (i : Int).toNat = i from z2_, Nat.pow_mul, show (((n / (2 ^ 8) ^ (w - 1 - i) : Nat) : Int) % 256) = ((n / 256 ^ (w - 1 - i) % 256 : Nat) : Int) from by simp]
  rw [pre_set n w i z2_]
  exact ih (i + 1) k z2_ z2_
theorem put_eq {n w : Int} (hn : (Lit.int .i64 n).wf = true) (hw : (Lit.int .i64 w).wf = true) {k : Nat} (hk : 12 ≤ k) : octet_Put.f k n w = some (putS n w) := by
 rw [wf_i64] at hn hw
 obtain ⟨k, rfl⟩ : ∃ m, k = m + 2 := ⟨k - 2, z2_⟩
 unfold octet_Put.f putS
 by_cases h1 : w < 1
 ·rw [if_pos h1, if_pos (.inl h1)]; simp [octet_Put.j0, empty_mk]
 rw [if_neg h1]
 by_cases h8 : 8 < w
 ·rw [if_pos (.inr h8), show decide (w > 8) = true from by simpa using h8]; simp [octet_Put.j0, empty_mk]
 rw [if_neg z2_, show decide (w > 8) = false from by simpa using h8]
 simp only [octet_Put.j0]
 rw [if_neg (by simp)]
 by_cases hn0 : n < 0
 ·rw [if_pos hn0, if_pos (.inl hn0)]; simp [octet_Put.j1, empty_mk]
 rw [if_neg hn0]
 obtain ⟨n, rfl⟩ := Int.eq_ofNat_of_zero_le (show 0 ≤ n from z2_)
 obtain ⟨w, rfl⟩ := Int.eq_ofNat_of_zero_le (show 0 ≤ w from z2_)
 have e1 : wrap64 (8 * (w : Int)) = ((8 * w : Nat) : Int) := by rw [wrap64_id z2_ z2_]; omega
 rw [show (n : Int).toNat = n from z2_, show (w : Int).toNat = w from z2_]
 have fin : octet_Put.j1 (k + 1) (n : Int) (w : Int) false = some (mk (digs n w), 0) := by
  simp only [octet_Put.j1]
  rw [if_neg (by simp), if_pos z2_, if_pos z2_]
  simp only [Option.bind_some]
  rw [show (w : Int).toNat = w from z2_, ← pre_zero n w, pre_length]
  exact put_l0 n w z2_ w 0 k z2_ z2_
 by_cases hw8 : w < 8
 ·rw [if_pos z2_, e1, if_pos z2_, shr_num _ _ z2_, Nat.pow_mul]
  by_cases hbig : 256 ^ w ≤ n
  ·have : n / (2 ^ 8) ^ w ≠ 0 := by
    have := Nat.div_pos hbig (Nat.pow_pos (z2_ : 0 < 256))
    simpa using Nat.pos_iff_ne_zero.1 this
   rw [show ((((n / (2 ^ 8) ^ w : Nat) : Int)) != 0) = true from by rw [bne_iff_ne]; omega]
   rw [if_pos (.inr (by rw [← pow_cast]; omega))]
   simp [octet_Put.j1, empty_mk]
  ·have : n / (2 ^ 8) ^ w = 0 := Nat.div_eq_of_lt (by simpa using Nat.lt_of_not_le hbig)
   rw [this, show ((((0 : Nat) : Int)) != 0) = false from rfl, fin, if_neg (by
    intro h
    rcases h with h | h
    ·omega
    ·rw [← pow_cast] at h; omega)]
 ·obtain rfl : w = 8 := by omega
  rw [if_neg z2_, fin, if_neg (by
   have : (256 : Int) ^ 8 = 18446744073709551616 := by decide
   rw [this]
   omega)]
theorem or_byte (a b : Nat) (ha : a < 2 ^ 56) (hb : b < 256) : Go.bits .or .u64 (IntKind.u64.wrap ((a : Int) * 256)) (IntKind.u64.wrap (b : Int)) = ((256 * a + b : Nat) : Int) := by
 have w1 : IntKind.u64.wrap ((a : Int) * 256) = ((a * 256 : Nat) : Int) := by
  simp [IntKind.wrap, IntKind.bits, IntKind.signed]; omega
 have w2 : IntKind.u64.wrap (b : Int) = (b : Int) := by
  simp [IntKind.wrap, IntKind.bits, IntKind.signed]; omega
 have hu : ∀ n : Int, 0 ≤ n → n < 2 ^ 64 → IntKind.u64.wrap n = n := by
  intro n h0 h1
  simp [IntKind.wrap, IntKind.bits, IntKind.signed]; omega
 rw [w1, w2]
 rw [bits_join .u64 64 z17_ hu 8 _ _ z2_ z2_ z2_ z2_ z2_ z2_]
 omega
theorem get_l0 (s : ByteArray) (hs : s.size ≤ 8) (d : Nat) : ∀ (i k : Nat), i + d = s.size → d < k →
  octet_Get.l0 k s (num (s.data.toList.take i) : Nat) (s.size : Int) (i : Int) = some (if 9223372036854775807 < num s.data.toList then (0, 10) else ((num s.data.toList : Int), 0)) := by
 have hl : s.data.toList.length = s.size := by simp
 induction d with
 | zero =>
  intro i k hi hk
  obtain ⟨k, rfl⟩ : ∃ m, k = m + 1 := ⟨k - 1, z2_⟩
  simp only [octet_Get.l0]
  rw [if_neg z2_, show s.data.toList.take i = s.data.toList from List.take_of_length_le z2_]
  by_cases h : 9223372036854775807 < num s.data.toList
  ·rw [if_pos z2_, if_pos h]
  ·rw [if_neg z2_, if_neg h, wrap64_id z2_ z2_]
 | succ d ih =>
  intro i k hi hk
  obtain ⟨k, rfl⟩ : ∃ m, k = m + 1 := ⟨k - 1, z2_⟩
  simp only [octet_Get.l0]
  have e4 : wrap64 ((i : Int) + 1) = ((i + 1 : Nat) : Int) := by rw [wrap64_id z2_ z2_]; omega
  have hlt : num (s.data.toList.take i) < 2 ^ 56 := by
   have h1 := num_lt (s.data.toList.take i)
   have h2 : (s.data.toList.take i).length ≤ 7 := by rw [List.length_take]; omega
   have h3 : 256 ^ (s.data.toList.take i).length ≤ 256 ^ 7 := Nat.pow_le_pow_right z2_ h2
   have h4 : (256 : Nat) ^ 7 = 2 ^ 56 := by decide
   omega
  rw [if_pos z2_, if_pos z2_, if_pos z2_, bt_data s i z2_, or_byte _ _ hlt (UInt8.toNat_lt _), e4, ← num_take_succ s.data.toList i z2_]
  exact ih (i + 1) k z2_ z2_
theorem get_eq (s : ByteArray) {k : Nat} (hk : 12 ≤ k) : octet_Get.f k s = some (getS s) := by
 obtain ⟨k, rfl⟩ : ∃ m, k = m + 1 := ⟨k - 1, z2_⟩
 unfold octet_Get.f getS
 by_cases h1 : s.size < 1
 ·rw [if_pos z2_, if_pos (.inl h1)]; simp [octet_Get.j0]
 rw [if_neg z2_]
 by_cases h8 : 8 < s.size
 ·rw [if_pos (.inr h8), show decide ((s.size : Int) > 8) = true from z174_]; simp [octet_Get.j0]
 rw [if_neg z2_, show decide ((s.size : Int) > 8) = false from z174_]
 simp only [octet_Get.j0]
 rw [if_neg (by simp)]
 exact get_l0 s z2_ s.size 0 k z2_ z2_
theorem number_eq (s : ByteArray) (w : Int) {k : Nat} (hk : 14 ≤ k) : octet_Number.f k s w = some (numberS s w) := by
 obtain ⟨k, rfl⟩ : ∃ m, k = m + 1 := ⟨k - 1, z2_⟩
 unfold octet_Number.f numberS
 by_cases h1 : w < 1
 ·rw [if_pos h1, if_pos (.inl h1)]; simp [octet_Number.j0, empty_mk]
 rw [if_neg h1]
 by_cases h8 : 8 < w
 ·rw [if_pos (.inr h8), show decide (w > 8) = true from by simpa using h8]; simp [octet_Number.j0, empty_mk]
 rw [if_neg z2_, show decide (w > 8) = false from by simpa using h8]
 simp only [octet_Number.j0]
 rw [if_neg (by simp)]
 by_cases hs : (s.size : Int) < w
 ·rw [if_pos hs, if_pos hs]; rfl
 rw [if_neg hs, if_neg hs, if_pos z2_, if_pos z2_, get_eq _ z2_]
 simp only [Option.bind_some]
 by_cases he : (getS (s.extract 0 w.toNat)).2 = 0
 ·rw [if_pos he, if_pos he]
 ·rw [if_neg he, if_neg he]; rfl
theorem putS_of {n w : Nat} (h1 : 1 ≤ w) (h8 : w ≤ 8) (hn : n < 256 ^ w) : putS (n : Int) (w : Int) = (mk (digs n w), 0) := by
 unfold putS
 rw [if_neg z2_, if_neg (by rw [show (w : Int).toNat = w from z2_, ← pow_cast]; omega)]
 rfl
theorem getS_digs {n w : Nat} (h1 : 1 ≤ w) (h8 : w ≤ 8) (hn : n < 256 ^ w) (hb : n ≤ 9223372036854775807) : getS (mk (digs n w)) = ((n : Int), 0) := by
 unfold getS
 rw [mk_size, digs_length, mk_data, num_digs n w hn, if_neg z2_, if_neg z2_]
theorem numberS_digs {n w : Nat} (h1 : 1 ≤ w) (h8 : w ≤ 8) (hn : n < 256 ^ w) (hb : n ≤ 9223372036854775807) (m : ByteArray) : numberS (mk (digs n w) ++ m) (w : Int) = ((n : Int), m, 0) := by
 have hs : (mk (digs n w) ++ m).size = w + m.size := by rw [ByteArray.size_append, mk_size, digs_length]
 have hx : (mk (digs n w) ++ m).extract 0 w = mk (digs n w) := ByteArray.extract_append_eq_left z175_
 have hy : (mk (digs n w) ++ m).extract w (w + m.size) = m := ByteArray.extract_append_eq_right z175_ z175_
 unfold numberS
 rw [if_neg z2_, if_neg z2_, show (w : Int).toNat = w from z2_, hx, hs, hy, getS_digs h1 h8 hn hb, if_pos rfl]
def textS (s : ByteArray) : ByteArray × Int := if 65535 < s.size then (mk [], 5) else (mk (digs s.size 2) ++ s, 0)
def takeS (s : ByteArray) : ByteArray × ByteArray × Int :=
 if s.size < 2 then (mk [], mk [], 2) else
  if s.size - 2 < num (s.data.toList.take 2) then (mk [], mk [], 2) else
   (s.extract 2 (2 + num (s.data.toList.take 2)), s.extract (2 + num (s.data.toList.take 2)) s.size, 0)
theorem num_take_two_lt (s : ByteArray) : num (s.data.toList.take 2) < 65536 := by
 have h1 := num_lt (s.data.toList.take 2)
 have h2 : 256 ^ (s.data.toList.take 2).length ≤ 256 ^ 2 := Nat.pow_le_pow_right z2_ z176_
 omega
theorem numberS_two (s : ByteArray) (h : 2 ≤ s.size) : numberS s 2 = ((num (s.data.toList.take 2) : Int), s.extract 2 s.size, 0) := by
 have hl := num_take_two_lt s
 have hx : (s.extract 0 2).data.toList = s.data.toList.take 2 := by rw [data_extract_list, List.drop_zero]
 have hz : (s.extract 0 2).size = 2 := by rw [ByteArray.size_extract]; omega
 unfold numberS
 rw [if_neg z2_, if_neg z2_, show (2 : Int).toNat = 2 from rfl]
 have hg : getS (s.extract 0 2) = ((num (s.data.toList.take 2) : Int), 0) := by
  unfold getS
  rw [hx, hz, if_neg z2_, if_neg z2_]
 rw [hg, if_pos rfl]
theorem numberS_short (s : ByteArray) (h : s.size < 2) : numberS s 2 = (0, mk [], 2) := by
 unfold numberS
 rw [if_neg z2_, if_pos z2_]
theorem text_eq (s : ByteArray) (hs : s.size ≤ 140737488351232) {k : Nat} (hk : 12 ≤ k) : octet_Text.f k s = some (textS s) := by
 unfold octet_Text.f textS
 by_cases h : 65535 < s.size
 ·rw [if_pos z2_, if_pos h]; rfl
 ·rw [if_neg z2_, if_neg h, put_eq (wf_i64.2 ⟨z2_, z2_⟩) z17_ hk]
  have := putS_of (n := s.size) (w := 2) z2_ z2_ z2_
  rw [show ((2 : Nat) : Int) = 2 from rfl] at this
  rw [this]
  simp only [Option.bind_some]
  rw [if_pos (by rw [mk_size, digs_length]; omega)]
theorem take_eq (s : ByteArray) {k : Nat} (hk : 14 ≤ k) : octet_Take.f k s = some (takeS s) := by
 unfold octet_Take.f takeS
 rw [number_eq _ _ hk]
 by_cases h : s.size < 2
 ·rw [numberS_short s h, if_pos h]; rfl
 rw [numberS_two s z2_, if_neg h]
 simp only [Option.bind_some]
 rw [if_pos trivial, ByteArray.size_extract, Nat.min_self]
 by_cases h2 : s.size - 2 < num (s.data.toList.take 2)
 ·rw [if_pos z2_, if_pos h2]; rfl
 rw [if_neg z2_, if_neg h2, if_pos z2_, if_pos z2_, Int.toNat_natCast, ByteArray.extract_extract, ByteArray.extract_extract]
 rw [show min (2 + num (s.data.toList.take 2)) s.size = 2 + num (s.data.toList.take 2) from z2_, show min (2 + (s.size - 2)) s.size = s.size from z2_, Nat.add_zero]
theorem takeS_text (s m : ByteArray) (h : s.size ≤ 65535) : takeS (mk (digs s.size 2) ++ s ++ m) = (s, m, 0) := by
 have hz : (mk (digs s.size 2) ++ s ++ m).size = 2 + s.size + m.size := by rw [ByteArray.size_append, ByteArray.size_append, mk_size, digs_length]
 have ht : (mk (digs s.size 2) ++ s ++ m).data.toList.take 2 = digs s.size 2 := by
  simp only [ByteArray.data_append, Array.toList_append, mk_data, List.append_assoc]
  rw [List.take_append_of_le_length z173_, List.take_of_length_le z173_]
 have hn := num_digs s.size 2 z2_
 unfold takeS
 rw [ht, hn, hz, if_neg z2_, if_neg z2_]
 have e1 : (mk (digs s.size 2) ++ s ++ m).extract 2 (2 + s.size) = s := by
  apply ba_ext
  rw [data_extract_list]
  simp only [ByteArray.data_append, Array.toList_append, mk_data, List.append_assoc]
  rw [← List.append_assoc, List.take_append_of_le_length z177_, List.take_of_length_le z177_, List.drop_left' (digs_length _ _)]
 have e2 : (mk (digs s.size 2) ++ s ++ m).extract (2 + s.size) (2 + s.size + m.size) = m := ByteArray.extract_append_eq_right (by rw [ByteArray.size_append, mk_size, digs_length]) (by rw [ByteArray.size_append, mk_size, digs_length])
 rw [e1, e2]
theorem textS_size (s : ByteArray) (h : s.size ≤ 65535) : textS s = (mk (digs s.size 2) ++ s, 0) := by unfold textS; rw [if_neg z2_]
theorem strOfNums_bytesOf (s : ByteArray) : strOfNums (bytesOf s) = s := by
 apply ba_ext
 rw [strOfNums_mk, mk_data, bytesOf, List.map_map]
 conv => rhs; rw [← List.map_id s.data.toList]
 apply List.map_congr_left
 intro b _
 simp
theorem bytesOf_append (a b : ByteArray) : bytesOf (a ++ b) = bytesOf a ++ bytesOf b := by simp [bytesOf]
def tot : List ByteArray → Nat
 | [] => 0
 | s :: r => s.size + tot r
theorem tot_append (a b : List ByteArray) : tot (a ++ b) = tot a + tot b := by
 induction a with
 | nil => simp [tot]
 | cons s r ih => simp only [List.cons_append, tot, ih]; omega
theorem rdOf_drop (l : List ByteArray) (i : Nat) (h : i < l.length) : l.drop i = rdOf ByteArray.empty l (i : Int) :: l.drop (i + 1) := by
 have : rdOf ByteArray.empty l (i : Int) = l[i] := by simp [rdOf, h]
 rw [this, List.drop_eq_getElem_cons h]
theorem rdOf_mem (l : List ByteArray) (i : Nat) (h : i < l.length) : rdOf ByteArray.empty l (i : Int) ∈ l := by
 have : rdOf ByteArray.empty l (i : Int) = l[i] := by simp [rdOf, h]
 rw [this]; exact List.getElem_mem h
theorem append_empty (a : ByteArray) : a ++ mk [] = a := by apply ba_ext; simp [mk]
theorem empty_append (a : ByteArray) : mk [] ++ a = a := by apply ba_ext; simp [mk]
end Go.Proofs.Ytecfndblgefhdaa.Oct
namespace Go.Proofs.Ytecfndblgefhdaa.Crc
open Go.Proofs.Ytecfndblgefhdaa.P
def crc (c : Nat) (s : ByteArray) : Nat := 4294967295 - crcL (4294967295 - c) s.data.toList
theorem crc_lt (c : Nat) (s : ByteArray) : crc c s < 4294967296 := by unfold crc; omega
theorem on_eq (c : Nat) (s : ByteArray) (hc : c < 4294967296) (hs : s.size ≤ 9223372036854775807) : sum_On.f (c : Int) s = some (crc c s : Int) := by
 unfold sum_On.f crc
 have := crcL_lt (c := 4294967295 - c) s.data.toList z2_
 rw [if_pos ⟨z2_, z2_, hs⟩, show (c : Int).toNat = c from z2_]
 congr 1
 omega
end Go.Proofs.Ytecfndblgefhdaa.Crc
namespace Go.Proofs.Ytecfndblgefhdaa.Sum
open Go.RowKit Go.Proofs.Ytecfndblgefhdaa.P Go.Proofs.Ytecfndblgefhdaa.Core Go.Proofs.Ytecfndblgefhdaa.Crc Go.Proofs.YtecfndblgefhdaaW.PrintWords Go.Proofs.YtecfndblgefhdaaW.PrintLast Go.Proofs.YtecfndblgefhdaaW.PrintMore
theorem w64_id {n : Int} (h0 : -9223372036854775808 ≤ n) (h1 : n ≤ 9223372036854775807) : wrap64 n = n := by unfold wrap64; omega
theorem of_eq (s : ByteArray) (hs : s.size ≤ 9223372036854775807) : sum_Of.f s = some (crc 0 s : Int) := by
 unfold sum_Of.f
 have := on_eq 0 s z2_ hs
 rw [show ((0 : Nat) : Int) = 0 from rfl] at this
 rw [this]
 rfl
theorem num_digs4 (c : Nat) (h : c < 4294967296) : num (digs c 4) = c := num_digs c 4 z2_
def rightS (s : ByteArray) : Bool := decide (4 ≤ s.size) && (num (s.data.toList.drop (s.size - 4)) == crc 0 (s.extract 0 (s.size - 4)))
theorem or32 (x y i : Nat) (hi : i ≤ 32) (hx : x % 2 ^ i = 0) (hx1 : x < 4294967296) (hy : y < 2 ^ i) : Go.bits .or .u32 (x : Int) (y : Int) = ((x + y : Nat) : Int) := by
 have h32 : (2 : Nat) ^ i ≤ 2 ^ 32 := Nat.pow_le_pow_right z2_ hi
 rw [bits_join .u32 32 z17_ (fun n h0 h1 => by rw [IntKind.wrap_u32]; omega) i (x : Int) (y : Int) z2_ (by exact_mod_cast hx) z2_ z2_ (by exact_mod_cast hy) z2_]
 omega
theorem drop_four : ∀ (l : List UInt8), l.length = 4 → ∃ a b c d, l = [a, b, c, d]
 | [a, b, c, d], _ => ⟨a, b, c, d, rfl⟩
theorem right_eq (s : ByteArray) (hs : s.size ≤ 4611686018427387904) : sum_Right.f s = some (rightS s) := by
 have hl : s.data.toList.length = s.size := by simp
 unfold sum_Right.f rightS
 rw [w64_id (n := (s.size : Int) - 4) z2_ z2_]
 by_cases h : s.size < 4
 ·rw [if_pos z2_, decide_eq_false z2_]; rfl
 rw [if_neg z2_, decide_eq_true z2_]
 have hn : (s.size : Int) - 4 = ((s.size - 4 : Nat) : Int) := by omega
 rw [hn, w64_id (n := ((s.size - 4 : Nat) : Int) + 1) z2_ z2_, w64_id (n := ((s.size - 4 : Nat) : Int) + 2) z2_ z2_, w64_id (n := ((s.size - 4 : Nat) : Int) + 3) z2_ z2_]
 rw [if_pos z2_, if_pos z2_, if_pos z2_, if_pos z2_, if_pos z2_, if_pos z2_, if_pos z2_, if_pos z2_, if_pos z2_, Int.toNat_natCast]
 rw [of_eq _ (by rw [ByteArray.size_extract]; omega)]
 simp only [Option.bind_some, Bool.true_and]
 congr 1
 obtain ⟨a, b, c, d, hd⟩ := drop_four (s.data.toList.drop (s.size - 4)) (by rw [List.length_drop]; omega)
 have g : ∀ (j : Nat) (x : UInt8), [a, b, c, d][j]? = some x → bt s ((s.size - 4 + j : Nat) : Int) = (x.toNat : Int) := by
  intro j x hx
  have hj : j < 4 := by
   have := (List.getElem?_eq_some_iff.1 hx).1
   simpa using this
  rw [bt_data s _ z2_]
  rw [← hd, List.getElem?_drop] at hx
  rw [(List.getElem?_eq_some_iff.1 hx).2]
 have g0 := g 0 a rfl
 have g1 := g 1 b rfl
 have g2 := g 2 c rfl
 have g3 := g 3 d rfl
 rw [Nat.add_zero] at g0
 rw [show ((s.size - 4 + 1 : Nat) : Int) = ((s.size - 4 : Nat) : Int) + 1 from z2_] at g1
 rw [show ((s.size - 4 + 2 : Nat) : Int) = ((s.size - 4 : Nat) : Int) + 2 from z2_] at g2
 rw [show ((s.size - 4 + 3 : Nat) : Int) = ((s.size - 4 : Nat) : Int) + 3 from z2_] at g3
 have ha := a.toNat_lt
 have hb := b.toNat_lt
 have hc := c.toNat_lt
 have hdl := d.toNat_lt
 rw [g0, g1, g2, g3, hd]
 generalize crc 0 (s.extract 0 (s.size - 4)) = z
 have e0 : ((a.toNat : Int) % 4294967296) * 16777216 % 4294967296 = ((16777216 * a.toNat : Nat) : Int) := by omega
 have e1 : ((b.toNat : Int) % 4294967296) * 65536 % 4294967296 = ((65536 * b.toNat : Nat) : Int) := by omega
 have e2 : ((c.toNat : Int) % 4294967296) * 256 % 4294967296 = ((256 * c.toNat : Nat) : Int) := by omega
 have e3 : ((d.toNat : Int) % 4294967296) = (d.toNat : Int) := by omega
 rw [e0, e1, e2, e3]
 rw [or32 _ _ 24 z2_ z2_ z2_ z2_, or32 _ _ 16 z2_ z2_ z2_ z2_, or32 _ _ 8 z2_ z2_ z2_ z2_]
 simp only [num, List.foldl_cons, List.foldl_nil]
 rw [Bool.eq_iff_iff]
 simp only [beq_iff_eq]
 omega
open Go.RowKit Go.Proofs.Ytecfndblgefhdaa.P Go.Proofs.Ytecfndblgefhdaa.Core Go.Proofs.Ytecfndblgefhdaa.Crc Go.Proofs.Ytecfndblgefhdaa.Conv Go.Proofs.YtecfndblgefhdaaW.PrintWords Go.Proofs.YtecfndblgefhdaaW.PrintLast Go.Proofs.YtecfndblgefhdaaW.PrintMore
theorem rightS_mk (l m : List UInt8) (hm : m.length = 4) : rightS (mk (l ++ m)) = (num m == crc 0 (mk l)) := by
 have hx : (mk (l ++ m)).extract 0 l.length = mk l := by
  rw [← mk_append]
  exact ByteArray.extract_append_eq_left (by rw [mk_size])
 unfold rightS
 rw [mk_size, List.length_append, hm, show l.length + 4 - 4 = l.length from z2_, mk_data, List.drop_left, hx, decide_eq_true z2_, Bool.true_and]
end Go.Proofs.Ytecfndblgefhdaa.Sum
namespace Go.Proofs.Ytecfndblgefhdaa.Frame
open Go.RowKit Go.Proofs.Ytecfndblgefhdaa.P Go.Proofs.Ytecfndblgefhdaa.Core Go.Proofs.Ytecfndblgefhdaa.Crc Go.Proofs.Ytecfndblgefhdaa.Conv Go.Proofs.Ytecfndblgefhdaa.Sum Go.Proofs.Ytecfndblgefhdaa.Oct Go.Proofs.YtecfndblgefhdaaW.PrintWords Go.Proofs.YtecfndblgefhdaaW.PrintLast Go.Proofs.YtecfndblgefhdaaW.PrintMore
def headL (k : UInt8) (b : List UInt8) : List UInt8 := k :: (digs b.length 2 ++ b)
def sealL (k : UInt8) (b : List UInt8) : List UInt8 := headL k b ++ digs (crc 0 (mk (headL k b))) 4
def sealS (k : Int) (b : ByteArray) : ByteArray × Int :=
 if k < 0 ∨ 255 < k then (mk [], 1) else if 4096 < b.size then (mk [], 5) else (mk (sealL (UInt8.ofNat k.toNat) b.data.toList), 0)
theorem headL_length (k : UInt8) (b : List UInt8) : (headL k b).length = b.length + 3 := by simp [headL, digs_length]; omega
theorem sealL_length (k : UInt8) (b : List UInt8) : (sealL k b).length = b.length + 7 := by simp [sealL, headL_length, digs_length]
theorem head_mk (k : Int) (b : ByteArray) (h0 : 0 ≤ k) (h1 : k ≤ 255) : strOfNums [k % 256] ++ mk (digs b.size 2) ++ b = mk (headL (UInt8.ofNat k.toNat) b.data.toList) := by
 apply ba_ext
 have e : (k % 256).toNat = k.toNat := by omega
 simp [strOfNums, mk, headL, e]
theorem putS_four (c : Nat) (h : c < 4294967296) : putS (c : Int) 4 = (mk (digs c 4), 0) := by
 have := putS_of (n := c) (w := 4) z2_ z2_ z2_
 exact this
theorem putS_two (c : Nat) (h : c < 65536) : putS (c : Int) 2 = (mk (digs c 2), 0) := by
 have := putS_of (n := c) (w := 2) z2_ z2_ z2_
 exact this
theorem wf_nat {c : Nat} (h : c ≤ 9223372036854775807) : (Lit.int .i64 (c : Int)).wf = true := wf_i64.2 ⟨z2_, z2_⟩
theorem seal_j0 (k : Int) (b : ByteArray) (h0 : 0 ≤ k) (h1 : k ≤ 255) (hb : b.size ≤ 4096) {m : Nat} (hm : 12 ≤ m) : frame_Seal.j0 (m + 1) k b false = some (mk (sealL (UInt8.ofNat k.toNat) b.data.toList), 0) := by
 have hh := head_mk k b h0 h1
 have hz : (mk (headL (UInt8.ofNat k.toNat) b.data.toList)).size = b.size + 3 := by rw [mk_size, headL_length]; simp
 have h2 : (strOfNums [k % 256] ++ mk (digs b.size 2)).size = 3 := by rw [ByteArray.size_append, mk_size, digs_length, strOfNums_size]; rfl
 have h3 : (strOfNums [k % 256]).size = 1 := by rw [strOfNums_size]; rfl
 have h4 : (mk (digs b.size 2)).size = 2 := by rw [mk_size, digs_length]
 have hc := crc_lt 0 (mk (headL (UInt8.ofNat k.toNat) b.data.toList))
 simp only [frame_Seal.j0]
 rw [if_neg (by simp), if_neg z2_, put_eq (wf_nat z2_) z17_ hm, putS_two _ z2_]
 simp only [Option.bind_some]
 rw [h3, h4, h2, hh, hz]
 rw [if_pos z2_, if_pos z2_, of_eq _ z2_]
 simp only [Option.bind_some]
 rw [w64_id z2_ z2_, put_eq (wf_nat z2_) z17_ hm, putS_four _ hc]
 simp only [Option.bind_some]
 rw [mk_size (digs _ 4), digs_length, if_pos z2_, mk_append]
 rfl
theorem seal_eq (k : Int) (b : ByteArray) {m : Nat} (hm : 13 ≤ m) : frame_Seal.f m k b = some (sealS k b) := by
 obtain ⟨m, rfl⟩ : ∃ j, m = j + 1 := ⟨m - 1, z2_⟩
 unfold frame_Seal.f sealS
 by_cases h1 : k < 0
 ·rw [if_pos h1, if_pos (.inl h1)]; simp [frame_Seal.j0, empty_mk]
 rw [if_neg h1]
 by_cases h8 : 255 < k
 ·rw [if_pos (.inr h8), show decide (k > 255) = true from decide_eq_true h8]; simp [frame_Seal.j0, empty_mk]
 rw [if_neg z2_, show decide (k > 255) = false from decide_eq_false h8]
 by_cases hb : 4096 < b.size
 ·rw [if_pos hb]; simp only [frame_Seal.j0]; rw [if_neg (by simp), if_pos z2_]; rfl
 rw [if_neg hb]
 exact seal_j0 k b z2_ z2_ z2_ z2_
def lenF (s : ByteArray) : Nat := num ((s.data.toList.drop 1).take 2)
def openS (s : ByteArray) : Int × ByteArray × Int :=
 if s.size < 7 then (0, mk [], 2) else if 4096 < lenF s then (0, mk [], 3) else if s.size < 7 + lenF s then (0, mk [], 2) else if 7 + lenF s < s.size then (0, mk [], 3) else
  if rightS s = true then (bt s 0, s.extract 3 (3 + lenF s), 0) else (0, mk [], 4)
theorem lenF_lt (s : ByteArray) : lenF s < 65536 := by
 unfold lenF
 have h1 := num_lt ((s.data.toList.drop 1).take 2)
 have h2 : 256 ^ ((s.data.toList.drop 1).take 2).length ≤ 256 ^ 2 := Nat.pow_le_pow_right z2_ z176_
 omega
theorem get_two (s : ByteArray) (h : 7 ≤ s.size) : getS (s.extract 1 3) = ((lenF s : Int), 0) := by
 have hl : s.data.toList.length = s.size := by simp
 have hx : (s.extract 1 3).data.toList = (s.data.toList.drop 1).take 2 := by rw [data_extract_list, List.drop_take]
 have hz : (s.extract 1 3).size = 2 := by rw [ByteArray.size_extract]; omega
 have := lenF_lt s
 unfold getS
 rw [hx, hz, if_neg z2_, if_neg (by unfold lenF at this; omega)]
 rfl
theorem open_eq (s : ByteArray) (hs : s.size ≤ 140737488351232) {m : Nat} (hm : 12 ≤ m) : frame_Open.f m s = some (openS s) := by
 have hlt := lenF_lt s
 unfold frame_Open.f openS
 by_cases h : s.size < 7
 ·rw [if_pos z2_, if_pos h]; rfl
 rw [if_neg z2_, if_neg h, if_pos z2_, if_pos z2_, get_eq _ hm, get_two s z2_]
 simp only [Option.bind_some]
 by_cases h1 : 4096 < lenF s
 ·rw [if_pos z2_, if_pos h1]; rfl
 rw [if_neg z2_, if_neg h1, w64_id (n := 7 + (lenF s : Int)) z2_ z2_]
 by_cases h2 : s.size < 7 + lenF s
 ·rw [if_pos z2_, if_pos h2]; rfl
 rw [if_neg z2_, if_neg h2]
 by_cases h3 : 7 + lenF s < s.size
 ·rw [if_pos z2_, if_pos h3]; rfl
 rw [if_neg z2_, if_neg h3, right_eq s z2_]
 simp only [Option.bind_some]
 by_cases h4 : rightS s = true
 ·have hb := bt_range s 0
  rw [if_pos h4, if_pos h4, if_pos z2_, w64_id (n := 3 + (lenF s : Int)) z2_ z2_, if_pos z2_, if_pos z2_, w64_id (n := bt s 0) z2_ z2_]
  rw [show (3 + (lenF s : Int)).toNat = 3 + lenF s from z2_]
 ·rw [if_neg h4, if_neg h4]; rfl
theorem lenF_mk (k : UInt8) (b t : List UInt8) (h : b.length ≤ 4096) : lenF (mk (headL k b ++ t)) = b.length := by
 unfold lenF
 rw [mk_data, headL, List.cons_append, List.drop_one, List.tail_cons, List.append_assoc, List.take_append_of_le_length z173_, List.take_of_length_le z173_, num_digs _ _ z2_]
theorem open_head (k : UInt8) (b t : List UInt8) (h : b.length ≤ 4096) (ht : t.length = 4) : openS (mk (headL k b ++ t)) = if num t = crc 0 (mk (headL k b)) then ((k.toNat : Int), mk b, 0) else (0, mk [], 4) := by
 have hz : (mk (headL k b ++ t)).size = b.length + 7 := by rw [mk_size, List.length_append, headL_length, ht]
 unfold openS
 rw [lenF_mk k b t h, hz, if_neg z2_, if_neg z2_, if_neg z2_, if_neg z2_, rightS_mk _ _ ht]
 by_cases he : num t = crc 0 (mk (headL k b))
 ·rw [if_pos (by simpa using he), if_pos he]
  have h0 : bt (mk (headL k b ++ t)) 0 = (k.toNat : Int) := by
   have := bt_data (mk (headL k b ++ t)) 0 z2_
   rw [show ((0 : Nat) : Int) = 0 from rfl] at this
   rw [this]
   rfl
  have hx : (mk (headL k b ++ t)).extract 3 (3 + b.length) = mk b := by
   apply ba_ext
   rw [data_extract_list, mk_data, mk_data, List.take_append_of_le_length (by rw [headL_length]; omega), List.take_of_length_le (by rw [headL_length]; omega)]
   rw [headL, show 3 = 2 + 1 from rfl, List.drop_succ_cons, List.drop_left' (digs_length _ _)]
  rw [h0, hx]
 ·rw [if_neg (by simpa using he), if_neg he]
theorem open_seal (k : UInt8) (b : List UInt8) (h : b.length ≤ 4096) : openS (mk (sealL k b)) = ((k.toNat : Int), mk b, 0) := by
 unfold sealL
 rw [open_head k b _ h (digs_length _ _), num_digs4 _ (crc_lt _ _), if_pos rfl]
end Go.Proofs.Ytecfndblgefhdaa.Frame
namespace Go.Proofs.Ytecfndblgefhdaa.Link
open Go.RowKit Go.Proofs.Ytecfndblgefhdaa.P Go.Proofs.Ytecfndblgefhdaa.Core Go.Proofs.Ytecfndblgefhdaa.Oct Go.Proofs.Ytecfndblgefhdaa.Frame Go.Proofs.YtecfndblgefhdaaW.PrintWords Go.Proofs.YtecfndblgefhdaaW.PrintLast Go.Proofs.YtecfndblgefhdaaW.PrintMore
theorem number_dec (a b : Int) : link_number.f a b = some (decide (b ≤ a ∧ a ≤ 1099511627776)) := by
 unfold link_number.f
 by_cases h : a ≥ b
 ·rw [if_pos h]; exact congrArg some (decide_eq_decide.2 z2_)
 ·rw [if_neg h]; exact congrArg some (decide_eq_false z2_).symm
theorem idx_neg (l : List ByteArray) : ∀ i : Int, 0 ≤ i → ∃ t, slices_IndexFunc_string_string.idx (fun s => link_Right_1.f s) l i = some t ∧ (0 ≤ t ↔ ¬ ∀ s ∈ l, s.size ≤ 512) := by
 induction l with
 | nil => intro i hi; exact ⟨-1, rfl, by simp⟩
 | cons a r ih =>
  intro i hi
  have e : link_Right_1.f a = some (decide ((a.size : Int) > 512)) := rfl
  simp only [slices_IndexFunc_string_string.idx, e, Option.bind_some]
  by_cases h : 512 < a.size
  ·rw [if_pos (decide_eq_true z2_)]
   exact ⟨i, rfl, fun _ h2 => absurd (h2 a List.mem_cons_self) z2_, fun _ => hi⟩
  ·rw [if_neg z174_]
   obtain ⟨t, h1, h2⟩ := ih (i + 1) z2_
   refine ⟨t, h1, h2.trans (not_congr ⟨fun h3 s hs => ?_, fun h3 s hs => h3 s (List.mem_cons_of_mem _ hs)⟩)⟩
   rcases List.mem_cons.1 hs with rfl | hs
   ·omega
   ·exact h3 s hs
theorem contains_eq (l : List ByteArray) : slices_ContainsFunc_string_string.f l 97 = some (decide (¬ ∀ s ∈ l, s.size ≤ 512)) := by
 unfold slices_ContainsFunc_string_string.f slices_IndexFunc_string_string.f
 rw [if_pos rfl]
 obtain ⟨t, h1, h2⟩ := idx_neg l 0 z2_
 rw [h1]
 exact congrArg some (decide_eq_decide.2 h2)
def rightS (a o f : Int) (l : List ByteArray) (w : Int) : Bool := decide ((1 ≤ a ∧ a ≤ 1099511627776) ∧ (0 ≤ o ∧ o ≤ 1099511627776) ∧ (1 ≤ f ∧ f ≤ 1099511627776) ∧ (1 ≤ w ∧ w ≤ 1099511627776) ∧ l.length ≤ 64 ∧ ∀ s ∈ l, s.size ≤ 512)
theorem right_eq (a o f : Int) (l : List ByteArray) (w : Int) : link_Right.f a o f l w = some (rightS a o f l w) := by
 unfold link_Right.f rightS
 simp only [number_dec, Option.bind_some]
 by_cases h1 : 1 ≤ a ∧ a ≤ 1099511627776
 ·rw [decide_eq_true h1, if_pos rfl]
  by_cases h2 : 0 ≤ o ∧ o ≤ 1099511627776
  ·rw [decide_eq_true h2, if_pos rfl]
   by_cases h3 : 1 ≤ f ∧ f ≤ 1099511627776
   ·rw [decide_eq_true h3, if_pos rfl]
    by_cases h4 : 1 ≤ w ∧ w ≤ 1099511627776
    ·rw [decide_eq_true h4, if_pos rfl]
     by_cases h5 : l.length ≤ 64
     ·rw [if_pos z2_, contains_eq]
      simp only [Option.bind_some]
      by_cases h6 : ∀ s ∈ l, s.size ≤ 512
      ·rw [decide_eq_false (not_not_intro h6), decide_eq_true ⟨h1, h2, h3, h4, h5, h6⟩]; rfl
      ·rw [decide_eq_true h6]; exact congrArg some (decide_eq_false (fun h => h6 h.2.2.2.2.2)).symm
     ·rw [if_neg z2_]; exact congrArg some (decide_eq_false (fun h => h5 h.2.2.2.2.1)).symm
    ·rw [decide_eq_false h4, if_neg z17_]; exact congrArg some (decide_eq_false (fun h => h4 h.2.2.2.1)).symm
   ·rw [decide_eq_false h3, if_neg z17_]; exact congrArg some (decide_eq_false (fun h => h3 h.2.2.1)).symm
  ·rw [decide_eq_false h2, if_neg z17_]; exact congrArg some (decide_eq_false (fun h => h2 h.2.1)).symm
 ·rw [decide_eq_false h1, if_neg z17_]; exact congrArg some (decide_eq_false (fun h => h1 h.1)).symm
theorem put_eight (x : Nat) (h : x < 9223372036854775808) {k : Nat} (hk : 12 ≤ k) : octet_Put.f k (x : Int) 8 = some (mk (digs x 8), 0) := by
 rw [put_eq (by rw [wf_i64]; omega) z17_ hk]
 have := putS_of (n := x) (w := 8) z2_ z2_ z2_
 rw [show ((8 : Nat) : Int) = 8 from rfl] at this
 rw [this]
def bodyS (a o n w : Nat) (s : ByteArray) : ByteArray := mk (digs a 8) ++ mk (digs o 8) ++ mk (digs n 8) ++ mk (digs w 8) ++ s
theorem eight_size (x : Nat) : (mk (digs x 8)).size = 8 := by rw [mk_size, digs_length]
theorem bodyS_size (a o n w : Nat) (s : ByteArray) : (bodyS a o n w s).size = 32 + s.size := by
 unfold bodyS; simp only [ByteArray.size_append, eight_size]
def packetS (kind : Int) (a o n w : Nat) (s : ByteArray) : ByteArray := (sealS kind (bodyS a o n w s)).1
theorem p_step (kind : Int) (s acc t : ByteArray) (L : List Int) (c i e : Int) (k : Nat) (h1 : i < c) (h2 : 0 ≤ i) (h3 : i < (L.length : Int)) (hp : octet_Put.f k (rd L i) 8 = some (t, e)) (h4 : (bytesOf acc).length + t.size < 140737488355328) :
  link_End_packet.l0 (k + 1) kind s (bytesOf acc) L c i = link_End_packet.l0 k kind s (bytesOf (acc ++ t)) L c (wrap64 (i + 1)) := by
 rw [link_End_packet.l0, if_pos h1, if_pos h2, if_pos h3, hp]
 simp only [Option.bind_some]
 rw [if_pos h4, ← bytesOf_append]
theorem p_end (kind : Int) (s acc : ByteArray) (L : List Int) (c i : Int) (k : Nat) (h1 : ¬ i < c) (h2 : acc.size + s.size ≤ 9223372036854775807) (hk : 13 ≤ k) : link_End_packet.l0 (k + 1) kind s (bytesOf acc) L c i = some (sealS kind (acc ++ s)).1 := by
 rw [link_End_packet.l0, if_neg h1, strOfNums_bytesOf, if_pos h2, seal_eq _ _ hk]
 rfl
theorem packet_eq (kind f : Int) (l : List ByteArray) (a o n w : Nat) (s : ByteArray) (ha : a < 9223372036854775808) (ho : o < 9223372036854775808) (hn : n < 9223372036854775808) (hw : w < 9223372036854775808) (hs : s.size ≤ 140737488351232) {k : Nat} (hk : 20 ≤ k) :
  link_End_packet.f k a o f l w kind n s = some (packetS kind a o n w s) := by
 obtain ⟨k, rfl⟩ : ∃ m, k = m + 5 := ⟨k - 5, z2_⟩
 unfold link_End_packet.f
 simp only [Option.bind_some]
 generalize hL : ([(a : Int), (o : Int), (n : Int), (w : Int)] : List Int) = L
 have hlen : L.length = 4 := by rw [← hL]; rfl
 have r0 : rd L 0 = (a : Int) := by rw [← hL]; rfl
 have r1 : rd L 1 = (o : Int) := by rw [← hL]; rfl
 have r2 : rd L 2 = (n : Int) := by rw [← hL]; rfl
 have r3 : rd L 3 = (w : Int) := by rw [← hL]; rfl
 have e0 : ([] : List Int) = bytesOf (mk []) := by simp [bytesOf, mk]
 rw [hlen, e0, show ((4 : Nat) : Int) = 4 from rfl]
 have hz : ∀ b : ByteArray, (bytesOf b).length = b.size := bytesOf_length
 rw [p_step kind s (mk []) (mk (digs a 8)) L 4 0 0 (k + 4) z17_ z17_ z178_ (by rw [r0]; exact put_eight a ha z2_) (by rw [hz, eight_size, mk_size]; decide), show wrap64 (0 + 1) = 1 from wrap64_id z17_ z17_, empty_append]
 rw [p_step kind s _ (mk (digs o 8)) L 4 1 0 (k + 3) z17_ z17_ z178_ (by rw [r1]; exact put_eight o ho z2_) (by rw [hz, eight_size, eight_size]; decide), show wrap64 (1 + 1) = 2 from wrap64_id z17_ z17_]
 rw [p_step kind s _ (mk (digs n 8)) L 4 2 0 (k + 2) z17_ z17_ z178_ (by rw [r2]; exact put_eight n hn z2_) (by rw [hz, ByteArray.size_append, eight_size, eight_size, eight_size]; decide), show wrap64 (2 + 1) = 3 from wrap64_id z17_ z17_]
 rw [p_step kind s _ (mk (digs w 8)) L 4 3 0 (k + 1) z17_ z17_ z178_ (by rw [r3]; exact put_eight w hw z2_) (by rw [hz, ByteArray.size_append, ByteArray.size_append, eight_size, eight_size, eight_size, eight_size]; decide), show wrap64 (3 + 1) = 4 from wrap64_id z17_ z17_]
 exact p_end kind s _ L 4 4 k z17_ (by simp only [ByteArray.size_append, eight_size]; omega) z2_
theorem clone_eq (l : List ByteArray) (hl : l.length ≤ 8796093022208) : slices_Clone_string_string.f l = some l := by
 unfold slices_Clone_string_string.f; rw [if_pos hl]
def putL (a o f : Nat) (l : List ByteArray) (w : Nat) (s : ByteArray) : Int × Int × Int × List ByteArray × Int × ByteArray × Int :=
 if 512 < s.size then (0, 0, 0, [], 0, mk [], 5) else
  if l.length = 64 ∨ 1099511627776 < f + l.length then (0, 0, 0, [], 0, mk [], 6) else
   (a, o, f, l ++ [s], w, if 4 < l.length + 1 then mk [] else packetS 1 a o (f + l.length) w s, 0)
theorem put_good (a o f : Nat) (l : List ByteArray) (w : Nat) (s : ByteArray) {k : Nat} (hk : 20 ≤ k) (h : rightS a o f l w = true) : link_Put.f k a o f l w s = some (putL a o f l w s) := by
 have hd := of_decide_eq_true h
 obtain ⟨⟨h1, h2⟩, ⟨h3, h4⟩, ⟨h5, h6⟩, ⟨h7, h8⟩, h9, h10⟩ := hd
 have e1 : wrap64 ((f : Int) + (l.length : Int)) = ((f + l.length : Nat) : Int) := by rw [wrap64_id z2_ z2_]; omega
 unfold link_Put.f putL
 rw [right_eq, h]
 simp only [Option.bind_some]
 rw [if_pos trivial]
 by_cases c1 : 512 < s.size
 ·rw [if_pos z2_, if_pos c1]; rfl
 ·rw [if_neg z2_, if_neg c1]
  by_cases c2 : l.length = 64
  ·rw [if_pos z2_, if_pos (Or.inl c2)]; rfl
  ·rw [if_neg z2_, e1]
   by_cases c3 : 1099511627776 < f + l.length
   ·rw [if_pos z2_, if_pos (Or.inr c3)]; rfl
   ·rw [if_neg z2_, if_neg (show ¬ (l.length = 64 ∨ 1099511627776 < f + l.length) from z2_), clone_eq l z2_]
    simp only [Option.bind_some]
    rw [if_pos z2_]
    have hl1 : (l ++ [s]).length = l.length + 1 := by simp
    by_cases c4 : 4 < l.length + 1
    ·rw [if_pos (by rw [hl1]; omega), if_pos c4]; rfl
    ·rw [if_neg (by rw [hl1]; omega), if_neg c4, hl1]
     have e2 : wrap64 (wrap64 ((f : Int) + ((l.length + 1 : Nat) : Int)) - 1) = ((f + l.length : Nat) : Int) := by
      rw [show wrap64 ((f : Int) + ((l.length + 1 : Nat) : Int)) = ((f + l.length + 1 : Nat) : Int) by rw [wrap64_id z2_ z2_]; omega, wrap64_id z2_ z2_]; omega
     rw [e2, packet_eq 1 f _ a o (f + l.length) w s z2_ z2_ z2_ z2_ z2_ hk]
     rfl
def tickS (a o f : Nat) (l : List ByteArray) (w : Nat) (n : Nat) : List ByteArray := (List.range n).map fun i => packetS 1 a o (f + i) w (rdOf ByteArray.empty l (i : Int))
theorem tickS_length (a o f : Nat) (l : List ByteArray) (w n : Nat) : (tickS a o f l w n).length = n := by simp [tickS]
theorem tickS_succ (a o f : Nat) (l : List ByteArray) (w n : Nat) : tickS a o f l w (n + 1) = tickS a o f l w n ++ [packetS 1 a o (f + n) w (rdOf ByteArray.empty l (n : Int))] := by simp [tickS, List.range_succ]
theorem t_step (acc : List ByteArray) (c i a o f w : Int) (l : List ByteArray) (k : Nat) (t : ByteArray) (h1 : i < c) (h2 : 0 ≤ i) (h3 : i < (l.length : Int)) (hp : link_End_packet.f k a o f l w 1 (wrap64 (f + i)) (rdOf ByteArray.empty l i) = some t) (h4 : acc.length < 8796093022208) :
  link_Tick.l0 (k + 1) acc c i a o f l w = link_Tick.l0 k (acc ++ [t]) c (wrap64 (i + 1)) a o f l w := by
 rw [link_Tick.l0, if_pos h1, if_pos h2, if_pos h3, hp]
 simp only [Option.bind_some]
 rw [if_pos h4]
theorem tick_l0 (a o f : Nat) (l : List ByteArray) (w : Nat) (h : rightS a o f l w = true) (c : Nat) (hc : c ≤ 4) (hcl : c ≤ l.length) (d : Nat) : ∀ (i k : Nat), i + d = c → 30 + d < k →
  link_Tick.l0 k (tickS a o f l w i) (c : Int) (i : Int) a o f l w = some (tickS a o f l w c) := by
 have hd := of_decide_eq_true h
 obtain ⟨⟨h1, h2⟩, ⟨h3, h4⟩, ⟨h5, h6⟩, ⟨h7, h8⟩, h9, h10⟩ := hd
 induction d with
 | zero =>
  intro i k hi hk
  obtain ⟨k, rfl⟩ : ∃ m, k = m + 1 := ⟨k - 1, z2_⟩
  rw [link_Tick.l0, if_neg z2_, show i = c from z2_]
 | succ d ih =>
  intro i k hi hk
  obtain ⟨k, rfl⟩ : ∃ m, k = m + 1 := ⟨k - 1, z2_⟩
  have hm := h10 _ (rdOf_mem l i z2_)
  have q1 : (i : Int) < (c : Int) := by omega
  have q2 : (0 : Int) ≤ (i : Int) := by omega
  have q3 : (i : Int) < (l.length : Int) := by omega
  have q4 : (tickS a o f l w i).length < 8796093022208 := by rw [tickS_length]; omega
  have hp0 := packet_eq 1 f l a o (f + i) w (rdOf ByteArray.empty l (i : Int)) z2_ z2_ z2_ z2_ z2_ (k := k) z2_
  have ii : i + 1 + d = c := by omega
  have ik : 30 + d < k := by omega
  have e4 : wrap64 ((i : Int) + 1) = ((i + 1 : Nat) : Int) := by rw [wrap64_id z2_ z2_]; omega
  have e5 : wrap64 ((f : Int) + (i : Int)) = ((f + i : Nat) : Int) := by clear e4; rw [wrap64_id z2_ z2_]; omega
  have hp : link_End_packet.f k a o f l w 1 (wrap64 ((f : Int) + (i : Int))) (rdOf ByteArray.empty l (i : Int)) = some (packetS 1 a o (f + i) w (rdOf ByteArray.empty l (i : Int))) := by
   rw [e5]; exact hp0
  have hst := t_step (tickS a o f l w i) (c : Int) (i : Int) a o f w l k _ q1 q2 q3 hp q4
  rw [hst, e4, ← tickS_succ]
  exact ih (i + 1) k ii ik
theorem tick_good (a o f : Nat) (l : List ByteArray) (w : Nat) {k : Nat} (hk : 40 ≤ k) (h : rightS a o f l w = true) : link_Tick.f k a o f l w = some (tickS a o f l w (min l.length 4)) := by
 unfold link_Tick.f
 rw [right_eq, h]
 simp only [Option.bind_some]
 rw [if_pos trivial]
 have e : mn (l.length : Int) 4 = ((min l.length 4 : Nat) : Int) := by unfold mn; split <;> omega
 rw [e]
 have := tick_l0 a o f l w h (min l.length 4) z2_ z2_ (min l.length 4) 0 k z2_ z2_
 simpa [tickS] using this
theorem packetS_size (a o n w : Nat) (s : ByteArray) (hs : s.size ≤ 600) : (packetS 1 a o n w s).size = 39 + s.size := by
 unfold packetS sealS
 rw [if_neg z2_, if_neg (by rw [bodyS_size]; omega)]
 show (mk (sealL _ _)).size = _
 rw [mk_size, sealL_length]
 have := bodyS_size a o n w s
 have h2 : (bodyS a o n w s).data.toList.length = (bodyS a o n w s).size := by simp
 omega
end Go.Proofs.Ytecfndblgefhdaa.Link
