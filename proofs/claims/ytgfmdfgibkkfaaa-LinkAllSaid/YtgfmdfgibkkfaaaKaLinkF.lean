import Derived.Test.YtgfmdfgibkkfaaaKaPx0
import Derived.Test.YtgfmdfgibkkfaaaKaLinkE
import Derived.Test.YtgfmdfgibkkfaaaKaEndsO
set_option linter.unusedVariables false
set_option linter.unusedSimpArgs false
namespace Go.Proofs.Ytgfmdfgibkkfaaa.Link
open Go.RowKit Go.Proofs.Ytgfmdfgibkkfaaa.P Go.Proofs.Ytgfmdfgibkkfaaa.Core Go.Proofs.Ytgfmdfgibkkfaaa.Oct Go.Proofs.Ytgfmdfgibkkfaaa.Frame Go.Proofs.YtgfmdfgibkkfaaaW.PrintWords Go.Proofs.YtgfmdfgibkkfaaaW.PrintLast Go.Proofs.YtgfmdfgibkkfaaaW.PrintMore
structure En where
  o : Nat
  f : Nat
  l : List ByteArray
  w : Nat
def En.s24 (e : En) (a : Nat) : S24 := ⟨(a : Int), (e.o : Int), (e.f : Int), e.l, (e.w : Int)⟩
structure Dir (es : Nat) (s r : En) (ps cs : List ByteArray) : Prop where
  o : r.o = 0 ∨ r.o = es
  ow : r.o = 0 → r.w = 1
  f1 : 1 ≤ s.f
  fw : s.f ≤ r.w
  wl : r.w ≤ ps.length + 1
  out : s.l = ps.drop (s.f - 1)
  came : cs = ps.take (r.w - 1)
  few : s.l.length ≤ 64
  short : ∀ t ∈ ps, t.size ≤ 512
def GoodQ (es er ws : Nat) (ps : List ByteArray) (q : ByteArray) : Prop := ∃ (kind : Int) (o n w : Nat) (t : ByteArray), q = packetS kind es o n w t ∧ (kind = 1 ∨ kind = 2) ∧ (o = 0 ∨ o = er) ∧ 1 ≤ w ∧ w ≤ ws ∧ t.size ≤ 512 ∧ ((kind = 1 ∧ 1 ≤ n ∧ n ≤ ps.length ∧ ps[n - 1]? = some t) ∨ (kind = 2 ∧ n = 0 ∧ t = mk []))
def GoodP (es er ws : Nat) (ps : List ByteArray) (p : S65) : Prop := ∃ q, GoodQ es er ws ps q ∧ (p.f1 = q ∨ (p.f2 = true ∧ ∃ m, m < q.size ∧ p.f1 = turnS q m))
theorem GoodQ.mono {es er ws ws' : Nat} {ps x : List ByteArray} {q : ByteArray} (h : GoodQ es er ws ps q) (hw : ws ≤ ws') : GoodQ es er ws' (ps ++ x) q := by
  obtain ⟨kind, o, n, w, t, h1, h2, h3, h4, h5, h6, h7⟩ := h
  refine ⟨kind, o, n, w, t, h1, h2, h3, h4, by omega, h6, ?_⟩
  rcases h7 with ⟨a1, a2, a3, a4⟩ | h7
  · refine .inl ⟨a1, a2, by rw [List.length_append]; omega, ?_⟩
    rw [List.getElem?_append_left (by omega)]
    exact a4
  · exact .inr h7
theorem GoodQ.le {es er ws ws' : Nat} {ps : List ByteArray} {q : ByteArray} (h : GoodQ es er ws ps q) (hw : ws ≤ ws') : GoodQ es er ws' ps q := by
  have := h.mono (x := []) hw
  rwa [List.append_nil] at this
theorem GoodP.mono {es er ws ws' : Nat} {ps x : List ByteArray} {p : S65} (h : GoodP es er ws ps p) (hw : ws ≤ ws') : GoodP es er ws' (ps ++ x) p := by
  obtain ⟨q, h1, h2⟩ := h
  exact ⟨q, h1.mono hw, h2⟩
theorem GoodP.le {es er ws ws' : Nat} {ps : List ByteArray} {p : S65} (h : GoodP es er ws ps p) (hw : ws ≤ ws') : GoodP es er ws' ps p := by
  obtain ⟨q, h1, h2⟩ := h
  exact ⟨q, h1.le hw, h2⟩
theorem GoodQ.size {es er ws : Nat} {ps : List ByteArray} {q : ByteArray} (h : GoodQ es er ws ps q) : 0 < q.size ∧ q.size ≤ 1000 := by
  obtain ⟨kind, o, n, w, t, rfl, h2, h3, h4, h5, h6, h7⟩ := h
  rw [packetS_size2 kind h2 es o n w t h6]
  omega
theorem GoodP.size {es er ws : Nat} {ps : List ByteArray} {p : S65} (h : GoodP es er ws ps p) : 0 < p.f1.size ∧ p.f1.size ≤ 1000 := by
  obtain ⟨q, h1, h2⟩ := h
  have := h1.size
  rcases h2 with h2 | ⟨_, m, _, h2⟩
  · rw [h2]; exact this
  · rw [h2, turnS_size]; exact this
theorem GoodP.hears {es er ws : Nat} {ps : List ByteArray} {p : S65} (h : GoodP es er ws ps p) (he : 1 ≤ es) (he2 : es ≤ 1000) (hr : er ≤ 1000) (hw : ws ≤ 1000) (hp : ps.length ≤ 1000) :
    hearS p.f1 = none ∨ ∃ (kind : Int) (o n w : Nat) (t : ByteArray), hearS p.f1 = some ⟨kind, es, o, n, w, t⟩ ∧ (o = 0 ∨ o = er) ∧ 1 ≤ w ∧ w ≤ ws ∧ ((kind = 1 ∧ 1 ≤ n ∧ n ≤ ps.length ∧ ps[n - 1]? = some t) ∨ (kind = 2 ∧ n = 0 ∧ t = mk [])) := by
  obtain ⟨q, ⟨kind, o, n, w, t, h1, h2, h3, h4, h5, h6, h7⟩, h8⟩ := h
  rcases h8 with h8 | ⟨_, m, hm, h8⟩
  · refine .inr ⟨kind, o, n, w, t, ?_, h3, h4, h5, h7⟩
    rw [h8, h1]
    refine hear_packet kind h2 es o n w t h6 he (by omega) (by omega) (by omega) (by omega) (fun e => ?_)
    rcases h7 with h7 | h7
    · exact absurd (h7.1.symm.trans e) (by decide)
    · exact h7.2
  · refine .inl ?_
    rw [h8, h1]
    rw [h1] at hm
    exact hear_turned kind h2 es o n w t h6 m hm
theorem Dir.right {es er : Nat} {s r : En} {ps qs cs ds : List ByteArray} (h : Dir es s r ps cs) (h2 : Dir er r s qs ds) (hs : 1 ≤ es) (hs2 : es ≤ 1000) (hr : er ≤ 1000) (hp : ps.length ≤ 1000) (hq : qs.length ≤ 1000) : rightS (es : Int) (s.o : Int) (s.f : Int) s.l (s.w : Int) = true := by
  unfold rightS
  have a1 := h.f1
  have a2 := h.fw
  have a3 := h.wl
  have a4 := h2.wl
  have a5 := h2.o
  have a6 := h2.f1
  have a7 := h2.fw
  refine decide_eq_true ⟨by omega, by omega, by omega, by omega, h.few, fun t ht => h.short t ?_⟩
  rw [h.out] at ht
  exact List.mem_of_mem_drop ht
def En.after (r : En) (er : Nat) (p : ByteArray) : En := ⟨(takeS er r.o r.f r.l r.w p).o, (takeS er r.o r.f r.l r.w p).f, (takeS er r.o r.f r.l r.w p).l, (takeS er r.o r.f r.l r.w p).w⟩
theorem dir_gone {er : Nat} {r s : En} {qs ds : List ByteArray} (h : Dir er r s qs ds) (n : Nat) (hn : n ≤ s.w) (o w : Nat) : Dir er ⟨o, (goneS r.f r.l n).1, (goneS r.f r.l n).2, w⟩ s qs ds := by
  have a1 := h.f1
  have a2 := h.fw
  have a3 := h.wl
  unfold goneS
  by_cases c : r.f ≤ n ∧ n ≤ r.f + r.l.length
  · rw [if_pos c]
    refine ⟨h.o, h.ow, by show 1 ≤ n; omega, hn, h.wl, ?_, h.came, ?_, h.short⟩
    · show r.l.drop (n - r.f) = qs.drop (n - 1)
      rw [h.out, List.drop_drop]
      congr 1
      omega
    · show (r.l.drop (n - r.f)).length ≤ 64
      have := h.few
      rw [List.length_drop]
      omega
  · rw [if_neg c]
    exact ⟨h.o, h.ow, h.f1, h.fw, h.wl, h.out, h.came, h.few, h.short⟩
theorem take_heard {es er : Nat} {s r : En} {ps cs : List ByteArray} (h : Dir es s r ps cs) {p : ByteArray} {k : Pk} (hk : hearS p = some k) (he : k.n0 = es) (h1 : 1 ≤ es) : takeS er r.o r.f r.l r.w p = heardS er es r.f r.l r.w false k := by
  unfold takeS
  rw [hk]
  dsimp only
  rcases h.o with c | c
  · rw [if_neg (by omega), if_pos (by omega), if_pos c, he, h.ow c]
  · rw [if_neg (by omega), if_neg (by omega), c]
theorem pack_good {es er ws : Nat} {ps : List ByteArray} {o w : Nat} (ho : o = 0 ∨ o = er) (hw : 1 ≤ w) (hw2 : w ≤ ws) : GoodQ es er ws ps (packetS 2 es o 0 w (mk [])) :=
  ⟨2, o, 0, w, mk [], rfl, .inr rfl, ho, hw, hw2, by rw [mk_size]; simp, .inr ⟨rfl, rfl, rfl⟩⟩
theorem dir_take {es er : Nat} {s r : En} {ps qs cs ds : List ByteArray} {p : S65} (h : Dir es s r ps cs) (h2 : Dir er r s qs ds) (hg : GoodP es er s.w ps p) (hs : 1 ≤ es) (hs2 : es ≤ 1000) (hr : er ≤ 1000) (hp : ps.length ≤ 900) (hq : qs.length ≤ 900) :
    Dir es s (r.after er p.f1) ps (if (takeS er r.o r.f r.l r.w p.f1).has = true then cs ++ [(takeS er r.o r.f r.l r.w p.f1).s] else cs) ∧ Dir er (r.after er p.f1) s qs ds ∧ r.w ≤ (r.after er p.f1).w ∧
      ((takeS er r.o r.f r.l r.w p.f1).reply = mk [] ∨ GoodQ er es (r.after er p.f1).w qs (takeS er r.o r.f r.l r.w p.f1).reply) := by
  have a1 := h.f1
  have a2 := h.fw
  have a3 := h.wl
  have b1 := h2.f1
  have b2 := h2.fw
  have b3 := h2.wl
  rcases hg.hears hs hs2 hr (by omega) (by omega) with hn | ⟨kind, o, n, w, t, hk, h3, h4, h5, h7⟩
  · have e : takeS er r.o r.f r.l r.w p.f1 = ⟨r.o, r.f, r.l, r.w, mk [], false, mk [], false⟩ := by unfold takeS; rw [hn]
    unfold En.after
    rw [e]
    exact ⟨h, h2, Nat.le_refl _, .inl rfl⟩
  · have e := take_heard (er := er) h hk rfl hs
    unfold En.after
    rw [e]
    unfold heardS
    dsimp only
    by_cases c1 : o ≠ er
    · rw [if_pos c1]
      exact ⟨⟨.inr rfl, fun c => absurd c (by show ¬ es = 0; omega), a1, a2, a3, h.out, h.came, h.few, h.short⟩, ⟨h2.o, h2.ow, h2.f1, h2.fw, h2.wl, h2.out, h2.came, h2.few, h2.short⟩, Nat.le_refl _, .inr (pack_good (.inr rfl) (by omega) (Nat.le_refl _))⟩
    · rw [if_neg c1]
      rcases h7 with ⟨rfl, n1, n2, n3⟩ | ⟨rfl, _, _⟩
      · rw [if_pos rfl]
        by_cases c2 : n = r.w ∧ r.w < 1099511627776
        · rw [if_pos c2]
          obtain ⟨rfl, _⟩ := c2
          refine ⟨⟨.inr rfl, fun c => absurd c (by show ¬ es = 0; omega), a1, by show s.f ≤ r.w + 1; omega, by show r.w + 1 ≤ ps.length + 1; omega, h.out, ?_, h.few, h.short⟩, dir_gone h2 w h5 es (r.w + 1), by show r.w ≤ r.w + 1; omega, .inr (pack_good (.inr rfl) (by omega) (Nat.le_refl _))⟩
          show cs ++ [t] = ps.take (r.w + 1 - 1)
          rw [h.came]
          have hlt : r.w - 1 < ps.length := by omega
          rw [List.getElem?_eq_getElem hlt] at n3
          have := List.take_append_getElem hlt
          rw [Option.some.inj n3] at this
          rw [this]
          congr 1
          omega
        · rw [if_neg c2]
          exact ⟨⟨.inr rfl, fun c => absurd c (by show ¬ es = 0; omega), a1, a2, a3, h.out, h.came, h.few, h.short⟩, dir_gone h2 w h5 es r.w, Nat.le_refl _, .inr (pack_good (.inr rfl) (by omega) (Nat.le_refl _))⟩
      · rw [if_neg (by decide)]
        exact ⟨⟨.inr rfl, fun c => absurd c (by show ¬ es = 0; omega), a1, a2, a3, h.out, h.came, h.few, h.short⟩, dir_gone h2 w h5 es r.w, Nat.le_refl _, .inl rfl⟩
theorem dir_put {es : Nat} {s r : En} {ps cs : List ByteArray} (h : Dir es s r ps cs) (x : ByteArray) (hx : x.size ≤ 512) (hl : s.l.length ≠ 64) : Dir es ⟨s.o, s.f, s.l ++ [x], s.w⟩ r (ps ++ [x]) cs := by
  have a1 := h.f1
  have a2 := h.fw
  have a3 := h.wl
  have a4 := h.few
  refine ⟨h.o, h.ow, h.f1, h.fw, by rw [List.length_append]; omega, ?_, ?_, ?_, fun t ht => ?_⟩
  · show s.l ++ [x] = (ps ++ [x]).drop (s.f - 1)
    rw [h.out, List.drop_append_of_le_length (by omega)]
  · rw [h.came, List.take_append_of_le_length (by omega)]
  · show (s.l ++ [x]).length ≤ 64
    rw [List.length_append]
    simp only [List.length_singleton]
    omega
  · rcases List.mem_append.1 ht with ht | ht
    · exact h.short t ht
    · rw [List.mem_singleton.1 ht]; exact hx
theorem good_piece {es er : Nat} {s r : En} {ps cs : List ByteArray} (h : Dir es s r ps cs) (i : Nat) (hi : i < s.l.length) (o ws : Nat) (ho : o = 0 ∨ o = er) (hw : 1 ≤ ws) : GoodQ es er ws ps (packetS 1 es o (s.f + i) ws (rdOf ByteArray.empty s.l (i : Int))) := by
  have a1 := h.f1
  have hl : s.l.length = ps.length - (s.f - 1) := by rw [h.out, List.length_drop]
  have hr : rdOf ByteArray.empty s.l (i : Int) = s.l[i] := by simp [rdOf, hi]
  have hsub : ∀ t ∈ s.l, t ∈ ps := fun t ht => by rw [h.out] at ht; exact List.mem_of_mem_drop ht
  have hm : s.l[i] ∈ ps := hsub _ (List.getElem_mem hi)
  refine ⟨1, o, s.f + i, ws, _, rfl, .inl rfl, ho, hw, Nat.le_refl _, by rw [hr]; exact h.short _ hm, .inl ⟨rfl, by omega, by omega, ?_⟩⟩
  rw [hr]
  have e : s.l[i]? = some s.l[i] := List.getElem?_eq_getElem hi
  rw [← e, h.out, List.getElem?_drop]
  congr 1
  omega
end Go.Proofs.Ytgfmdfgibkkfaaa.Link
