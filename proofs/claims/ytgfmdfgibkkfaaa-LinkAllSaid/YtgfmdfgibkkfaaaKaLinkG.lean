import Derived.Test.YtgfmdfgibkkfaaaKaPx0
import Derived.Test.YtgfmdfgibkkfaaaKaPx2
import Derived.Test.YtgfmdfgibkkfaaaKaPx5
import Derived.Test.YtgfmdfgibkkfaaaKaLinkF
set_option linter.unusedVariables false
set_option linter.unusedSimpArgs false
namespace Go.Proofs.Ytgfmdfgibkkfaaa.Link
open Go.RowKit Go.Proofs.Ytgfmdfgibkkfaaa.P Go.Proofs.Ytgfmdfgibkkfaaa.Core Go.Proofs.Ytgfmdfgibkkfaaa.Oct Go.Proofs.Ytgfmdfgibkkfaaa.Frame Go.Proofs.YtgfmdfgibkkfaaaW.PrintWords Go.Proofs.YtgfmdfgibkkfaaaW.PrintLast Go.Proofs.YtgfmdfgibkkfaaaW.PrintMore
def Under (L : LS) (e0 e1 : En) (p : S65) : Prop := (p.f0 = 1 ∧ GoodP 3 4 e0.w L.p0 p) ∨ (p.f0 = 0 ∧ GoodP 4 3 e1.w L.p1 p)
structure Inv (N : Nat) (L : LS) (e0 e1 : En) : Prop where
  x0 : L.x0 = e0.s24 3
  x1 : L.x1 = e1.s24 4
  d0 : Dir 3 e0 e1 L.p0 L.c1
  d1 : Dir 4 e1 e0 L.p1 L.c0
  net : ∀ p ∈ L.net, Under L e0 e1 p
  few : L.net.length ≤ 200
  n0 : L.p0.length ≤ N
  n1 : L.p1.length ≤ N
theorem Inv.w0 {N : Nat} {L : LS} {e0 e1 : En} (h : Inv N L e0 e1) : 1 ≤ e0.w := Nat.le_trans h.d1.f1 h.d1.fw
theorem Inv.w1 {N : Nat} {L : LS} {e0 e1 : En} (h : Inv N L e0 e1) : 1 ≤ e1.w := Nat.le_trans h.d0.f1 h.d0.fw
theorem Inv.c0 {N : Nat} {L : LS} {e0 e1 : En} (h : Inv N L e0 e1) : L.c0.length ≤ N := by rw [h.d1.came, List.length_take]; have := h.n1; omega
theorem Inv.c1 {N : Nat} {L : LS} {e0 e1 : En} (h : Inv N L e0 e1) : L.c1.length ≤ N := by rw [h.d0.came, List.length_take]; have := h.n0; omega
theorem Inv.setNet {N : Nat} {L : LS} {e0 e1 : En} (h : Inv N L e0 e1) (net : List S65) (hn : ∀ p ∈ net, Under L e0 e1 p) (hl : net.length ≤ 200) : Inv N { L with net := net } e0 e1 :=
  ⟨h.x0, h.x1, h.d0, h.d1, hn, hl, h.n0, h.n1⟩
theorem Inv.send {N : Nat} {L : LS} {e0 e1 : En} (h : Inv N L e0 e1) (p : S65) (hp : p.f1 = Core.mk [] ∨ Under L e0 e1 p) : Inv N (L.send p) e0 e1 := by
  unfold LS.send
  by_cases c : p.f1 ≠ (⟨#[]⟩ : ByteArray) ∧ L.net.length < 200
  · rw [if_pos c]
    refine h.setNet _ (fun q hq => ?_) (by rw [List.length_append]; simp only [List.length_singleton]; omega)
    rcases List.mem_append.1 hq with hq | hq
    · exact h.net q hq
    · rw [List.mem_singleton.1 hq]
      exact hp.resolve_left c.1
  · rw [if_neg c]; exact h
theorem send_same (L : LS) (p : S65) : (L.send p).p0 = L.p0 ∧ (L.send p).p1 = L.p1 := by
  unfold LS.send
  split <;> exact ⟨rfl, rfl⟩
theorem Inv.sendAll {N : Nat} {e0 e1 : En} (tt : Int) : ∀ (ss : List ByteArray) {L : LS}, Inv N L e0 e1 → (∀ s ∈ ss, Under L e0 e1 ⟨tt, s, false⟩) → Inv N (L.sendAll tt ss) e0 e1 := by
  intro ss
  induction ss with
  | nil => intro L h _; exact h
  | cons s r ih =>
    intro L h hs
    refine ih (h.send _ (.inr (hs s List.mem_cons_self))) (fun q hq => ?_)
    have := hs q (List.mem_cons_of_mem _ hq)
    unfold Under at this ⊢
    rw [(send_same L _).1, (send_same L _).2]
    exact this
theorem inv_init : Inv 0 LS.init ⟨0, 1, [], 1⟩ ⟨0, 1, [], 1⟩ :=
  ⟨rfl, rfl, ⟨.inl rfl, fun _ => rfl, by decide, by decide, by decide, rfl, rfl, by decide, (fun _ h => by cases h)⟩, ⟨.inl rfl, fun _ => rfl, by decide, by decide, by decide, rfl, rfl, by decide, (fun _ h => by cases h)⟩, (fun _ h => by cases h), by decide, by decide, by decide⟩
theorem Inv.more {N M : Nat} {L : LS} {e0 e1 : En} (h : Inv N L e0 e1) (hN : N ≤ M) : Inv M L e0 e1 :=
  ⟨h.x0, h.x1, h.d0, h.d1, h.net, h.few, Nat.le_trans h.n0 hN, Nat.le_trans h.n1 hN⟩
theorem Inv.right0 {N : Nat} {L : LS} {e0 e1 : En} (h : Inv N L e0 e1) (hN : N ≤ 900) : rightS ((3 : Nat) : Int) (e0.o : Int) (e0.f : Int) e0.l (e0.w : Int) = true :=
  h.d0.right h.d1 (by decide) (by decide) (by decide) (by have := h.n0; omega) (by have := h.n1; omega)
theorem Inv.right1 {N : Nat} {L : LS} {e0 e1 : En} (h : Inv N L e0 e1) (hN : N ≤ 900) : rightS ((4 : Nat) : Int) (e1.o : Int) (e1.f : Int) e1.l (e1.w : Int) = true :=
  h.d1.right h.d0 (by decide) (by decide) (by decide) (by have := h.n1; omega) (by have := h.n0; omega)
theorem inv_put0 {N : Nat} {L : LS} {e0 e1 : En} (h : Inv N L e0 e1) (hN : N ≤ 900) (s : ByteArray) : ∃ e, Inv (N + 1) (L.puts0 s (putL 3 e0.o e0.f e0.l e0.w s)) e e1 := by
  have hl := h.d0.wl
  have hf := h.d0.fw
  have h1 := h.d0.f1
  have hn := h.n0
  unfold LS.puts0 putL
  by_cases c1 : 512 < s.size
  · rw [if_pos c1, if_neg (by decide)]; exact ⟨e0, h.more (by omega)⟩
  rw [if_neg c1]
  by_cases c2 : e0.l.length = 64 ∨ 1099511627776 < e0.f + e0.l.length
  · rw [if_pos c2, if_neg (by decide)]; exact ⟨e0, h.more (by omega)⟩
  rw [if_neg c2, if_pos rfl]
  have hd := dir_put h.d0 s (by omega) (by omega)
  have hi : Inv (N + 1) { L with x0 := (⟨e0.o, e0.f, e0.l ++ [s], e0.w⟩ : En).s24 3, p0 := L.p0 ++ [s] } ⟨e0.o, e0.f, e0.l ++ [s], e0.w⟩ e1 := by
    refine ⟨rfl, h.x1, hd, ⟨h.d1.o, h.d1.ow, h.d1.f1, h.d1.fw, h.d1.wl, h.d1.out, h.d1.came, h.d1.few, h.d1.short⟩, fun p hp => ?_, h.few, by show (L.p0 ++ [s]).length ≤ N + 1; rw [List.length_append]; simp only [List.length_singleton]; omega, by have := h.n1; show L.p1.length ≤ N + 1; omega⟩
    rcases h.net p hp with ⟨a, b⟩ | ⟨a, b⟩
    · exact .inl ⟨a, b.mono (Nat.le_refl _)⟩
    · exact .inr ⟨a, b⟩
  refine ⟨_, hi.send _ ?_⟩
  by_cases c3 : 4 < e0.l.length + 1
  · left; show (if 4 < e0.l.length + 1 then mk [] else _) = mk []; rw [if_pos c3]
  · right
    refine .inl ⟨rfl, _, ?_, .inl rfl⟩
    show GoodQ 3 4 e0.w (L.p0 ++ [s]) (if 4 < e0.l.length + 1 then mk [] else _)
    rw [if_neg c3]
    have hg := good_piece (er := 4) hd e0.l.length (by simp) e0.o e0.w h.d1.o h.w0
    rw [show rdOf ByteArray.empty (e0.l ++ [s]) (e0.l.length : Int) = s by simp [rdOf]] at hg
    exact hg
theorem inv_put1 {N : Nat} {L : LS} {e0 e1 : En} (h : Inv N L e0 e1) (hN : N ≤ 900) (s : ByteArray) : ∃ e, Inv (N + 1) (L.puts1 s (putL 4 e1.o e1.f e1.l e1.w s)) e0 e := by
  have hl := h.d1.wl
  have hf := h.d1.fw
  have h1 := h.d1.f1
  have hn := h.n1
  unfold LS.puts1 putL
  by_cases c1 : 512 < s.size
  · rw [if_pos c1, if_neg (by decide)]; exact ⟨e1, h.more (by omega)⟩
  rw [if_neg c1]
  by_cases c2 : e1.l.length = 64 ∨ 1099511627776 < e1.f + e1.l.length
  · rw [if_pos c2, if_neg (by decide)]; exact ⟨e1, h.more (by omega)⟩
  rw [if_neg c2, if_pos rfl]
  have hd := dir_put h.d1 s (by omega) (by omega)
  have hi : Inv (N + 1) { L with x1 := (⟨e1.o, e1.f, e1.l ++ [s], e1.w⟩ : En).s24 4, p1 := L.p1 ++ [s] } e0 ⟨e1.o, e1.f, e1.l ++ [s], e1.w⟩ := by
    refine ⟨h.x0, rfl, ⟨h.d0.o, h.d0.ow, h.d0.f1, h.d0.fw, h.d0.wl, h.d0.out, h.d0.came, h.d0.few, h.d0.short⟩, hd, fun p hp => ?_, h.few, by have := h.n0; show L.p0.length ≤ N + 1; omega, by show (L.p1 ++ [s]).length ≤ N + 1; rw [List.length_append]; simp only [List.length_singleton]; omega⟩
    rcases h.net p hp with ⟨a, b⟩ | ⟨a, b⟩
    · exact .inl ⟨a, b⟩
    · exact .inr ⟨a, b.mono (Nat.le_refl _)⟩
  refine ⟨_, hi.send _ ?_⟩
  by_cases c3 : 4 < e1.l.length + 1
  · left; show (if 4 < e1.l.length + 1 then mk [] else _) = mk []; rw [if_pos c3]
  · right
    refine .inr ⟨rfl, _, ?_, .inl rfl⟩
    show GoodQ 4 3 e1.w (L.p1 ++ [s]) (if 4 < e1.l.length + 1 then mk [] else _)
    rw [if_neg c3]
    have hg := good_piece (er := 3) hd e1.l.length (by simp) e1.o e1.w h.d0.o h.w1
    rw [show rdOf ByteArray.empty (e1.l ++ [s]) (e1.l.length : Int) = s by simp [rdOf]] at hg
    exact hg
theorem inv_tick0 {N : Nat} {L : LS} {e0 e1 : En} (h : Inv N L e0 e1) : Inv N (L.sendAll 1 (tickS 3 e0.o e0.f e0.l e0.w (min e0.l.length 4))) e0 e1 := by
  refine Inv.sendAll 1 _ h (fun s hs => ?_)
  obtain ⟨i, hi, rfl⟩ := List.mem_map.1 hs
  rw [List.mem_range] at hi
  exact .inl ⟨rfl, _, good_piece (er := 4) h.d0 i (by omega) e0.o e0.w h.d1.o h.w0, .inl rfl⟩
theorem inv_tick1 {N : Nat} {L : LS} {e0 e1 : En} (h : Inv N L e0 e1) : Inv N (L.sendAll 0 (tickS 4 e1.o e1.f e1.l e1.w (min e1.l.length 4))) e0 e1 := by
  refine Inv.sendAll 0 _ h (fun s hs => ?_)
  obtain ⟨i, hi, rfl⟩ := List.mem_map.1 hs
  rw [List.mem_range] at hi
  exact .inr ⟨rfl, _, good_piece (er := 3) h.d1 i (by omega) e1.o e1.w h.d0.o h.w1, .inl rfl⟩
theorem inv_come0 {N : Nat} {L : LS} {e0 e1 : En} (h : Inv N L e0 e1) (hN : N ≤ 900) (p : S65) (hp : GoodP 4 3 e1.w L.p1 p) : Inv N (L.comes0 (resS (takeS 3 e0.o e0.f e0.l e0.w p.f1))) (e0.after 3 p.f1) e1 := by
  have hn0 := h.n0
  have hn1 := h.n1
  obtain ⟨t1, t2, t3, t4⟩ := dir_take h.d1 h.d0 hp (by decide) (by decide) (by decide) (by omega) (by omega)
  have hi : Inv N { L with x0 := (e0.after 3 p.f1).s24 3, c0 := if (takeS 3 e0.o e0.f e0.l e0.w p.f1).has = true then L.c0 ++ [(takeS 3 e0.o e0.f e0.l e0.w p.f1).s] else L.c0 } (e0.after 3 p.f1) e1 := by
    refine ⟨rfl, h.x1, t2, t1, fun q hq => ?_, h.few, hn0, hn1⟩
    rcases h.net q hq with ⟨a, b⟩ | ⟨a, b⟩
    · exact .inl ⟨a, b.le t3⟩
    · exact .inr ⟨a, b⟩
  unfold LS.comes0
  rw [h.x0]
  refine hi.send _ ?_
  rcases t4 with t4 | t4
  · exact .inl t4
  · exact .inr (.inl ⟨rfl, _, t4, .inl rfl⟩)
theorem inv_come1 {N : Nat} {L : LS} {e0 e1 : En} (h : Inv N L e0 e1) (hN : N ≤ 900) (p : S65) (hp : GoodP 3 4 e0.w L.p0 p) : Inv N (L.comes1 (resS (takeS 4 e1.o e1.f e1.l e1.w p.f1))) e0 (e1.after 4 p.f1) := by
  have hn0 := h.n0
  have hn1 := h.n1
  obtain ⟨t1, t2, t3, t4⟩ := dir_take h.d0 h.d1 hp (by decide) (by decide) (by decide) (by omega) (by omega)
  have hi : Inv N { L with x1 := (e1.after 4 p.f1).s24 4, c1 := if (takeS 4 e1.o e1.f e1.l e1.w p.f1).has = true then L.c1 ++ [(takeS 4 e1.o e1.f e1.l e1.w p.f1).s] else L.c1 } e0 (e1.after 4 p.f1) := by
    refine ⟨h.x0, rfl, t1, t2, fun q hq => ?_, h.few, hn0, hn1⟩
    rcases h.net q hq with ⟨a, b⟩ | ⟨a, b⟩
    · exact .inl ⟨a, b⟩
    · exact .inr ⟨a, b.le t3⟩
  unfold LS.comes1
  rw [h.x1]
  refine hi.send _ ?_
  rcases t4 with t4 | t4
  · exact .inl t4
  · exact .inr (.inr ⟨rfl, _, t4, .inl rfl⟩)
theorem inv_gone {N : Nat} {L : LS} {e0 e1 : En} (h : Inv N L e0 e1) (i : Nat) : Inv N (L.gone i) e0 e1 := by
  refine h.setNet _ (fun p hp => ?_) (by have := h.few; rw [List.length_append, List.length_take, List.length_drop]; omega)
  rcases List.mem_append.1 hp with hp | hp
  · exact h.net p (List.mem_of_mem_take hp)
  · exact h.net p (List.mem_of_mem_drop hp)
theorem rd_mem (net : List S65) (i : Nat) (hi : i < net.length) : rd_T65 net (i : Int) ∈ net := by
  have : rd_T65 net (i : Int) = net[i] := by
    unfold rd_T65
    rw [Int.toNat_natCast, List.getD_eq_getElem?_getD, List.getElem?_eq_getElem hi]
    rfl
  rw [this]; exact List.getElem_mem hi
theorem inv_turn {N : Nat} {L : LS} {e0 e1 : En} (h : Inv N L e0 e1) (i : Nat) (hi : i < L.net.length) (n : Nat) : Inv N (L.turn i n) e0 e1 := by
  have hu := h.net _ (rd_mem L.net i hi)
  unfold LS.turn
  by_cases c : (rd_T65 L.net i).f2 = true
  · rw [if_pos c]; exact h
  rw [if_neg c]
  generalize rd_T65 L.net i = p at hu c
  refine h.setNet _ (fun q hq => ?_) (by rw [List.length_set]; exact h.few)
  rcases List.mem_or_eq_of_mem_set hq with hq | rfl
  · exact h.net q hq
  · have go : ∀ {es er ws : Nat} {ps : List ByteArray}, GoodP es er ws ps p → GoodP es er ws ps ⟨p.f0, turnS p.f1 (n % p.f1.size), true⟩ := by
      intro es er ws ps hg
      have hz := hg.size
      obtain ⟨x, h1, h2⟩ := hg
      rcases h2 with h2 | ⟨h2, _⟩
      · refine ⟨x, h1, .inr ⟨rfl, n % p.f1.size, ?_, ?_⟩⟩
        · rw [← h2]; exact Nat.mod_lt _ hz.1
        · show turnS p.f1 _ = _
          rw [h2]
      · exact absurd h2 c
    rcases hu with ⟨a, b⟩ | ⟨a, b⟩
    · exact .inl ⟨a, go b⟩
    · exact .inr ⟨a, go b⟩
theorem place_ok (L : LS) (a : S55) (hn : L.net ≠ []) (hl : L.net.length ≤ 200) : ∃ i : Nat, L.place a = (i : Int) ∧ i < L.net.length := by
  have hp : 0 < L.net.length := List.length_pos_iff.2 hn
  have h0 : 0 ≤ IntKind.u64.wrap a.f1 := by rw [IntKind.wrap_u64]; omega
  unfold LS.place
  generalize IntKind.u64.wrap a.f1 = x at h0
  have h1 : 0 ≤ x.tmod (L.net.length : Int) := Int.tmod_nonneg _ h0
  have h2 : x.tmod (L.net.length : Int) < (L.net.length : Int) := Int.tmod_lt_of_pos _ (by omega)
  generalize x.tmod (L.net.length : Int) = y at h1 h2
  rw [wrap64_id (by omega) (by omega)]
  exact ⟨y.toNat, by omega, by omega⟩
theorem inv_act {N : Nat} {L : LS} {e0 e1 : En} (h : Inv N L e0 e1) (hN : N ≤ 900) (a : S55) (ha : a.f2.size ≤ 600) (k : Nat) (hk : 1000 ≤ k) : ∃ L' e0' e1', L.act k a = some L' ∧ Inv (N + 1) L' e0' e1' := by
  have hn0 := h.n0
  have hn1 := h.n1
  have hc0 := h.c0
  have hc1 := h.c1
  have r0 := h.right0 hN
  have r1 := h.right1 hN
  have up : ∀ {L' e0' e1'}, Inv N L' e0' e1' → Inv (N + 1) L' e0' e1' := fun h => h.more (by omega)
  unfold LS.act
  by_cases k0 : actK a = 0 ∨ actK a = 1
  · obtain ⟨e, he⟩ := inv_put0 h hN a.f2
    refine ⟨_, e, e1, ?_, he⟩
    rw [if_pos k0, h.x0]
    show (link_Put.f k ((3 : Nat) : Int) (e0.o : Int) (e0.f : Int) e0.l (e0.w : Int) a.f2).bind _ = _
    rw [put_good 3 e0.o e0.f e0.l e0.w a.f2 (by omega) r0]
    simp only [Option.bind_some]
    rw [if_pos (by omega)]
  rw [if_neg k0]
  by_cases k2 : actK a = 2
  · obtain ⟨e, he⟩ := inv_put1 h hN a.f2
    refine ⟨_, e0, e, ?_, he⟩
    rw [if_pos k2, h.x1]
    show (link_Put.f k ((4 : Nat) : Int) (e1.o : Int) (e1.f : Int) e1.l (e1.w : Int) a.f2).bind _ = _
    rw [put_good 4 e1.o e1.f e1.l e1.w a.f2 (by omega) r1]
    simp only [Option.bind_some]
    rw [if_pos (by omega)]
  rw [if_neg k2]
  by_cases k3 : actK a = 3 ∨ actK a = 4
  · rw [if_pos k3]
    by_cases q : (IntKind.u64.wrap a.f1).tmod 2 = 0
    · refine ⟨_, e0, e1, ?_, up (inv_tick0 h)⟩
      rw [if_pos q, h.x0]
      show (link_Tick.f k ((3 : Nat) : Int) (e0.o : Int) (e0.f : Int) e0.l (e0.w : Int)).bind _ = _
      rw [tick_good 3 e0.o e0.f e0.l e0.w (by omega) r0]
      rfl
    · refine ⟨_, e0, e1, ?_, up (inv_tick1 h)⟩
      rw [if_neg q, h.x1]
      show (link_Tick.f k ((4 : Nat) : Int) (e1.o : Int) (e1.f : Int) e1.l (e1.w : Int)).bind _ = _
      rw [tick_good 4 e1.o e1.f e1.l e1.w (by omega) r1]
      rfl
  rw [if_neg k3]
  by_cases kn : L.net = []
  · exact ⟨L, e0, e1, if_pos kn, up h⟩
  rw [if_neg kn]
  obtain ⟨i, hi, hlt⟩ := place_ok L a kn h.few
  have hm := rd_mem L.net i hlt
  have hu := h.net _ hm
  have hf := h.few
  unfold LS.deal
  rw [hi, Int.toNat_natCast, if_neg (fun c => c ⟨rfl, hlt, by omega⟩)]
  by_cases k9 : actK a = 9
  · exact ⟨_, e0, e1, if_pos k9, up (inv_gone h i)⟩
  rw [if_neg k9]
  by_cases k10 : actK a = 10
  · exact ⟨_, e0, e1, if_pos k10, up (h.send _ (.inr hu))⟩
  rw [if_neg k10]
  by_cases k11 : actK a = 11
  · refine ⟨_, e0, e1, ?_, up (inv_turn h i hlt a.f2.size)⟩
    have hz : 0 < (rd_T65 L.net i).f1.size ∧ (rd_T65 L.net i).f1.size ≤ 1000 := by
      rcases hu with ⟨_, b⟩ | ⟨_, b⟩ <;> exact b.size
    rw [if_pos k11, if_pos (by omega)]
  rw [if_neg k11]
  generalize hp : rd_T65 L.net i = p at hu hm
  rcases hu with ⟨b0, b1⟩ | ⟨b0, b1⟩
  · have hz := b1.size
    refine ⟨_, e0, _, ?_, up (inv_come1 (inv_gone h i) hN p b1)⟩
    rw [if_neg (by rw [b0]; decide), if_pos b0, h.x1]
    show (link_Take.f k ((4 : Nat) : Int) (e1.o : Int) (e1.f : Int) e1.l (e1.w : Int) p.f1).bind _ = _
    rw [take_good 4 e1.o e1.f e1.w e1.l p.f1 (by omega) (by omega) r1]
    simp only [Option.bind_some]
    rw [if_pos (by omega)]
  · have hz := b1.size
    refine ⟨_, _, e1, ?_, up (inv_come0 (inv_gone h i) hN p b1)⟩
    rw [if_pos b0, h.x0]
    show (link_Take.f k ((3 : Nat) : Int) (e0.o : Int) (e0.f : Int) e0.l (e0.w : Int) p.f1).bind _ = _
    rw [take_good 3 e0.o e0.f e0.w e0.l p.f1 (by omega) (by omega) r0]
    simp only [Option.bind_some]
    rw [if_pos (by omega)]
end Go.Proofs.Ytgfmdfgibkkfaaa.Link
