import Derived.Test.YtgfmdfgibkkfaaaKaPx0
import Derived.Test.YtgfmdfgibkkfaaaKaPx2
import Derived.Test.YtgfmdfgibkkfaaaKaPx5
import Derived.Test.YtgfmdfgibkkfaaaKaPx6
import Derived.Test.YtgfmdfgibkkfaaaKaLinkH
import Derived.Test.YtgfmdfgibkkfaaaKaHLinkAll
set_option linter.unusedVariables false
set_option linter.unusedSimpArgs false
namespace Go.Proofs.Ytgfmdfgibkkfaaa.Link
open Go.RowKit Go.Proofs.Ytgfmdfgibkkfaaa.P Go.Proofs.Ytgfmdfgibkkfaaa.Core Go.Proofs.Ytgfmdfgibkkfaaa.Oct Go.Proofs.Ytgfmdfgibkkfaaa.Frame Go.Proofs.YtgfmdfgibkkfaaaW.PrintWords Go.Proofs.YtgfmdfgibkkfaaaW.PrintLast Go.Proofs.YtgfmdfgibkkfaaaW.PrintMore
theorem text_some {er ws es : Nat} {ps : List ByteArray} {q : Rc} (h : Val er ws ps q) : q.text es ≠ (⟨#[]⟩ : ByteArray) := fun e => by
  have h1 := (h.good (es := es)).size.1
  rw [e] at h1
  exact absurd h1 (by decide)
theorem pack2_some (a o w : Nat) : packetS 2 a o 0 w (mk []) ≠ (⟨#[]⟩ : ByteArray) := fun e => by
  have h1 := packetS_size2 2 (.inr rfl) a o 0 w (mk []) (by rw [mk_size]; simp)
  rw [e] at h1
  have h2 : (⟨#[]⟩ : ByteArray).size = 0 := rfl
  omega
theorem send_net (L : LS) (p : S65) (h : p.f1 ≠ (⟨#[]⟩ : ByteArray)) (hl : L.net.length < 200) : (L.send p).net = L.net ++ [p] := by
  unfold LS.send; rw [if_pos ⟨h, hl⟩]
theorem send_none (L : LS) (p : S65) (h : p.f1 = (⟨#[]⟩ : ByteArray)) : L.send p = L := by
  unfold LS.send; rw [if_neg (fun x => x.1 h)]
theorem gone_first (L : LS) {p : S65} {r : List S65} (h : L.net = p :: r) : (L.gone 0).net = r := by
  show L.net.take 0 ++ L.net.drop (0 + 1) = r
  rw [h]; rfl
theorem comes_keep (L : LS) (R : link_Take.Res) : ((L.comes0 R).p0 = L.p0 ∧ (L.comes0 R).p1 = L.p1) ∧ (L.comes1 R).p0 = L.p0 ∧ (L.comes1 R).p1 = L.p1 := by
  unfold LS.comes0 LS.comes1
  exact ⟨send_same _ _, send_same _ _⟩
theorem comes_net (L : LS) (R : link_Take.Res) (h : R.reply ≠ (⟨#[]⟩ : ByteArray)) (hl : L.net.length < 200) : (L.comes0 R).net = L.net ++ [⟨1, R.reply, false⟩] ∧ (L.comes1 R).net = L.net ++ [⟨0, R.reply, false⟩] := by
  unfold LS.comes0 LS.comes1
  exact ⟨send_net _ _ h hl, send_net _ _ h hl⟩
theorem comes_quiet (L : LS) (R : link_Take.Res) (h : R.reply = (⟨#[]⟩ : ByteArray)) : (L.comes0 R).net = L.net ∧ (L.comes1 R).net = L.net := by
  unfold LS.comes0 LS.comes1
  rw [send_none _ _ h, send_none _ _ h]
  exact ⟨rfl, rfl⟩
def Vals (L : LS) (e0 e1 : En) (qs : List Rc) : Prop := ∀ q ∈ qs, (q.d = true → Val 4 e0.w L.p0 q) ∧ (q.d = false → Val 3 e1.w L.p1 q)
theorem one_to1 {N : Nat} {L : LS} {e0 e1 : En} {q : Rc} {qs : List Rc} (h : Inv N L e0 e1) (hN : N ≤ 900) (hq : L.net = (q :: qs).map Rc.pk) (hd : q.d = true) (hv : Val 4 e0.w L.p0 q) (hl : qs.length < 190) {k : Nat} (hk : 1000 ≤ k) :
    ∃ L', L.one k = some L' ∧ Inv N L' e0 (recv 4 3 e1 q) ∧ L'.p0 = L.p0 ∧ L'.p1 = L.p1 ∧ L'.net = (qs ++ reply 4 3 e1 q).map Rc.pk := by
  have hn0 := h.n0
  have hn1 := h.n1
  have hc1 := h.c1
  have w0 := h.d1.wl
  rw [List.map_cons] at hq
  have hp : rd_T65 L.net 0 = q.pk := by rw [hq]; rfl
  have hf0 : q.pk.f0 = 1 := by unfold Rc.pk; rw [hd]; rfl
  have hf1 : q.pk.f1 = q.text 3 := by unfold Rc.pk; rw [hd]; rfl
  have hz := (hv.good (es := 3)).size
  obtain ⟨t1, t2⟩ := take_rc h.d0 hv (by decide) (by decide) (by decide) (by omega) (by omega)
  have hi := inv_come1 (inv_gone h 0) hN q.pk ⟨_, hv.good, .inl hf1⟩
  rw [hf1, t1] at hi
  have hr : (resS (takeS 4 e1.o e1.f e1.l e1.w (q.text 3))).reply = _ := t2
  generalize hR : resS (takeS 4 e1.o e1.f e1.l e1.w (q.text 3)) = R at hi hr
  have hs := (comes_keep (L.gone 0) R).2
  refine ⟨_, ?_, hi, hs.1, hs.2, ?_⟩
  · unfold LS.one
    rw [hp, if_neg (by rw [hq, List.length_cons, List.length_map]; omega), if_neg (by rw [hf0]; decide), if_pos hf0, hf1, h.x1]
    show (link_Take.f k ((4 : Nat) : Int) (e1.o : Int) (e1.f : Int) e1.l (e1.w : Int) (q.text 3)).bind _ = _
    rw [take_good 4 e1.o e1.f e1.w e1.l (q.text 3) (by omega) (by omega) (h.right1 hN)]
    simp only [Option.bind_some]
    rw [if_pos (by omega), hR]
  · have hg : (L.gone 0).net = qs.map Rc.pk := gone_first L hq
    unfold reply
    cases ho : q.one with
    | true =>
      rw [ho, if_pos rfl] at hr
      rw [(comes_net (L.gone 0) R (by rw [hr]; exact pack2_some _ _ _) (by rw [hg, List.length_map]; omega)).2, hg, hr, if_pos rfl, List.map_append, hd]
      rfl
    | false =>
      rw [ho, if_neg (by decide)] at hr
      rw [(comes_quiet (L.gone 0) R hr).2, hg, if_neg (by decide), List.append_nil]
theorem one_to0 {N : Nat} {L : LS} {e0 e1 : En} {q : Rc} {qs : List Rc} (h : Inv N L e0 e1) (hN : N ≤ 900) (hq : L.net = (q :: qs).map Rc.pk) (hd : q.d = false) (hv : Val 3 e1.w L.p1 q) (hl : qs.length < 190) {k : Nat} (hk : 1000 ≤ k) :
    ∃ L', L.one k = some L' ∧ Inv N L' (recv 3 4 e0 q) e1 ∧ L'.p0 = L.p0 ∧ L'.p1 = L.p1 ∧ L'.net = (qs ++ reply 3 4 e0 q).map Rc.pk := by
  have hn0 := h.n0
  have hn1 := h.n1
  have hc0 := h.c0
  have w0 := h.d0.wl
  rw [List.map_cons] at hq
  have hp : rd_T65 L.net 0 = q.pk := by rw [hq]; rfl
  have hf0 : q.pk.f0 = 0 := by unfold Rc.pk; rw [hd]; rfl
  have hf1 : q.pk.f1 = q.text 4 := by unfold Rc.pk; rw [hd]; rfl
  have hz := (hv.good (es := 4)).size
  obtain ⟨t1, t2⟩ := take_rc h.d1 hv (by decide) (by decide) (by decide) (by omega) (by omega)
  have hi := inv_come0 (inv_gone h 0) hN q.pk ⟨_, hv.good, .inl hf1⟩
  rw [hf1, t1] at hi
  have hr : (resS (takeS 3 e0.o e0.f e0.l e0.w (q.text 4))).reply = _ := t2
  generalize hR : resS (takeS 3 e0.o e0.f e0.l e0.w (q.text 4)) = R at hi hr
  have hs := (comes_keep (L.gone 0) R).1
  refine ⟨_, ?_, hi, hs.1, hs.2, ?_⟩
  · unfold LS.one
    rw [hp, if_neg (by rw [hq, List.length_cons, List.length_map]; omega), if_pos hf0, hf1, h.x0]
    show (link_Take.f k ((3 : Nat) : Int) (e0.o : Int) (e0.f : Int) e0.l (e0.w : Int) (q.text 4)).bind _ = _
    rw [take_good 3 e0.o e0.f e0.w e0.l (q.text 4) (by omega) (by omega) (h.right0 hN)]
    simp only [Option.bind_some]
    rw [if_pos (by omega), hR]
  · have hg : (L.gone 0).net = qs.map Rc.pk := gone_first L hq
    unfold reply
    cases ho : q.one with
    | true =>
      rw [ho, if_pos rfl] at hr
      rw [(comes_net (L.gone 0) R (by rw [hr]; exact pack2_some _ _ _) (by rw [hg, List.length_map]; omega)).1, hg, hr, if_pos rfl, List.map_append, hd]
      rfl
    | false =>
      rw [ho, if_neg (by decide)] at hr
      rw [(comes_quiet (L.gone 0) R hr).1, hg, if_neg (by decide), List.append_nil]
theorem Dir.rest {es : Nat} {s r : En} {ps cs : List ByteArray} (h : Dir es s r ps cs) : s.f + s.l.length = ps.length + 1 := by
  have a1 := h.f1
  have a2 := h.fw
  have a3 := h.wl
  rw [h.out, List.length_drop]
  omega
theorem reply_val {a b : Nat} {e : En} {q : Rc} {ps : List ByteArray} (he : 1 ≤ e.w) {x : Rc} (hx : x ∈ reply a b e q) : x.d = (!q.d) ∧ Val b (recv a b e q).w ps x := by
  obtain ⟨_, rfl⟩ := reply_mem hx
  exact ⟨rfl, Nat.le_trans he (recv_w _ _ _ _), Nat.le_refl _, by show (mk []).size ≤ 512; rw [mk_size]; simp, (fun c => by cases c), (fun _ => ⟨rfl, rfl, rfl⟩)⟩
theorem wt_len (qs : List Rc) : qs.length ≤ wt qs := by
  induction qs with
  | nil => exact Nat.le_refl _
  | cons q r ih =>
    have : wt (q :: r) = (if q.one = true then 2 else 1) + wt r := by simp [wt]
    rw [this, List.length_cons]
    split <;> omega
theorem flow_run {k : Nat} (hk : 1000 ≤ k) {N : Nat} (hN : N ≤ 900) {F0 c0 F1 c1 : Nat} {kn0 kn1 : Prop} : ∀ (n : Nat) (L : LS) (e0 e1 : En) (qs : List Rc), Inv N L e0 e1 → L.net = qs.map Rc.pk → Vals L e0 e1 qs → wt qs < n → wt qs ≤ 150 →
    Pr true 4 F0 c0 kn0 e0 e1 qs → Pr false 3 F1 c1 kn1 e1 e0 qs → ∃ L' e0' e1', flow k n L = some L' ∧ Inv N L' e0' e1' ∧ L'.p0 = L.p0 ∧ L'.p1 = L.p1 ∧ Pr true 4 F0 c0 kn0 e0' e1' [] ∧ Pr false 3 F1 c1 kn1 e1' e0' [] := by
  intro n
  induction n with
  | zero => intro L e0 e1 qs _ _ _ hw; omega
  | succ n ih =>
    intro L e0 e1 qs h hq hv hw hw2 hA hB
    rw [flow]
    cases qs with
    | nil =>
      rw [if_pos (show L.net = [] from hq)]
      exact ⟨L, e0, e1, rfl, h, rfl, rfl, hA, hB⟩
    | cons q qs =>
      have hwt : wt (q :: qs) = (if q.one = true then 2 else 1) + wt qs := by simp [wt]
      have hln := wt_len qs
      have hpos : 1 ≤ (if q.one = true then 2 else 1) := by split <;> omega
      have hmem := hv q List.mem_cons_self
      rw [if_neg (by rw [hq]; exact List.cons_ne_nil _ _)]
      cases hd : q.d with
      | true =>
        obtain ⟨L1, h1, h2, h3, h4, h5⟩ := one_to1 h hN hq hd (hmem.1 hd) (by omega) hk
        have hwr := wt_reply 4 3 e1 q
        have hno : q.one = false → q.o = 4 := fun ho => ((hmem.1 hd).no ho).2.2
        have hqw : q.w ≤ e1.f + e1.l.length := by rw [h.d1.rest]; exact Nat.le_trans (hmem.1 hd).w2 h.d1.wl
        rw [h1]
        simp only [Option.bind_some]
        have hV : Vals L1 e0 (recv 4 3 e1 q) (qs ++ reply 4 3 e1 q) := fun x hx => by
          rw [h3, h4]
          rcases List.mem_append.1 hx with hx | hx
          · exact ⟨(hv x (List.mem_cons_of_mem _ hx)).1, fun c => ((hv x (List.mem_cons_of_mem _ hx)).2 c).le (recv_w _ _ _ _)⟩
          · obtain ⟨y1, y2⟩ := reply_val (ps := L.p1) h.w1 hx
            exact ⟨(fun c => by rw [y1, hd] at c; cases c), fun _ => y2⟩
        obtain ⟨L', e0', e1', g1, g2, g3, g4, g5, g6⟩ := ih L1 e0 (recv 4 3 e1 q) (qs ++ reply 4 3 e1 q) h2 h5 hV (by rw [wt_append]; omega) (by rw [wt_append]; omega) (hA.toR hd) (hB.toS hd hno hqw)
        exact ⟨L', e0', e1', g1, g2, g3.trans h3, g4.trans h4, g5, g6⟩
      | false =>
        obtain ⟨L1, h1, h2, h3, h4, h5⟩ := one_to0 h hN hq hd (hmem.2 hd) (by omega) hk
        have hwr := wt_reply 3 4 e0 q
        have hno : q.one = false → q.o = 3 := fun ho => ((hmem.2 hd).no ho).2.2
        have hqw : q.w ≤ e0.f + e0.l.length := by rw [h.d0.rest]; exact Nat.le_trans (hmem.2 hd).w2 h.d0.wl
        rw [h1]
        simp only [Option.bind_some]
        have hV : Vals L1 (recv 3 4 e0 q) e1 (qs ++ reply 3 4 e0 q) := fun x hx => by
          rw [h3, h4]
          rcases List.mem_append.1 hx with hx | hx
          · exact ⟨fun c => ((hv x (List.mem_cons_of_mem _ hx)).1 c).le (recv_w _ _ _ _), (hv x (List.mem_cons_of_mem _ hx)).2⟩
          · obtain ⟨y1, y2⟩ := reply_val (ps := L.p0) h.w0 hx
            exact ⟨fun _ => y2, (fun c => by rw [y1, hd] at c; cases c)⟩
        obtain ⟨L', e0', e1', g1, g2, g3, g4, g5, g6⟩ := ih L1 (recv 3 4 e0 q) e1 (qs ++ reply 3 4 e0 q) h2 h5 hV (by rw [wt_append]; omega) (by rw [wt_append]; omega) (hA.toS hd hno hqw) (hB.toR hd)
        exact ⟨L', e0', e1', g1, g2, g3.trans h3, g4.trans h4, g5, g6⟩
def tickR (d : Bool) (o f : Nat) (l : List ByteArray) (w c : Nat) : List Rc := (List.range c).map fun i => ⟨d, true, o, f + i, w, rdOf ByteArray.empty l (i : Int)⟩
theorem tickR_pk (d : Bool) (o f : Nat) (l : List ByteArray) (w c : Nat) : (tickS (if d = true then 3 else 4) o f l w c).map (fun s => (⟨if d = true then 1 else 0, s, false⟩ : S65)) = (tickR d o f l w c).map Rc.pk := by
  unfold tickS tickR
  rw [List.map_map, List.map_map]
  rfl
theorem tickR_mem {d : Bool} {o f : Nat} {l : List ByteArray} {w c : Nat} {q : Rc} (h : q ∈ tickR d o f l w c) : ∃ i, i < c ∧ q = ⟨d, true, o, f + i, w, rdOf ByteArray.empty l (i : Int)⟩ := by
  obtain ⟨i, hi, rfl⟩ := List.mem_map.1 h
  exact ⟨i, List.mem_range.1 hi, rfl⟩
theorem tickR_val {es er : Nat} {s r : En} {ps cs : List ByteArray} (h : Dir es s r ps cs) {d : Bool} (ho : s.o = 0 ∨ s.o = er) (hw : 1 ≤ s.w) {q : Rc} (hq : q ∈ tickR d s.o s.f s.l s.w (min s.l.length 4)) : q.d = d ∧ q.one = true ∧ q.o = s.o ∧ Val er s.w ps q := by
  obtain ⟨i, hi, rfl⟩ := tickR_mem hq
  have a1 := h.f1
  have hi2 : i < s.l.length := by omega
  have hl : s.l.length = ps.length - (s.f - 1) := by rw [h.out, List.length_drop]
  have hr : rdOf ByteArray.empty s.l (i : Int) = s.l[i] := by simp [rdOf, hi2]
  have hsub : ∀ t ∈ s.l, t ∈ ps := fun t ht => by rw [h.out] at ht; exact List.mem_of_mem_drop ht
  have e : s.l[i]? = some s.l[i] := List.getElem?_eq_getElem hi2
  refine ⟨rfl, rfl, rfl, hw, Nat.le_refl _, by show (rdOf ByteArray.empty s.l (i : Int)).size ≤ 512; rw [hr]; exact h.short _ (hsub _ (List.getElem_mem hi2)), fun _ => ⟨by show 1 ≤ s.f + i; omega, by show s.f + i ≤ ps.length; omega, ?_, ho⟩, (fun c => by cases c)⟩
  show ps[s.f + i - 1]? = some (rdOf ByteArray.empty s.l (i : Int))
  rw [hr, ← e, h.out, List.getElem?_drop]
  congr 1
  omega
theorem tickR_all (d : Bool) (o f : Nat) (l : List ByteArray) (w c : Nat) : (tickR d o f l w c).filter (fun q => q.d == d && q.one) = tickR d o f l w c := List.filter_eq_self.2 (fun q hq => by
  obtain ⟨i, _, rfl⟩ := tickR_mem hq
  simp)
theorem tickR_no (d : Bool) (o f : Nat) (l : List ByteArray) (w c : Nat) : (tickR (!d) o f l w c).filter (fun q => q.d == d && q.one) = [] := List.filter_eq_nil_iff.2 (fun q hq => by
  obtain ⟨i, _, rfl⟩ := tickR_mem hq
  cases d <;> simp)
theorem tickR_n (d : Bool) (o f : Nat) (l : List ByteArray) (w c : Nat) : (tickR d o f l w c).map (fun q => q.n) = List.range' f c := by
  unfold tickR
  rw [List.map_map, List.range'_eq_map_range]
  rfl
theorem tickR_wt (d : Bool) (o f : Nat) (l : List ByteArray) (w c : Nat) : wt (tickR d o f l w c) = 2 * c := by
  unfold wt tickR
  rw [List.map_map]
  induction c with
  | zero => rfl
  | succ c ih =>
    rw [List.range_succ, List.map_append, List.sum_append, ih]
    show 2 * c + 2 = 2 * (c + 1)
    omega
theorem Pr.start {d : Bool} {es er : Nat} {s r : En} {ps cs : List ByteArray} (h : Dir es s r ps cs) (o f : Nat) (l : List ByteArray) (w c : Nat) (qs : List Rc)
    (hq : qs = tickR d s.o s.f s.l s.w (min s.l.length 4) ++ tickR (!d) o f l w c ∨ qs = tickR (!d) o f l w c ++ tickR d s.o s.f s.l s.w (min s.l.length 4)) : Pr d er s.f (min s.l.length 4) (s.o = er) s r qs := by
  have hf : qs.filter (fun q => q.d == d && q.one) = tickR d s.o s.f s.l s.w (min s.l.length 4) := by
    rcases hq with rfl | rfl
    · rw [List.filter_append, tickR_all, tickR_no, List.append_nil]
    · rw [List.filter_append, tickR_all, tickR_no, List.nil_append]
  have hm : ∀ q, q ∈ qs ↔ (q ∈ tickR d s.o s.f s.l s.w (min s.l.length 4) ∨ q ∈ tickR (!d) o f l w c) := fun q => by
    rcases hq with rfl | rfl
    · exact List.mem_append
    · exact List.mem_append.trans Or.comm
  refine ⟨Nat.le_refl _, fun hk => ⟨hk, 0, Nat.zero_le _, ?_, h.fw, fun q hqm hd ho => ?_, fun e => .inl (by omega)⟩, ?_⟩
  · rw [hf, tickR_n]
    rfl
  · rcases (hm q).1 hqm with hx | hx
    · obtain ⟨i, _, rfl⟩ := tickR_mem hx
      exact hk
    · obtain ⟨i, _, rfl⟩ := tickR_mem hx
      exfalso
      cases d <;> cases hd
  · rcases Nat.eq_zero_or_pos (min s.l.length 4) with hz | hz
    · exact .inr (.inl hz)
    · refine .inr (.inr (.inl ⟨⟨d, true, s.o, s.f + 0, s.w, rdOf ByteArray.empty s.l ((0 : Nat) : Int)⟩, (hm _).2 (.inl ?_), rfl, rfl⟩))
      exact List.mem_map.2 ⟨0, List.mem_range.2 hz, rfl⟩
theorem sendAll_net (tt : Int) : ∀ (ss : List ByteArray) (L : LS), (∀ s ∈ ss, s ≠ (⟨#[]⟩ : ByteArray)) → L.net.length + ss.length ≤ 200 → L.sendAll tt ss = { L with net := L.net ++ ss.map fun s => ⟨tt, s, false⟩ } := by
  intro ss
  induction ss with
  | nil => intro L _ _; rw [List.map_nil, List.append_nil]; rfl
  | cons s r ih =>
    intro L h1 h2
    rw [List.length_cons] at h2
    have e : L.send ⟨tt, s, false⟩ = { L with net := L.net ++ [⟨tt, s, false⟩] } := by
      unfold LS.send
      rw [if_pos ⟨h1 s List.mem_cons_self, by omega⟩]
    show (L.send ⟨tt, s, false⟩).sendAll tt r = _
    rw [e, ih _ (fun x hx => h1 x (List.mem_cons_of_mem _ hx)) (by show (L.net ++ [_]).length + _ ≤ _; rw [List.length_append]; simp only [List.length_singleton]; omega)]
    simp
theorem tks_zero (k : Nat) (L : LS) : LS.tks k 0 L = flow k 100 L := by rw [LS.tks]
theorem tks_one (k : Nat) (L : LS) : LS.tks k 1 L = (link_Tick.f k L.x1.f0 L.x1.f1 L.x1.f2 L.x1.f3 L.x1.f4).bind fun ss => LS.tks k 0 (L.sendAll 0 ss) := by rw [LS.tks]
theorem tks_two (k : Nat) (L : LS) : LS.tks k 2 L = (link_Tick.f k L.x0.f0 L.x0.f1 L.x0.f2 L.x0.f3 L.x0.f4).bind fun ss => LS.tks k 1 (L.sendAll 1 ss) := by rw [show 2 = 0 + 2 from rfl, LS.tks]
theorem tks_run {k : Nat} {L L' : LS} {ss0 ss1 : List ByteArray} (t0 : link_Tick.f k L.x0.f0 L.x0.f1 L.x0.f2 L.x0.f3 L.x0.f4 = some ss0) (t1 : link_Tick.f k L.x1.f0 L.x1.f1 L.x1.f2 L.x1.f3 L.x1.f4 = some ss1)
    (h0 : ∀ s ∈ ss0, s ≠ (⟨#[]⟩ : ByteArray)) (h1 : ∀ s ∈ ss1, s ≠ (⟨#[]⟩ : ByteArray)) (hl : ss0.length + ss1.length ≤ 200)
    (hf : flow k 100 { L with net := (ss0.map fun s => (⟨1, s, false⟩ : S65)) ++ ss1.map fun s => (⟨0, s, false⟩ : S65) } = some L') : LS.tks k 2 { L with net := [] } = some L' := by
  have u0 : ({ L with net := [] } : LS).sendAll 1 ss0 = { L with net := ss0.map fun s => (⟨1, s, false⟩ : S65) } := by
    rw [sendAll_net 1 ss0 _ h0 (by show 0 + _ ≤ _; omega)]
    simp only [List.nil_append]
  have u1 : ({ L with net := ss0.map fun s => (⟨1, s, false⟩ : S65) } : LS).sendAll 0 ss1 = { L with net := (ss0.map fun s => (⟨1, s, false⟩ : S65)) ++ ss1.map fun s => (⟨0, s, false⟩ : S65) } := by
    rw [sendAll_net 0 ss1 _ h1 (by show (ss0.map _).length + _ ≤ _; rw [List.length_map]; omega)]
  rw [tks_two]
  simp only []
  rw [t0]
  simp only [Option.bind_some]
  rw [u0, tks_one]
  simp only []
  rw [t1]
  simp only [Option.bind_some]
  rw [u1, tks_zero, hf]
structure Goes (er : Nat) (s s' : En) : Prop where
  f : s.f ≤ s'.f
  c : s.o = er → s.f + min s.l.length 4 ≤ s'.f
  o : s'.o = er ∨ min s.l.length 4 = 0
theorem round_run {k : Nat} (hk : 1000 ≤ k) {N : Nat} (hN : N ≤ 900) {L : LS} {e0 e1 : En} (h : Inv N L e0 e1) : ∃ L' e0' e1', LS.tks k 2 { L with net := [] } = some L' ∧ Inv N L' e0' e1' ∧ L'.p0 = L.p0 ∧ L'.p1 = L.p1 ∧ Goes 4 e0 e0' ∧ Goes 3 e1 e1' := by
  have v0 : ∀ q ∈ tickR true e0.o e0.f e0.l e0.w (min e0.l.length 4), q.d = true ∧ q.one = true ∧ q.o = e0.o ∧ Val 4 e0.w L.p0 q := fun q hq => tickR_val h.d0 h.d1.o h.w0 hq
  have v1 : ∀ q ∈ tickR false e1.o e1.f e1.l e1.w (min e1.l.length 4), q.d = false ∧ q.one = true ∧ q.o = e1.o ∧ Val 3 e1.w L.p1 q := fun q hq => tickR_val h.d1 h.d0.o h.w1 hq
  have s0 : ∀ s ∈ tickS 3 e0.o e0.f e0.l e0.w (min e0.l.length 4), s ≠ (⟨#[]⟩ : ByteArray) := fun s hs => by
    obtain ⟨i, hi, rfl⟩ := List.mem_map.1 hs
    exact text_some (es := 3) (v0 _ (List.mem_map.2 ⟨i, hi, rfl⟩)).2.2.2
  have s1 : ∀ s ∈ tickS 4 e1.o e1.f e1.l e1.w (min e1.l.length 4), s ≠ (⟨#[]⟩ : ByteArray) := fun s hs => by
    obtain ⟨i, hi, rfl⟩ := List.mem_map.1 hs
    exact text_some (es := 4) (v1 _ (List.mem_map.2 ⟨i, hi, rfl⟩)).2.2.2
  have hP0 := Pr.start (er := 4) (d := true) h.d0 e1.o e1.f e1.l e1.w (min e1.l.length 4) _ (.inl rfl)
  have hP1 := Pr.start (er := 3) (d := false) h.d1 e0.o e0.f e0.l e0.w (min e0.l.length 4) _ (.inr rfl)
  have k0 := tickR_pk true e0.o e0.f e0.l e0.w (min e0.l.length 4)
  have k1 := tickR_pk false e1.o e1.f e1.l e1.w (min e1.l.length 4)
  rw [if_pos rfl, if_pos rfl] at k0
  rw [if_neg (by decide), if_neg (by decide)] at k1
  have hwt : wt (tickR true e0.o e0.f e0.l e0.w (min e0.l.length 4) ++ tickR false e1.o e1.f e1.l e1.w (min e1.l.length 4)) ≤ 16 := by
    rw [wt_append, tickR_wt, tickR_wt]; omega
  have hI : Inv N { L with net := (tickR true e0.o e0.f e0.l e0.w (min e0.l.length 4) ++ tickR false e1.o e1.f e1.l e1.w (min e1.l.length 4)).map Rc.pk } e0 e1 := by
    refine h.setNet _ (fun p hp => ?_) ?_
    · obtain ⟨q, hq, rfl⟩ := List.mem_map.1 hp
      rcases List.mem_append.1 hq with hq | hq
      · obtain ⟨a1, _, _, a4⟩ := v0 q hq
        refine .inl ⟨by unfold Rc.pk; rw [a1]; rfl, _, a4.good, .inl (by unfold Rc.pk; rw [a1]; rfl)⟩
      · obtain ⟨a1, _, _, a4⟩ := v1 q hq
        refine .inr ⟨by unfold Rc.pk; rw [a1]; rfl, _, a4.good, .inl (by unfold Rc.pk; rw [a1]; rfl)⟩
    · have := wt_len (tickR true e0.o e0.f e0.l e0.w (min e0.l.length 4) ++ tickR false e1.o e1.f e1.l e1.w (min e1.l.length 4))
      rw [List.length_map]
      omega
  obtain ⟨L', e0', e1', g1, g2, g3, g4, g5, g6⟩ := flow_run hk hN 100 _ e0 e1 _ hI rfl (fun q hq => by
    rcases List.mem_append.1 hq with hq | hq
    · obtain ⟨a1, _, _, a4⟩ := v0 q hq
      exact ⟨fun _ => a4, (fun c => by rw [a1] at c; cases c)⟩
    · obtain ⟨a1, _, _, a4⟩ := v1 q hq
      exact ⟨(fun c => by rw [a1] at c; cases c), fun _ => a4⟩) (by omega) (by omega) hP0 hP1
  obtain ⟨d1, d2, d3⟩ := g5.done
  obtain ⟨d4, d5, d6⟩ := g6.done
  refine ⟨L', e0', e1', ?_, g2, g3, g4, ⟨d1, d2, d3⟩, ⟨d4, d5, d6⟩⟩
  refine tks_run (ss0 := tickS 3 e0.o e0.f e0.l e0.w (min e0.l.length 4)) (ss1 := tickS 4 e1.o e1.f e1.l e1.w (min e1.l.length 4)) ?_ ?_ s0 s1 (by rw [tickS_length, tickS_length]; omega) ?_
  · rw [h.x0]
    exact tick_good 3 e0.o e0.f e0.l e0.w (by omega) (h.right0 hN)
  · rw [h.x1]
    exact tick_good 4 e1.o e1.f e1.l e1.w (by omega) (h.right1 hN)
  · rw [k0, k1, ← List.map_append]
    exact g1
def Less (n er : Nat) (s : En) : Prop := s.l = [] ∨ (s.o = er ∧ s.l.length + 4 * n ≤ 64)
theorem less_first {es er : Nat} {s s' r r' : En} {ps cs cs' : List ByteArray} (h : Dir es s r ps cs) (h' : Dir es s' r' ps cs') (hg : Goes er s s') : Less 0 er s' := by
  have a1 := h.rest
  have a2 := h'.rest
  have a3 := hg.f
  have a4 := h.few
  rcases hg.o with a5 | a5
  · exact .inr ⟨a5, by omega⟩
  · exact .inl (List.eq_nil_of_length_eq_zero (by omega))
theorem less_next {es er n : Nat} {s s' r r' : En} {ps cs cs' : List ByteArray} (h : Dir es s r ps cs) (h' : Dir es s' r' ps cs') (hg : Goes er s s') (hl : Less n er s) : Less (n + 1) er s' := by
  have a1 := h.rest
  have a2 := h'.rest
  have a3 := hg.f
  rcases hl with hl | ⟨ho, hl⟩
  · rw [hl, List.length_nil] at a1
    exact .inl (List.eq_nil_of_length_eq_zero (by omega))
  · have a4 := hg.c ho
    by_cases c : s.l.length ≤ 4
    · exact .inl (List.eq_nil_of_length_eq_zero (by omega))
    · refine .inr ⟨?_, by omega⟩
      rcases hg.o with a5 | a5
      · exact a5
      · omega
theorem rounds_run {k : Nat} (hk : 1000 ≤ k) {N : Nat} (hN : N ≤ 900) : ∀ (n m : Nat) (L : LS) (e0 e1 : En), Inv N L e0 e1 → Less m 4 e0 → Less m 3 e1 → ∃ L' e0' e1', rounds k n L = some L' ∧ Inv N L' e0' e1' ∧ Less (m + n) 4 e0' ∧ Less (m + n) 3 e1' := by
  intro n
  induction n with
  | zero => intro m L e0 e1 h h0 h1; exact ⟨L, e0, e1, rfl, h, h0, h1⟩
  | succ n ih =>
    intro m L e0 e1 h h0 h1
    obtain ⟨L1, a0, a1, g1, g2, g3, g4, g5, g6⟩ := round_run hk hN h
    have d0 := g2.d0
    have d1 := g2.d1
    rw [g3] at d0
    rw [g4] at d1
    obtain ⟨L', e0', e1', j1, j2, j3, j4⟩ := ih (m + 1) L1 a0 a1 g2 (less_next h.d0 d0 g5 h0) (less_next h.d1 d1 g6 h1)
    refine ⟨L', e0', e1', ?_, j2, ?_, ?_⟩
    · rw [rounds, g1]; exact j1
    · rwa [show m + (n + 1) = m + 1 + n by omega]
    · rwa [show m + (n + 1) = m + 1 + n by omega]
theorem all_came {es : Nat} {s r : En} {ps cs : List ByteArray} (h : Dir es s r ps cs) (hl : s.l = []) : cs = ps := by
  have a1 := h.rest
  have a2 := h.fw
  have a3 := h.wl
  rw [hl, List.length_nil] at a1
  rw [h.came, List.take_of_length_le (by omega)]
theorem fin_run {k : Nat} (hk : 1001 ≤ k) {N : Nat} (hN : N ≤ 900) {n : Nat} (hn : 63 ≤ n) {L : LS} {e0 e1 : En} (h : Inv N L e0 e1) : ((rounds k (n + 1) L).bind (LS.fin k)) = some true := by
  obtain ⟨L1, a0, a1, g1, g2, g3, g4, g5, g6⟩ := round_run (k := k) (by omega) hN h
  have d0 := g2.d0
  have d1 := g2.d1
  rw [g3] at d0
  rw [g4] at d1
  obtain ⟨L', e0', e1', j1, j2, j3, j4⟩ := rounds_run (k := k) (by omega) hN n 0 L1 a0 a1 g2 (less_first h.d0 d0 g5) (less_first h.d1 d1 g6)
  have l0 : e0'.l = [] := by rcases j3 with j3 | ⟨_, j3⟩; exact j3; omega
  have l1 : e1'.l = [] := by rcases j4 with j4 | ⟨_, j4⟩; exact j4; omega
  have e : rounds k (n + 1) L = some L' := by
    rw [rounds, g1]
    simp only [Option.bind_some]
    exact j1
  have c0 := all_came j2.d1 l1
  have c1 := all_came j2.d0 l0
  have n0 := j2.n0
  have n1 := j2.n1
  have x0 : L'.x0.f3 = [] := by rw [j2.x0]; exact l0
  have x1 : L'.x1.f3 = [] := by rw [j2.x1]; exact l1
  have s0 : counterfoilref01_Same.f k L'.p0 L'.p0 = some true := by rw [same_eq L'.p0 L'.p0 (by omega) (by omega)]; simp
  have s1 : counterfoilref01_Same.f k L'.p1 L'.p1 = some true := by rw [same_eq L'.p1 L'.p1 (by omega) (by omega)]; simp
  have hf : LS.fin k L' = some true := by
    unfold LS.fin
    rw [c0, c1, s0, s1, x0, x1]
    simp only [Option.bind_some, and_self, if_true]
    exact awake_eq (by omega)
  rw [e]
  simp only [Option.bind_some]
  exact hf
end Go.Proofs.Ytgfmdfgibkkfaaa.Link
