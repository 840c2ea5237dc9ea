import Derived.Test.YtecfndblgefhdaaKcRoadB
import Derived.Test.YtecfndblgefhdaaKcPx14
set_option linter.unusedVariables false
set_option linter.unusedSimpArgs false
namespace Go.Proofs.Ytecfndblgefhdaa.P
open Go.RowKit Go.Proofs.YtecfndblgefhdaaW.PrintWords Go.Proofs.YtecfndblgefhdaaW.PrintLast Go.Proofs.YtecfndblgefhdaaW.PrintMore
attribute [local go_sem] max2_int min2_int max_two min_two max_three min_three max_four min_four
def RS.outs (L : RS) (ss : List ByteArray) : RS := { L with net := L.net ++ ss.map fun s => (⟨1, s⟩ : S93) }
def RS.tick (k : Nat) (L : RS) : Option RS := (link_Tick.f k L.x0.f0 L.x0.f1 L.x0.f2 L.x0.f3 L.x0.f4).bind fun ss => if ss.length ≤ 1000 then some (L.outs ss) else none
set_option maxHeartbeats 4000000 in
set_option maxRecDepth 100000 in
theorem road_act.calls1 (k b g : Nat) (vl : Value) (L L' : RS) (f : Nat → Nat) (n m : Int) (w : World) (h : RoadF b w g L vl f) (hb : b ≤ w.heap.size) (hn : 0 < n ∧ n < 3) (hlim : L.net.length ≤ 100000) (hT : L.tick k = some L') :
  Calls Try.prog 7 #[.pointer (some ⟨g, 0, none⟩), .int .i64 n, .int .i64 m] w fun e w' => e = .returned (.tuple #[]) ∧ (∃ f', RoadF b w' g L' vl f' ∧ Kept9 w w' f f') ∧ Below b w w' := by
 obtain ⟨v0, v1, vn, vw, vj, vt, h⟩ := h
 unfold RS.tick at hT
 obtain ⟨ss, ht, hT⟩ := Option.bind_eq_some_iff.1 hT
 by_cases hss : ss.length ≤ 1000
 ·rw [if_pos hss] at hT
  obtain rfl := Option.some.inj hT
  have HE := a0_ h
  have HB := a0_ hb
  have HTK := a0_ ht
  have HLM := a0_ hlim
  have HSS := a0_ hss
  clear h hb ht hlim hss hT
  obtain ⟨Ao, co, hvo, hno, hCo⟩ := Kd.Q_reads HE.out.h0
  subst hvo
  have HNO := a0_ hno
  clear hno hCo
  have n1 : (n == 0) = false := beq_eq_false_iff_ne.mpr z2_
  have n2 : decide (n < 3) = true := decide_eq_true hn.2
  have cg2 := HE.out.cell 2
  have cg3 := HE.out.cell 3
  have cg4 := HE.out.cell 4
  have cg5 := HE.out.cell 5
  have cg6 := HE.out.cell 6
  simp only [cellsR] at cg2 cg3 cg4 cg5 cg6
  go_enter Try.func7, Try.ntmps7
  go_wp2_with (go_at_call 30; (with_reducible refine (link_Tick.calls k L.x0.f0 L.x0.f1 L.x0.f2 Ao co L.x0.f3 L.x0.f4 ss _ (Kd.Q_reads' HE.out.h0).2.2 HNO.out HTK.out).mono ?_); rintro e' W1 ⟨vq, rfl, hr, hb1⟩; obtain ⟨Aq, cq, rfl⟩ := Kd.R_slice hr; have HR := a0_ hr; have HB1 := a0_ hb1; clear hr hb1 cg2 cg3 cg4 cg5 cg6)
  have HE1 := a0_ (HE.out.fresh HB1.out 9)
  have HP1 : Aside0 (Kd.string.R 9 W1 b (fun k => tagf f w.heap.size 9 k = 9) (.slice Aq ss.length cq) ss) := ⟨Kd.R_mono (Kd.R_lower (Kd.R_bound HR.out) HB.out) (fun k hk => z140_)⟩
  have HK1 := a0_ (Kept9.fresh (f := f) HB1.out 9)
  have HBb1 := a0_ (HB1.out.mono HB.out)
  have HSZ1 := a0_ HB1.out.size
  have e0 : L.outs (ss.take 0) = L := by unfold RS.outs; rw [List.take_zero, List.map_nil, List.append_nil]
  have HE2 : Aside0 (RoadF b W1 g (L.outs (ss.take 0)) vl (tagf f w.heap.size 9)) := ⟨by rw [e0]; exact ⟨_, _, _, _, _, _, HE1.out⟩⟩
  clear e0
  go_loopw [26] (fun v26 w' => ∃ (i : Nat) (fi : Nat → Nat), i ≤ ss.length ∧ v26 = .int .i64 i ∧ Aside0 (RoadF b w' g (L.outs (ss.take i)) vl fi) ∧ Aside0 (Kd.string.R 9 w' b (fun k => fi k = 9) (.slice Aq ss.length cq) ss) ∧ Aside0 (Kept9 w w' f fi) ∧ Aside0 (Below b w w') ∧ Aside0 (w.heap.size ≤ w'.heap.size)) (fun v26 _ => ss.length - (intOf v26).toNat)
  case atStart => exact ⟨0, _, Nat.zero_le _, rfl, HE2, HP1, HK1, HBb1, HSZ1⟩
  case round =>
   clear HE2 HE1 HP1 HK1 HBb1 HSZ1
   have hss2 := HSS.out
   obtain ⟨i, fi, hi, rfl, HM, HP, HK, HBb, HSZ⟩ := hrel
   by_cases hlt : i < ss.length
   ·obtain ⟨v0, v1, vn, vw, vj, vt, hM⟩ := HM.out
    have HE := a0_ hM
    clear hM HM
    have hat := Kd.at_string (Kd.R_reads' HP.out).2.2 (i : Int) z2_ z2_
    obtain ⟨ad2, ead, hcell⟩ := hat
    cases ead
    have hsp : rdOf ByteArray.empty ss (i : Int) = ss[i] := by
     unfold rdOf
     rw [Int.toNat_natCast, List.getD_eq_getElem?_getD, List.getElem?_eq_getElem hlt]
     rfl
    rw [hsp] at hcell
    rw [Int.toNat_natCast] at hcell
    have hi0 : 0 ≤ (i : Int) := by omega
    have hi1 : (i : Int) < (ss.length : Int) := by omega
    have HNX : Aside0 ((L.outs (ss.take i)).net ++ [(⟨1, ss[i]⟩ : S93)] = (L.outs (ss.take (i + 1))).net) := ⟨by unfold RS.outs; rw [List.take_succ_eq_append_getElem hlt, List.map_append, List.append_assoc]; rfl⟩
    have HLN : Aside0 ((L.outs (ss.take i)).net.length ≤ 101000) := ⟨by have := HLM.out; have := HSS.out; show (L.net ++ (ss.take i).map _).length ≤ _; rw [List.length_append, List.length_map, List.length_take]; omega⟩
    have HUP : ∀ net : List S93, net = (L.outs (ss.take (i + 1))).net → ({ L.outs (ss.take i) with net := net } : RS) = L.outs (ss.take (i + 1)) := fun net e => by rw [e]; rfl
    have HUP := a0_ HUP
    clear hsp
    generalize ss[i] = p at *
    obtain ⟨An, cn, hvn, hnc, hnC⟩ := Kd.R_reads HE.out.hn
    subst hvn
    clear hnc hnC
    have x12 := HE.out.cell 12
    simp only [cellsR] at x12
    obtain ⟨M, hM⟩ : ∃ M, M = L.outs (ss.take i) := ⟨_, rfl⟩
    rw [← hM] at HE HNX HLN HUP x12
    have HMM := a0_ hM
    clear hM
    go_wp2_with (at_builtin; refine Kd.R_append k93 b rfl (.tmp 34) (.tmp 37) 33 93 (.agg #[.int .i64 0, .string ⟨#[]⟩]) 24 rfl Try.underlying33 infoWay rfl z17_ z2_ (.slice An M.net.length cn) M.net (⟨1, p⟩ : S93) [.int .i64 1, .string p] (fun k => fi k = 2 ∨ wr.heap.size ≤ k) (fun _ => False) rfl ?hx ?aP (fun _ hk => hk.elim) ?aF ?aO (Below.refl _ _) ?aS ?aL ?_; (case hx => exact z141_); (case aP => exact k93_mkM _ _ _ (⟨1, p⟩ : S93)); (case aF => exact z142_); (case aO => exact Kd.R_mono HE.out.hn (fun k hk => .inl hk)); (case aS => exact Nat.le_trans HB.out HSZ.out); (case aL => have := HLN.out; omega); intro v5 w5 ho hb5 hg _; obtain ⟨A5, c5, rfl⟩ := Kd.R_slice ho; have HO := a0_ ho; have HG := a0_ hg; clear ho hb5 hg x12; have hne : fi g ≠ 2 := z145_; have hbk := blk_grown HE.out.blk HG.out (fun e => hne (HE.out.hn.1 g e.symm)); have x12 : w5.cell? ⟨g, 12, none⟩ = some (.slice An M.net.length cn) := (blk_cell hbk 12).trans rfl; have u12 : w5.frozen? ⟨g, 12, none⟩ = false := blk_frozen hbk 12; clear hbk hne)
    have hbs : b ≤ wr.heap.size := Nat.le_trans HB.out HSZ.out
    obtain ⟨f8, hf8, he8⟩ := HE.out.set_net (l := M.net ++ [⟨1, p⟩]) (v := .slice A5 (M.net ++ [(⟨1, p⟩ : S93)]).length c5) HG.out HO.out
    rw [show (M.net ++ [(⟨1, p⟩ : S93)]).length = M.net.length + 1 from by simp, HUP.out _ HNX.out] at he8
    have hk8 : Kept9 wr (w5.setCell ⟨g, 12, none⟩ (.slice A5 (M.net.length + 1) c5)) fi f8 := Kept9.row HG.out (fun k hk e => by have h5 : fi k = 2 := HE.out.hn.1 k hk; rw [e] at h5; cases h5) hf8 z145_
    have HE8 := a0_ he8
    have HP8 := a0_ (R9_kept HP.out hk8)
    have HK8 := a0_ (HK.out.trans hk8 HSZ.out)
    have HBb8 := a0_ ((pw_below_grown HBb.out _ hbs HG.out (fun k hk => Kd.R_base HE.out.hn k hk)).setCell (p := ⟨g, 12, none⟩) HE.out.low (.slice A5 (M.net.length + 1) c5))
    have HSZ8 : Aside0 (w.heap.size ≤ (w5.setCell ⟨g, 12, none⟩ (.slice A5 (M.net.length + 1) c5)).heap.size) := ⟨z146_⟩
    go_roundw
    case measure => simp [intOf]; omega
    case rel => exact ⟨i + 1, f8, z2_, z30_, ⟨⟨_, _, _, _, _, _, HE8.out⟩⟩, HP8, HK8, HBb8, HSZ8⟩
   ·obtain rfl : i = ss.length := by omega
    have hM := HM.out
    rw [List.take_length] at hM
    go_wp2
    refine bodyPost_ret (results_none rfl _ _ _) rfl ?_
    exact ⟨rfl, ⟨fi, hM, HK.out⟩, HBb.out⟩
 ·rw [if_neg hss] at hT; cases hT
set_option maxHeartbeats 4000000 in
theorem road_act.calls0 (k b g : Nat) (l : List S53) (Al : Option Addr) (cl : Nat) (L L' : RS) (f : Nat → Nat) (m : Int) (w0 w : World) (hw0 : b = w0.heap.size) (h : RoadF b w g L (.slice Al l.length cl) f) (hb : b ≤ w.heap.size) (hB0 : Below b w0 w) (hl : Kd.C k53 w0 Al l.length l) (hcl : l.length ≤ cl) (hs : 0 ≤ L.sent ∧ L.sent ≤ 100)
  (hS : L.send k l = some L') :
  Calls Try.prog 7 #[.pointer (some ⟨g, 0, none⟩), .int .i64 0, .int .i64 m] w fun e w' => e = .returned (.tuple #[]) ∧ (∃ f', RoadF b w' g L' (.slice Al l.length cl) f' ∧ Kept9 w w' f f') ∧ Below b w w' := by
 have hcall := road_send.calls k b g l Al cl L L' f w0 w hw0 h hb hB0 hl hcl hs hS
 clear h hB0 hl hS
 go_enter Try.func7, Try.ntmps7
 go_wp2_with (go_at_call 29; refine hcall.mono ?_; rintro e' W1 ⟨rfl, hf, hbb⟩)
 refine bodyPost_ret (results_none rfl _ _ _) rfl ?_
 exact ⟨rfl, hf, hbb⟩
end Go.Proofs.Ytecfndblgefhdaa.P
namespace Go.Proofs.Ytecfndblgefhdaa.P
open Go.RowKit Go.Proofs.YtecfndblgefhdaaW.PrintWords Go.Proofs.YtecfndblgefhdaaW.PrintLast Go.Proofs.YtecfndblgefhdaaW.PrintMore
structure CI (b : Nat) (w : World) (g : Nat) (L : RS) (gp : Nat) (p : S93) (who : Nat) (vl v0 v1 vn vw vj vt : Value) (oy oc : Option Nat) (r : Option (Value × List ByteArray)) (W : World) : Prop where
 ev : ∃ f, RV b W g L f vl v0 v1 vn vw vj vt ∧ f gp = 9 ∧ (∀ gy, oy = some gy → f gy = 9) ∧ (∀ gc, oc = some gc → f gc = 9) ∧ (∀ v l, r = some (v, l) → Kd.Q Kd.string 9 W b (fun k => f k = who) v l)
 bp : W.heap[gp]? = some (.cells #[.int .i64 p.f0, .string p.f1] 93 (0, 0))
 ye : ∀ gy, oy = some gy → W.heap[gy]? = some (.cells #[.int .i64 0, .int .i64 0, .int .i64 0, .slice none 0 0, .int .i64 0] 26 (0, 0))
 ce : ∀ gc, oc = some gc → W.heap[gc]? = some (.cells #[.string ⟨#[]⟩, .bool false, .string ⟨#[]⟩, .bool false] 95 (0, 0))
 hb : Below b w W
 hs : b ≤ W.heap.size
 ly : ∀ gy, oy = some gy → b ≤ gy
 lc : ∀ gc, oc = some gc → b ≤ gc
section
variable {b g gp who : Nat} {w W W1 : World} {L : RS} {p : S93} {vl v0 v1 vn vw vj vt : Value} {oy oc : Option Nat} {r : Option (Value × List ByteArray)}
theorem CI.blk (h : CI b w g L gp p who vl v0 v1 vn vw vj vt oy oc r W) : W.heap[g]? = some (.cells (cellsR L vl v0 v1 vn vw vj vt) 39 (0, 0)) := by obtain ⟨f, h, _⟩ := h.ev; exact h.blk
theorem CI.step (h : CI b w g L gp p who vl v0 v1 vn vw vj vt oy oc r W) (hb : Below W.heap.size W W1) (i : Nat) :
  (∃ f, RV b W1 g L f vl v0 v1 vn vw vj vt ∧ f gp = 9 ∧ (∀ gy, oy = some gy → f gy = 9) ∧ (∀ gc, oc = some gc → f gc = 9) ∧ (∀ v l, r = some (v, l) → Kd.Q Kd.string 9 W1 b (fun k => f k = who) v l) ∧ (∀ k, W.heap.size ≤ k → f k = i)) ∧ Below b w W1 ∧ b ≤ W1.heap.size := by
 obtain ⟨f, he, hp, hy, hc, hq⟩ := h.ev
 refine ⟨⟨tagf f W.heap.size i, he.fresh hb i, (tag_old (blk_lt h.bp)).trans hp, fun gy e => (tag_old (blk_lt (h.ye gy e))).trans (hy gy e), fun gc e => (tag_old (blk_lt (h.ce gc e))).trans (hc gc e), fun v l e => Kd.Q_mono (Kd.Q_below (Kd.Q_bound (hq v l e)) hb) (fun k hk => z138_), fun k hk => by unfold tagf; rw [if_pos hk]⟩, h.hb.trans (hb.mono h.hs), Nat.le_trans h.hs hb.size⟩
theorem CI.drew (h : CI b w g L gp p who vl v0 v1 vn vw vj vt oy oc r W) : CI b w g L gp p who vl v0 v1 vn vw vj vt oy oc r W.drew := by
 obtain ⟨⟨f, he, hp, hy, hc, hq, _⟩, h2, h3⟩ := h.step (below_drew1 (Below.refl _ _)) 9
 exact ⟨⟨f, he, hp, hy, hc, hq⟩, blk_drew h.bp, fun gy e => blk_drew (h.ye gy e), fun gc e => blk_drew (h.ce gc e), h2, h3, h.ly, h.lc⟩
theorem CI.allocY (h : CI b w g L gp p who vl v0 v1 vn vw vj vt none oc r W) : CI b w g L gp p who vl v0 v1 vn vw vj vt (some W.heap.size) oc r (W.alloc (.cells #[.int .i64 0, .int .i64 0, .int .i64 0, .slice none 0 0, .int .i64 0] 26 (0, 0))) := by
 have hb := below_alloc (Below.refl W.heap.size W) (.cells #[.int .i64 0, .int .i64 0, .int .i64 0, .slice none 0 0, .int .i64 0] 26 (0, 0))
 obtain ⟨⟨f, he, hp, hy, hc, hq, hn⟩, h2, h3⟩ := h.step hb 9
 exact ⟨⟨f, he, hp, fun gy e => z147_, hc, hq⟩, blk_below h.bp hb, fun gy e => by rw [← Option.some.inj e]; exact blk_new W _, fun gc e => blk_below (h.ce gc e) hb, h2, h3, fun gy e => by rw [← Option.some.inj e]; exact h.hs, h.lc⟩
theorem CI.allocC (h : CI b w g L gp p who vl v0 v1 vn vw vj vt oy none r W) : CI b w g L gp p who vl v0 v1 vn vw vj vt oy (some W.heap.size) r (W.alloc (.cells #[.string ⟨#[]⟩, .bool false, .string ⟨#[]⟩, .bool false] 95 (0, 0))) := by
 have hb := below_alloc (Below.refl W.heap.size W) (.cells #[.string ⟨#[]⟩, .bool false, .string ⟨#[]⟩, .bool false] 95 (0, 0))
 obtain ⟨⟨f, he, hp, hy, hc, hq, hn⟩, h2, h3⟩ := h.step hb 9
 exact ⟨⟨f, he, hp, hy, fun gc e => z147_, hq⟩, blk_below h.bp hb, fun gy e => blk_below (h.ye gy e) hb, fun gc e => by rw [← Option.some.inj e]; exact blk_new W _, h2, h3, h.ly, fun gc e => by rw [← Option.some.inj e]; exact h.hs⟩
theorem CI.call0 (h : CI b w g L gp p 0 vl v0 v1 vn vw vj vt oy oc none W) (hb : Below W.heap.size W W1) {A : Option Addr} {c : Nat} {v : Value} {l1 : List ByteArray} (hv : v0 = .slice A L.x0.f3.length c) (ho : link_Take.Out W1 W.heap.size A c L.x0.f3 v l1) :
  CI b w g L gp p 0 vl v0 v1 vn vw vj vt oy oc (some (v, l1)) W1 := by
 obtain ⟨⟨f, he, hp, hy, hc, _, hn⟩, h2, h3⟩ := h.step hb 0
 refine ⟨⟨f, he, hp, hy, hc, fun v' l' e => ?_⟩, blk_below h.bp hb, fun gy e => blk_below (h.ye gy e) hb, fun gc e => blk_below (h.ce gc e) hb, h2, h3, h.ly, h.lc⟩
 simp only [Option.some.injEq, Prod.mk.injEq] at e
 obtain ⟨rfl, rfl⟩ := e
 rcases ho with ⟨rfl, rfl⟩ | ho
 ·rw [← hv]; exact he.h0
 ·exact Kd.Q_lower (Kd.Q_mono (Kd.Q_bound ho) (fun k hk => hn k hk.2.1)) h.hs
theorem CI.call1 (h : CI b w g L gp p 1 vl v0 v1 vn vw vj vt oy oc none W) (hb : Below W.heap.size W W1) {A : Option Addr} {c : Nat} {v : Value} {l1 : List ByteArray} (hv : v1 = .slice A L.x1.f3.length c) (ho : link_Take.Out W1 W.heap.size A c L.x1.f3 v l1) :
  CI b w g L gp p 1 vl v0 v1 vn vw vj vt oy oc (some (v, l1)) W1 := by
 obtain ⟨⟨f, he, hp, hy, hc, _, hn⟩, h2, h3⟩ := h.step hb 1
 refine ⟨⟨f, he, hp, hy, hc, fun v' l' e => ?_⟩, blk_below h.bp hb, fun gy e => blk_below (h.ye gy e) hb, fun gc e => blk_below (h.ce gc e) hb, h2, h3, h.ly, h.lc⟩
 simp only [Option.some.injEq, Prod.mk.injEq] at e
 obtain ⟨rfl, rfl⟩ := e
 rcases ho with ⟨rfl, rfl⟩ | ho
 ·rw [← hv]; exact he.h1
 ·exact Kd.Q_lower (Kd.Q_mono (Kd.Q_bound ho) (fun k hk => hn k hk.2.1)) h.hs
theorem CI.start {f : Nat → Nat} (h : RV b w g L f vl v0 v1 vn vw vj vt) (hs : b ≤ w.heap.size) (who : Nat) (p : S93) :
  CI b w g L w.heap.size p who vl v0 v1 vn vw vj vt none none none (w.alloc (.cells #[.int .i64 p.f0, .string p.f1] 93 (0, 0))) := by
 have hb := below_alloc (Below.refl w.heap.size w) (.cells #[.int .i64 p.f0, .string p.f1] 93 (0, 0))
 exact ⟨⟨tagf f w.heap.size 9, h.fresh hb 9, by unfold tagf; rw [if_pos (Nat.le_refl _)], (fun _ e => z148_), (fun _ e => z148_), (fun _ _ e => z148_)⟩, blk_new w _, (fun _ e => z148_), (fun _ e => z148_), hb.mono hs, Nat.le_trans hs hb.size, (fun _ e => z148_), (fun _ e => z148_)⟩
end
structure DI (b : Nat) (w : World) (g : Nat) (L : RS) (gp : Nat) (p : S93) (who : Nat) (vl v0 v1 vn vw vj vt : Value) (gy gc : Nat) (Y C : Array Value) (v : Value) (l : List ByteArray) (W : World) : Prop where
 ev : ∃ f, RV b W g L f vl v0 v1 vn vw vj vt ∧ f gp = 9 ∧ f gy = 9 ∧ f gc = 9 ∧ Kd.Q Kd.string 9 W b (fun k => f k = who) v l
 bp : W.heap[gp]? = some (.cells #[.int .i64 p.f0, .string p.f1] 93 (0, 0))
 ye : W.heap[gy]? = some (.cells Y 26 (0, 0))
 ce : W.heap[gc]? = some (.cells C 95 (0, 0))
 hb : Below b w W
 hs : b ≤ W.heap.size
 ly : b ≤ gy
 lc : b ≤ gc
section
variable {b g gp who gy gc : Nat} {w W W1 : World} {L : RS} {p : S93} {vl v0 v1 vn vw vj vt v : Value} {l : List ByteArray} {Y C Y1 C1 : Array Value}
theorem DI.blk (h : DI b w g L gp p who vl v0 v1 vn vw vj vt gy gc Y C v l W) : W.heap[g]? = some (.cells (cellsR L vl v0 v1 vn vw vj vt) 39 (0, 0)) := by obtain ⟨f, h, _⟩ := h.ev; exact h.blk
theorem DI.setY (h : DI b w g L gp p who vl v0 v1 vn vw vj vt gy gc Y C v l W) (hw : who < 9) (j : Nat) (u : Value) (e : Y.setIfInBounds j u = Y1) : DI b w g L gp p who vl v0 v1 vn vw vj vt gy gc Y1 C v l (W.setCell ⟨gy, j, none⟩ u) := by
 obtain ⟨f, he, h1, h2, h3, h4⟩ := h.ev
 refine ⟨⟨f, he.box h2 j u, h1, h2, h3, Kd.Q_far h4 (fun k hk e => by rw [show (⟨gy, j, none⟩ : Addr).block = gy from rfl] at e; subst e; omega) u⟩, blk_far h.bp (blk_ne h.bp h.ye z17_) u, blk_put h.ye j u e, blk_far h.ce (blk_ne h.ce h.ye z17_) u, h.hb.setCell h.ly u, z149_, h.ly, h.lc⟩
theorem DI.setC (h : DI b w g L gp p who vl v0 v1 vn vw vj vt gy gc Y C v l W) (hw : who < 9) (j : Nat) (u : Value) (e : C.setIfInBounds j u = C1) : DI b w g L gp p who vl v0 v1 vn vw vj vt gy gc Y C1 v l (W.setCell ⟨gc, j, none⟩ u) := by
 obtain ⟨f, he, h1, h2, h3, h4⟩ := h.ev
 refine ⟨⟨f, he.box h3 j u, h1, h2, h3, Kd.Q_far h4 (fun k hk e => by rw [show (⟨gc, j, none⟩ : Addr).block = gc from rfl] at e; subst e; omega) u⟩, blk_far h.bp (blk_ne h.bp h.ce z17_) u, blk_far h.ye (blk_ne h.ye h.ce z17_) u, blk_put h.ce j u e, h.hb.setCell h.lc u, z149_, h.ly, h.lc⟩
theorem DI.drew (h : DI b w g L gp p who vl v0 v1 vn vw vj vt gy gc Y C v l W) : DI b w g L gp p who vl v0 v1 vn vw vj vt gy gc Y C v l W.drew := by
 obtain ⟨f, he, h1, h2, h3, h4⟩ := h.ev
 exact ⟨⟨f, he.drew, h1, h2, h3, Kd.Q_drew h4⟩, blk_drew h.bp, blk_drew h.ye, blk_drew h.ce, below_drew h.hb, h.hs, h.ly, h.lc⟩
theorem DI.of (h : CI b w g L gp p who vl v0 v1 vn vw vj vt (some gy) (some gc) (some (v, l)) W) (ly : b ≤ gy) (lc : b ≤ gc) :
  DI b w g L gp p who vl v0 v1 vn vw vj vt gy gc #[.int .i64 0, .int .i64 0, .int .i64 0, .slice none 0 0, .int .i64 0] #[.string ⟨#[]⟩, .bool false, .string ⟨#[]⟩, .bool false] v l W := by
 obtain ⟨f, he, h1, h2, h3, h4⟩ := h.ev
 exact ⟨⟨f, he, h1, h2 _ rfl, h3 _ rfl, h4 _ _ rfl⟩, h.bp, h.ye _ rfl, h.ce _ rfl, h.hb, h.hs, ly, lc⟩
end
theorem DI.setX0 {b g gp gy gc : Nat} {w W : World} {L : RS} {p : S93} {vl v0 v1 vn vw vj vt v : Value} {l : List ByteArray} {Y C : Array Value} (h : DI b w g L gp p 0 vl v0 v1 vn vw vj vt gy gc Y C v l W) (x : S26) (hl : x.f3 = l) :
  DI b w g { L with x0 := x } gp p 0 vl v v1 vn vw vj vt gy gc Y C v l (((((W.setCell ⟨g, 2, none⟩ (.int .i64 x.f0)).setCell ⟨g, 3, none⟩ (.int .i64 x.f1)).setCell ⟨g, 4, none⟩ (.int .i64 x.f2)).setCell ⟨g, 5, none⟩ (v)).setCell ⟨g, 6, none⟩ (.int .i64 x.f4)) := by
 obtain ⟨f, he, h1, h2, h3, h4⟩ := h.ev
 have nb : ∀ k, f k = 9 → k ≠ g := fun k hk e => by rw [e, he.own] at hk; cases hk
 have nq : ∀ k, f k = 0 → k ≠ g := fun k hk e => by rw [e, he.own] at hk; cases hk
 refine ⟨⟨f, he.setX0 x (by rw [hl]; exact h4), h1, h2, h3, (Kd.Q_far (Kd.Q_far (Kd.Q_far (Kd.Q_far (Kd.Q_far h4 (p := ⟨g, 2, none⟩) nq _) (p := ⟨g, 3, none⟩) nq _) (p := ⟨g, 4, none⟩) nq _) (p := ⟨g, 5, none⟩) nq _) (p := ⟨g, 6, none⟩) nq _)⟩, ?_, ?_, ?_, (((((h.hb.setCell (p := ⟨g, 2, none⟩) he.low _).setCell (p := ⟨g, 3, none⟩) he.low _).setCell (p := ⟨g, 4, none⟩) he.low _).setCell (p := ⟨g, 5, none⟩) he.low _).setCell (p := ⟨g, 6, none⟩) he.low _), z149_, h.ly, h.lc⟩
 ·have nn := nb gp h1
  exact (blk_far (blk_far (blk_far (blk_far (blk_far h.bp (p := ⟨g, 2, none⟩) nn _) (p := ⟨g, 3, none⟩) nn _) (p := ⟨g, 4, none⟩) nn _) (p := ⟨g, 5, none⟩) nn _) (p := ⟨g, 6, none⟩) nn _)
 ·have nn := nb gy h2
  exact (blk_far (blk_far (blk_far (blk_far (blk_far h.ye (p := ⟨g, 2, none⟩) nn _) (p := ⟨g, 3, none⟩) nn _) (p := ⟨g, 4, none⟩) nn _) (p := ⟨g, 5, none⟩) nn _) (p := ⟨g, 6, none⟩) nn _)
 ·have nn := nb gc h3
  exact (blk_far (blk_far (blk_far (blk_far (blk_far h.ce (p := ⟨g, 2, none⟩) nn _) (p := ⟨g, 3, none⟩) nn _) (p := ⟨g, 4, none⟩) nn _) (p := ⟨g, 5, none⟩) nn _) (p := ⟨g, 6, none⟩) nn _)
theorem DI.setX1 {b g gp gy gc : Nat} {w W : World} {L : RS} {p : S93} {vl v0 v1 vn vw vj vt v : Value} {l : List ByteArray} {Y C : Array Value} (h : DI b w g L gp p 1 vl v0 v1 vn vw vj vt gy gc Y C v l W) (x : S26) (hl : x.f3 = l) :
  DI b w g { L with x1 := x } gp p 1 vl v0 v vn vw vj vt gy gc Y C v l (((((W.setCell ⟨g, 7, none⟩ (.int .i64 x.f0)).setCell ⟨g, 8, none⟩ (.int .i64 x.f1)).setCell ⟨g, 9, none⟩ (.int .i64 x.f2)).setCell ⟨g, 10, none⟩ (v)).setCell ⟨g, 11, none⟩ (.int .i64 x.f4)) := by
 obtain ⟨f, he, h1, h2, h3, h4⟩ := h.ev
 have nb : ∀ k, f k = 9 → k ≠ g := fun k hk e => by rw [e, he.own] at hk; cases hk
 have nq : ∀ k, f k = 1 → k ≠ g := fun k hk e => by rw [e, he.own] at hk; cases hk
 refine ⟨⟨f, he.setX1 x (by rw [hl]; exact h4), h1, h2, h3, (Kd.Q_far (Kd.Q_far (Kd.Q_far (Kd.Q_far (Kd.Q_far h4 (p := ⟨g, 7, none⟩) nq _) (p := ⟨g, 8, none⟩) nq _) (p := ⟨g, 9, none⟩) nq _) (p := ⟨g, 10, none⟩) nq _) (p := ⟨g, 11, none⟩) nq _)⟩, ?_, ?_, ?_, (((((h.hb.setCell (p := ⟨g, 7, none⟩) he.low _).setCell (p := ⟨g, 8, none⟩) he.low _).setCell (p := ⟨g, 9, none⟩) he.low _).setCell (p := ⟨g, 10, none⟩) he.low _).setCell (p := ⟨g, 11, none⟩) he.low _), z149_, h.ly, h.lc⟩
 ·have nn := nb gp h1
  exact (blk_far (blk_far (blk_far (blk_far (blk_far h.bp (p := ⟨g, 7, none⟩) nn _) (p := ⟨g, 8, none⟩) nn _) (p := ⟨g, 9, none⟩) nn _) (p := ⟨g, 10, none⟩) nn _) (p := ⟨g, 11, none⟩) nn _)
 ·have nn := nb gy h2
  exact (blk_far (blk_far (blk_far (blk_far (blk_far h.ye (p := ⟨g, 7, none⟩) nn _) (p := ⟨g, 8, none⟩) nn _) (p := ⟨g, 9, none⟩) nn _) (p := ⟨g, 10, none⟩) nn _) (p := ⟨g, 11, none⟩) nn _)
 ·have nn := nb gc h3
  exact (blk_far (blk_far (blk_far (blk_far (blk_far h.ce (p := ⟨g, 7, none⟩) nn _) (p := ⟨g, 8, none⟩) nn _) (p := ⟨g, 9, none⟩) nn _) (p := ⟨g, 10, none⟩) nn _) (p := ⟨g, 11, none⟩) nn _)
theorem link_Take.Out_open {w W : World} {base : Nat} {A : Option Addr} {c : Nat} {l l1 : List ByteArray} {v : Value} (h : link_Take.Out W base A c l v l1) (hr : Kd.C Kd.string w A l.length l) (hc : l.length ≤ c) (hb : Below w.heap.size w W) :
  ∃ A1 c1, v = .slice A1 l1.length c1 ∧ l1.length ≤ c1 ∧ Kd.C Kd.string W A1 l1.length l1 := by
 rcases h with ⟨rfl, rfl⟩ | h
 ·exact ⟨A, c, rfl, hc, Kd.C_below hr hb⟩
 ·obtain ⟨A1, c1, rfl, _⟩ := Kd.Q_slice h
  have := Kd.Q_reads' h
  exact ⟨A1, c1, rfl, z2_, this.2.2⟩
end Go.Proofs.Ytecfndblgefhdaa.P
