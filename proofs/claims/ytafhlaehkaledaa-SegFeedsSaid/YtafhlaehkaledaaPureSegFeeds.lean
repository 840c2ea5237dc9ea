/- Whatever has come, and whatever piece comes, what has come then, and the text, are what the document says. -/
import Derived.Test.YtafhlaehkaledaaPx1
import Derived.Test.YtafhlaehkaledaaPx2
import Derived.Test.YtafhlaehkaledaaPx3
import Derived.Test.YtafhlaehkaledaaPx4
import Derived.Test.YtafhlaehkaledaaPx5
import Derived.Test.YtafhlaehkaledaaSegF
namespace Go.Proofs.Ytafhlaehkaledaa.Pure
open Go.RowKit Go.Proofs.Ytafhlaehkaledaa.P Go.Proofs.Ytafhlaehkaledaa.Core Go.Proofs.Ytafhlaehkaledaa.Oct Go.Proofs.Ytafhlaehkaledaa.Seg Go.Proofs.YtafhlaehkaledaaW.PrintWords Go.Proofs.YtafhlaehkaledaaW.PrintLast Go.Proofs.YtafhlaehkaledaaW.PrintMore
set_option linter.unusedVariables false
set_option linter.unusedSimpArgs false

theorem feeds (of : Int) (l : List ByteArray) (p : ByteArray) (k : Nat) (b : Bool) (x : Fed) (h1 : counterfoilref01_Small.f k l 300 16384 = some b) (h2 : b = true → seg_Feed.f k of l p = some x) (h3 : b = true → counterfoilref14_Feed.f k of l p = some x) (h4 : b = true → counterfoilref01_Same.f k x.2.1 x.2.1 = some true)
    (ha : counterfoillaw14_awake.f k = some true) : counterfoillaw14_SegFeeds.f k of l p = some true := by
  unfold counterfoillaw14_SegFeeds.f
  rw [h1]
  simp only [Option.bind_some]
  cases b with
  | false => rw [if_neg (by decide), ha]; rfl
  | true =>
    rw [if_pos rfl, h2 rfl, h3 rfl]
    simp only [Option.bind_some]
    rw [if_pos trivial, h4 rfl]
    simp [ha]
theorem SegFeeds : counterfoillaw14_SegFeeds.Pure := by
  intro of l p hof hl hp
  obtain ⟨h1, h2, h3⟩ := hl
  refine ⟨400001, ?_⟩
  have hsm := small_eq l 300 16384 (by decide) h3 (by omega) (k := 400001) (by decide)
  refine feeds of l p 400001 _ (feedS of l p) hsm (fun hb => ?_) (fun hb => ?_) (fun hb => ?_) (awake_eq (by decide))
  all_goals have hb2 := of_decide_eq_true hb
  · exact feed_eq of l p (by omega) (by omega) (by decide)
  · exact rfeed_eq of l p (by omega) (by omega) 400000 (by decide)
  · have hb3 := feed_bound of l p
    rw [same_eq _ _ (by omega) (by omega)]; simp
end Go.Proofs.Ytafhlaehkaledaa.Pure
