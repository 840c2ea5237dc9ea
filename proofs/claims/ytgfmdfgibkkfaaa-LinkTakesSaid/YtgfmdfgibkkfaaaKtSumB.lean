import Derived.Test.YtgfmdfgibkkfaaaKtSum
import Derived.Test.YtgfmdfgibkkfaaaKtConv
set_option linter.unusedVariables false
set_option linter.unusedSimpArgs false
namespace Go.Proofs.Ytgfmdfgibkkfaaa.Sum
open Go.RowKit Go.Proofs.Ytgfmdfgibkkfaaa.P Go.Proofs.Ytgfmdfgibkkfaaa.Core Go.Proofs.Ytgfmdfgibkkfaaa.Crc Go.Proofs.Ytgfmdfgibkkfaaa.Conv Go.Proofs.YtgfmdfgibkkfaaaW.PrintWords Go.Proofs.YtgfmdfgibkkfaaaW.PrintLast Go.Proofs.YtgfmdfgibkkfaaaW.PrintMore
theorem rightS_mk (l m : List UInt8) (hm : m.length = 4) : rightS (mk (l ++ m)) = (num m == crc 0 (mk l)) := by
  have hx : (mk (l ++ m)).extract 0 l.length = mk l := by
    rw [← mk_append]
    exact ByteArray.extract_append_eq_left (by rw [mk_size])
  unfold rightS
  rw [mk_size, List.length_append, hm, show l.length + 4 - 4 = l.length from by omega, mk_data, List.drop_left, hx, decide_eq_true (by omega), Bool.true_and]
end Go.Proofs.Ytgfmdfgibkkfaaa.Sum
