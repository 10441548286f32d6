/- hmac: Tag, Right; awake. -/
import Derived.Test.YtfmfpckpldlahaaDoorHmR
import Derived.Test.YtfmfpckpldlahaaDoorLit
namespace Go.Proofs.YtfmfpckpldlahaaDoor
open Go.RowKit Go.Proofs.YtfmfpckpldlahaaDoor.Pure

def tagF (key text : List UInt8) : List UInt8 := (hmacF key text).take 32
theorem tagF_len (key text : List UInt8) : (tagF key text).length = 32 := by unfold tagF; rw [List.length_take, hmacF_len]; rfl
theorem tag_copy (key text : List UInt8) (z : Value) : splice (List.replicate 32 z) 0 ((tagF key text).map bV) = (tagF key text).map bV := splice_all _ _ (by rw [List.length_map, tagF_len, List.length_replicate])



end Go.Proofs.YtfmfpckpldlahaaDoor
