/- What the laws of layer 5 share. -/
import Derived.Test.YtfdjbnofcniodaaGreatDoorTabAwake
import Derived.Test.YtfdjbnofcniodaaGreatDoorRefAll
namespace Go.Proofs.YtfdjbnofcniodaaGreatDoor
set_option linter.unusedVariables false
open Go.RowKit

theorem sane_wf {r : Rs} (h : saneR r = 0) : wfK r.key := by
  obtain ⟨hk, hn, -⟩ := (sane_iff r).1 h
  refine ⟨⟨by show (-9223372036854775808 : Int) ≤ r.kind; omega, by show r.kind ≤ 9223372036854775807; omega⟩, ?_⟩
  show r.name.size ≤ maxLen
  have := (sane_len hn).2
  rw [tx_len] at this
  unfold maxLen; omega
theorem saneT_all {l : List Rs} (h : saneT l = 0) : l.length ≤ 64 ∧ (∀ x ∈ l, saneR x = 0) ∧ Srt l ∧ portsOk l = true := by
  unfold saneT at h
  split at h
  · cases h
  split at h
  · rename_i h1; exact absurd h h1
  split at h
  · cases h
  split at h
  · cases h
  rename_i h1 h2 h3 h4
  exact ⟨by omega, (firstE_zero _ _).1 (Classical.not_not.1 h2), (ordB_iff l).1 (by simpa using h3), by simpa using h4⟩
theorem gone_back {a b : List Rs} (ha : Srt a) (hb : Srt b) {k : Ky} (hk : k ∈ goneT a b) : (getT (addsT b a) k).isSome = true := by
  obtain ⟨h1, h2⟩ := mem_goneT.1 hk
  obtain ⟨x, hx, rfl⟩ := List.mem_map.1 h1
  have hm : x ∈ addsT b a := (mem_addsT hb).2 ⟨hx, fun h => h2 (List.mem_map.2 ⟨x, h, rfl⟩)⟩
  have hs : Srt (addsT b a) := ha.filter _
  rw [getT_of hs hm]; rfl
end Go.Proofs.YtfdjbnofcniodaaGreatDoor
