/- Plain: how long a frame's bytes are. -/
import Derived.Test.YtepifkmileilfaaGreatDoorFrPlainAll
namespace Go.Proofs.YtepifkmileilfaaGreatDoor
set_option linter.unusedVariables false
theorem putM_len (m : Ky × Int) : (putM m).length ≤ 27 := by
  unfold putM; rw [List.length_append]
  have h1 := putK_len m.1; have h2 := enc_len (bnd m.2); omega
theorem putF_le (f : Fr) : (putF f).length ≤ 120000 := by
  unfold putF
  split
  · rename_i h
    have hl : f.hav.length ≤ 64 := by
      have hs := ((saneF_iff f).1 h).small
      unfold smallF at hs
      simp only [Bool.and_eq_true, decide_eq_true_eq] at hs
      omega
    unfold putF0
    rw [List.length_append, List.length_append]
    have h1 := enc_len (bnd f.typ); have h2 := enc_len (bnd f.epoch)
    have h3 : (putFB f).length ≤ 110000 := by
      unfold putFB
      have k1 := enc_len (bnd f.kind); have k2 := enc_len (bnd f.nonce); have k3 := enc_len (bnd f.err); have k4 := enc_len (bnd f.turn)
      have k5 := putAll_len f.adds; have k6 := putKeys_len f.gone; have k7 := putKeys_len f.held
      split
      · rw [List.length_append]
        have k8 := enc_len f.hav.length
        have k9 := flatMap_len putM 27 f.hav (fun m _ => putM_len m)
        have : f.hav.length * 27 ≤ 1728 := by omega
        omega
      split
      · simp only [List.length_append]; omega
      split
      · simp only [List.length_append]; omega
      · simp only [List.length_append]; omega
    omega
  · simp
end Go.Proofs.YtepifkmileilfaaGreatDoor
