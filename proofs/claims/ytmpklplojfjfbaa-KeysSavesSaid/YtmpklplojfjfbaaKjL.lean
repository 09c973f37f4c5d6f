/- A ledger handed out: the walk of Ledger. Condition: bounds. -/
import Derived.Test.YtmpklplojfjfbaaKeX
import Derived.Test.YtmpklplojfjfbaaKeZ
namespace Go.Proofs.Ytmpklplojfjfbaa
open Go.RowKit Go.Lib



set_option maxRecDepth 100000 in
set_option maxHeartbeats 2000000 in
theorem ledger_any {w : World} {B : Nat} {F : Nat → Prop} {br mb h : Nat} {s : D8} {pt : Value} {L : List D8} (l : LedAt w B F br mb s h pt L) (hL : L.length ≤ 1000) :
    Calls Try.prog 48 #[.pointer (some ⟨br, 0, none⟩)] w fun e w' => ∃ A c, e = .returned (.slice A L.length c) ∧ w'.ownsRow w.heap.size 29 8 (.slice A L.length c) L.length (flatD L) ∧ Below w.heap.size w w' := by
  obtain ⟨A, c, hb, ho, hg⟩ := l.cells
  obtain ⟨yf, y0, y1, y2, y3, y4, y5, y6, y7, y8, y9, y10, y11⟩ := freeR hb
  have hpb := block_lt hb
  have Hr := Lib.hid (Rd.of_own ho)
  have Hc := Lib.hid (sdclone_any L A L.length c w Hr.out (by omega))
  clear yf y0 y1 y2 y3 y4 y5 y6 y7 y8 y9 y11 ho hg hb
  go_enter Try.func48, Try.ntmps48
  go_wp2_with fail
  refine Hc.out.mono ?_
  rintro r w1 ⟨A', c', rfl, ho, hb⟩
  have Ho := Lib.hid ho; have Hb := Lib.hid hb
  clear ho hb
  go_wp2
  go_ret
  exact ⟨A', c', rfl, Ho.out, Hb.out⟩
end Go.Proofs.Ytmpklplojfjfbaa
