/-
  The walk of script.action, at every text. Conditions: the text is at most a billion bytes long; the library's variables read as laid.
-/
import Derived.Test.YtgajoiijebbagaaGreatDoorSAct4
import Derived.Test.YtgajoiijebbagaaGreatDoorSAct5
import Derived.Test.YtgajoiijebbagaaGreatDoorSAct6
import Derived.Test.YtgajoiijebbagaaGreatDoorSAct7
import Derived.Test.YtgajoiijebbagaaGreatDoorSAct8
namespace Go.Proofs.YtgajoiijebbagaaGreatDoor
open Go.RowKit Go.Proofs

/-- script.action: the valid action whose line the text is, if there is one. -/
theorem action_any (x : Pa.Bs) (w : World) (ok : Ok w) (hx : x.length ≤ 1000000000) : Calls Tryz.prog 39 #[.string ⟨x.toArray⟩] w (AOut x w) := by
  by_cases h8 : 8000 < x.length
  · exact act_long x w hx h8
  cases hs : Pa.splitC 32 x with
  | nil => exact absurd hs (Pa.splitC_ne 32 x)
  | cons v r =>
    by_cases n1 : v = Pa.w_call
    · subst n1; exact act_call x r w ok (by omega) hs
    by_cases n2 : v = Pa.w_tick
    · subst n2; exact act_tick x r w ok (by omega) hs
    by_cases n3 : v = Pa.w_fates
    · subst n3; exact act_fates x r w ok (by omega) hs
    by_cases n4 : v = Pa.w_frame
    · subst n4; exact act_frame x r w ok (by omega) hs
    exact act_other x v n1 n2 n3 n4 r w ok (by omega) hs

end Go.Proofs.YtgajoiijebbagaaGreatDoor
