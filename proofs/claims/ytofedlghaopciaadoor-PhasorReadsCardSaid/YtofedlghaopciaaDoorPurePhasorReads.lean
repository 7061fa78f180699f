/- PhasorReads: what Read takes, Text writes as it was. -/
import Derived.Test.YtofedlghaopciaaDoorPhasorTP
import Derived.Test.YtofedlghaopciaaDoorPPx5
set_option linter.unusedVariables false
set_option linter.unusedSimpArgs false
namespace Go.Proofs.YtofedlghaopciaaDoor.Pure
open Go.RowKit Go.Proofs.YtofedlghaopciaaDoor.PP Go.Proofs.YtofedlghaopciaaDoor.PureP Go.Proofs.YtofedlghaopciaaDoor.Num Go.Proofs.YtofedlghaopciaaDoor.Flt Go.Proofs.YtofedlghaopciaaDoor.Dig Go.Proofs.YtofedlghaopciaaDoor.Sign Go.Proofs.YtofedlghaopciaaDoorW.PrintWords Go.Proofs.YtofedlghaopciaaDoorW.PrintLast Go.Proofs.YtofedlghaopciaaDoorW.PrintMore
theorem PhasorReads : pylonlaw02_PhasorReads.Pure := by
  intro s hs
  obtain ⟨l, rfl⟩ : ∃ l : List UInt8, s = ⟨l.toArray⟩ := ⟨s.data.toList, rfl⟩
  rw [sz_mk] at hs
  apply ev_ex
  unfold pylonlaw02_PhasorReads.f
  simp only [awake_ok, Option.bind_some, if_true]
  have no : Ev (fun k => (phasor_Read.f k ⟨l.toArray⟩)) (cx 0 0, 1) → Ev (fun k => (phasor_Read.f k ⟨l.toArray⟩).bind fun bt192 => (if bt192.2 = 0 then ((phasor_Text.f bt192.1).bind fun bt194 => (if bt194.2 = 0 then (if bt194.1.toList = (ByteArray.mk l.toArray).toList then ((phasor_Fits.f bt192.1).bind fun t196 => (some t196)) else (some false)) else (some false))) else (if bt192.2 = 1 then (some (ceq bt192.1.re bt192.1.im 0 0)) else (some false)))) true := fun h => by
    refine Ev.bind h ?_
    simp only [show ¬ (1 : Int) = 0 by omega, if_false, if_true]
    rw [ceq_is is_zero is_zero is_zero is_zero]
    exact Ev.now _
  by_cases c : lastAny l < 1
  · exact no (pread_no l (by omega) c)
  · have hr := lastAny_range l
    obtain ⟨n, hn⟩ : ∃ n : Nat, lastAny l = n := ⟨(lastAny l).toNat, by omega⟩
    obtain ⟨z, e, a, b, ho, h1, h2, h3, h4⟩ := of_any (readA (l.take n)).1 (readA (ts (tp (l.drop n)))).1
    have hR := pread_yes l (by omega) hn (by omega) (by omega) ho h1 h2
    by_cases d : (readA (l.take n)).2 = 0 ∧ (readA (ts (tp (l.drop n)))).2 = 0 ∧ e = 0 ∧ txt a b = l
    · rw [if_pos d] at hR
      refine Ev.bind hR ?_
      simp only [if_true]
      rw [ptext_f h2 h1]
      simp only [Option.bind_some, if_true, list_mk, d.2.2.2]
      rw [fits_yes h2 h1]
      exact Ev.now _
    · rw [if_neg d] at hR
      exact no hR
end Go.Proofs.YtofedlghaopciaaDoor.Pure
