/- Plain laws of tickets: the program's and the reference's ticket are one hash. Conditions: enough rounds. -/
import Derived.Test.YtlbahilobbdpjaaOMix
import Derived.Test.YtlbahilobbdpjaaQf18
import Derived.Test.YtlbahilobbdpjaaQf17
namespace Go.Proofs.Ytlbahilobbdpjaa.Pure
open Go.RowKit Go.Proofs.Ytlbahilobbdpjaa.Q Go.Proofs.YtlbahilobbdpjaaW.PrintWords Go.Proofs.YtlbahilobbdpjaaW.PrintLast

theorem four_short (a b c d : Int) : (([a, b, c, d] : List Int).length : Int) ≤ 9223372036854775807 := by
  simp only [List.length_cons, List.length_nil]; omega
theorem spec_ticket (a0 a1 a2 a3 : Int) (k : Nat) (hk : 4 < k) : spec_TicketOf.f k a0 a1 a2 a3 = some (hash [a2, a3, a0, a1]) := by
  unfold spec_TicketOf.f spec_l07Ticket.f
  rw [spec_Mix_hash _ (four_short a2 a3 a0 a1) k hk]
  simp only [Option.bind_some]
theorem impl_ticket (a0 a1 a2 a3 : Int) (k : Nat) (hk : 4 < k) : impl_TicketOf.f k a0 a1 a2 a3 = some (hash [a2, a3, a0, a1]) := by
  unfold impl_TicketOf.f
  rw [impl_Mix_hash _ (four_short a2 a3 a0 a1) k hk]
  simp only [Option.bind_some]

end Go.Proofs.Ytlbahilobbdpjaa.Pure
