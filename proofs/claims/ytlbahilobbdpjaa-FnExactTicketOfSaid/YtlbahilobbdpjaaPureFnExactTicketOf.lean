/- The pure statement of FnExactTicketOf: for all four numbers the program's ticket is the reference's. -/
import Derived.Test.YtlbahilobbdpjaaQf4
import Derived.Test.YtlbahilobbdpjaaOTicket
namespace Go.Proofs.Ytlbahilobbdpjaa.Pure
open Go.RowKit Go.Proofs.Ytlbahilobbdpjaa.Q Go.Proofs.YtlbahilobbdpjaaW.PrintWords Go.Proofs.YtlbahilobbdpjaaW.PrintLast

theorem ticket_law (k : Nat) (hk : 4 < k) (a0 a1 a2 a3 : Int) : laws_FnExactTicketOf.f k a0 a1 a2 a3 = some true :=
  eq_then _ _ _ (spec_ticket a0 a1 a2 a3 k hk) (impl_ticket a0 a1 a2 a3 k hk)
theorem FnExactTicketOf : laws_FnExactTicketOf.Pure := fun a0 a1 a2 a3 _ _ _ _ => ⟨5, ticket_law 5 (by omega) a0 a1 a2 a3⟩

end Go.Proofs.Ytlbahilobbdpjaa.Pure
