/- OctetRoundTrip: the walk, its four ways joined. -/
import Derived.Test.YtcanmfkocbnbfaaWf1
import Derived.Test.YtcanmfkocbnbfaaWf2
import Derived.Test.YtcanmfkocbnbfaaWf3
import Derived.Test.YtcanmfkocbnbfaaWf4
set_option linter.unusedVariables false
namespace Go.Proofs.Ytcanmfkocbnbfaa
open Go.RowKit
namespace octetRoundTrip
theorem walk (o : Option Addr) (zs : List Int) (n cap : Nat) (o2 : Option Addr) (ss : List ByteArray) (n2 cap2 : Nat) (w : World) (w0 : n * 8 ≤ 140737488351232) (hn : zs.length = n) (hcap : n ≤ cap) 
    (hc : Has o zs w) (hwf : ∀ z ∈ zs, (Lit.int .i64 z).wf = true) (w1 : n2 * 16 ≤ 140737488351232) (hn2 : ss.length = n2) (hcap2 : n2 ≤ cap2) (hc2 : HasS o2 ss w) (hws : ∀ s ∈ ss, s.size ≤ maxLen) :
    Calls Try.prog 11 #[.slice o n cap, .slice o2 n2 cap2] w fun e w' => e = .returned (.bool true) ∧ Below w.heap.size w w' := by
  by_cases h1 : n ≤ 30 <;> by_cases h2 : n2 ≤ 10
  · exact walk1 o zs n cap o2 ss n2 cap2 w w0 hn hcap hc hwf w1 hn2 hcap2 hc2 hws n n2 (Nat.le_refl _) h1 (Nat.le_refl _) (Nat.le_refl _) h2 (Nat.le_refl _)
  · exact walk2 o zs n cap o2 ss n2 cap2 w w0 hn hcap hc hwf w1 hn2 hcap2 hc2 hws n 10 (Nat.le_refl _) h1 (Nat.le_refl _) (by omega) (Nat.le_refl _) (by omega) (Nat.le_refl _)
  · exact walk3 o zs n cap o2 ss n2 cap2 w w0 hn hcap hc hwf w1 hn2 hcap2 hc2 hws 30 n2 (by omega) (Nat.le_refl _) (by omega) (Nat.le_refl _) (Nat.le_refl _) h2 (Nat.le_refl _)
  · exact walk4 o zs n cap o2 ss n2 cap2 w w0 hn hcap hc hwf w1 hn2 hcap2 hc2 hws 30 10 (by omega) (Nat.le_refl _) (by omega) (Nat.le_refl _) (by omega) (Nat.le_refl _) (by omega) (Nat.le_refl _)
end octetRoundTrip
end Go.Proofs.Ytcanmfkocbnbfaa
