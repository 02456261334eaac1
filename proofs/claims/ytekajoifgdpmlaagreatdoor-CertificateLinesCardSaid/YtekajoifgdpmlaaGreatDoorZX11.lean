/- What the law's walk stands on besides the bundles. -/
import Derived.Test.YtekajoifgdpmlaaGreatDoorZ1
import Derived.Test.YtekajoifgdpmlaaGreatDoorZ2
import Derived.Test.YtekajoifgdpmlaaGreatDoorZ3
import Derived.Test.YtekajoifgdpmlaaGreatDoorZ4
import Derived.Test.YtekajoifgdpmlaaGreatDoorZ5
import Derived.Test.YtekajoifgdpmlaaGreatDoorZ6
import Derived.Test.YtekajoifgdpmlaaGreatDoorZ7
import Derived.Test.YtekajoifgdpmlaaGreatDoorZ8
import Derived.Test.YtekajoifgdpmlaaGreatDoorZ9
import Derived.Test.YtekajoifgdpmlaaGreatDoorZ10
import Derived.Test.YtekajoifgdpmlaaGreatDoorZ11
import Derived.Test.YtekajoifgdpmlaaGreatDoorZ12
import Derived.Test.YtekajoifgdpmlaaGreatDoorZ13
import Derived.Test.YtekajoifgdpmlaaGreatDoorZ14
import Derived.Test.YtekajoifgdpmlaaGreatDoorZ15
import Derived.Test.YtekajoifgdpmlaaGreatDoorZ16
import Derived.Test.YtekajoifgdpmlaaGreatDoorZ17
import Derived.Test.YtekajoifgdpmlaaGreatDoorZ18
import Derived.Test.YtekajoifgdpmlaaGreatDoorZ19
import Derived.Test.YtekajoifgdpmlaaGreatDoorZ20
import Derived.Test.YtekajoifgdpmlaaGreatDoorZ21
import Derived.Test.YtekajoifgdpmlaaGreatDoorZ22
/-! T17 -/
namespace Go.Proofs.YtekajoifgdpmlaaGreatDoor
open Go.RowKit Pl Go.Shelf

theorem byte_of {s : List UInt8} {k : Nat} {c : UInt8} (h : s[k]? = some c) : ∀ hh, (⟨s.toArray⟩ : ByteArray)[k]'hh = c := fun hh => by
  obtain ⟨h1, h2⟩ := List.getElem?_eq_some_iff.1 h
  exact h2
end Go.Proofs.YtekajoifgdpmlaaGreatDoor
