import Derived.Test.YtpbhdblkjabdlaaPre
import GoSem.Op.String
import GoSem.Core.Utf8
namespace Go.Proofs.Ytpbhdblkjabdlaa
def cutS (s : ByteArray) (a b : Int) : Option ByteArray := if 0 ≤ a ∧ a ≤ b ∧ b ≤ (s.size : Int) then some (s.extract a.toNat b.toNat) else none
def ltS (s t : ByteArray) : Bool := Op.bytesLess s.toList t.toList
def eqS (s t : ByteArray) : Bool := s.toList == t.toList
def rnS (s : ByteArray) (i : Int) : Int := ((Utf8.decode s i.toNat).1 : Nat)
def nxS (s : ByteArray) (i : Int) : Int := if i < (s.size : Int) then i + ((Utf8.decode s i.toNat).2 : Nat) else i
end Go.Proofs.Ytpbhdblkjabdlaa
