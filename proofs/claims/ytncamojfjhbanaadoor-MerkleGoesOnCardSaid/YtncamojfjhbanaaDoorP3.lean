/- Plain one-time signatures and trees of keys: no program in sight. -/
import Derived.Test.YtncamojfjhbanaaDoorP2
namespace Sd

def digitsW (x : UInt32) : List Nat := [x.toNat / 268435456 % 16, x.toNat / 16777216 % 16, x.toNat / 1048576 % 16, x.toNat / 65536 % 16, x.toNat / 4096 % 16, x.toNat / 256 % 16, x.toNat / 16 % 16, x.toNat % 16]
def digits (m : Dg) : List Nat := digitsW m.a ++ (digitsW m.b ++ (digitsW m.c ++ digitsW m.d))
/-- What lacks to 15. -/
def lacks : List Nat → Nat
  | [] => 0
  | n :: l => lacks l + (15 - n)
def steps (m : Dg) : List Nat := digits m ++ [lacks (digits m) / 256 % 16, lacks (digits m) / 16 % 16, lacks (digits m) % 16]

/-- So many steps from a value. -/
def walk (x : Dg) : Nat → Dg
  | 0 => x
  | n + 1 => pair (walk x n) ⟨0, 0, 0, 1⟩
def start (seed : Dg) (i : Nat) : Dg := pair seed ⟨UInt32.ofNat i, 0, 0, 0⟩
def tied (k : Dg) (l : List Dg) : Dg := l.foldl pair k
def ended (l : List Dg) : Dg := tied ⟨35, 0, 0, 0⟩ l
def lone (seed : Dg) : Dg := ended ((List.range 35).map fun i => walk (start seed i) 15)
def signed (seed msg : Dg) : List Dg := (List.range 35).map fun i => walk (start seed i) ((steps msg).getD i 0)
def reach (msg : Dg) (s : List Dg) : Dg := ended ((List.range 35).map fun i => walk (s.getD i Dg.zero) (15 - (steps msg).getD i 0))

/-- Does the other one show what lies ahead at a chain? -/
def aheadAt (a : Dg) (s : List Dg) (b : Dg) (t : List Dg) (i : Nat) : Bool :=
  decide ((steps b).getD i 0 < (steps a).getD i 0) && decide (walk (t.getD i Dg.zero) ((steps a).getD i 0 - (steps b).getD i 0) = s.getD i Dg.zero)

def seedAt (seed : Dg) (i : Nat) : Dg := of (107 :: wbytes [seed.a, seed.b, seed.c, seed.d, UInt32.ofNat i])
def publics (seed : Dg) (n : Nat) : List Dg := (List.range n).map fun i => lone (seedAt seed i)

/-! Two unlike messages: one chain of each goes on beyond the other's. -/

end Sd
