/- Plain words, digests and their mixing: no program in sight. -/
namespace Sd

/-- Turned to the left. -/
def rot (x : UInt32) (n : Nat) : UInt32 := UInt32.ofNat (x.toNat * 2 ^ n % 4294967296 + x.toNat / 2 ^ (32 - n))

/-- A digest: four words. -/
structure Dg where
  a : UInt32
  b : UInt32
  c : UInt32
  d : UInt32

theorem Dg.ext_iff' {x y : Dg} : x = y ↔ x.a = y.a ∧ x.b = y.b ∧ x.c = y.c ∧ x.d = y.d := by
  cases x; cases y; simp

instance : DecidableEq Dg := fun x y => decidable_of_iff (x.a = y.a ∧ x.b = y.b ∧ x.c = y.c ∧ x.d = y.d) Dg.ext_iff'.symm

def Dg.zero : Dg := ⟨0, 0, 0, 0⟩

/-- A state: eight words. -/
structure St where
  a : UInt32
  b : UInt32
  c : UInt32
  d : UInt32
  e : UInt32
  f : UInt32
  g : UInt32
  h : UInt32

def St.q0 (s : St) : St := { s with a := s.a + s.e, e := rot (s.e ^^^ (s.a + s.e)) 7 }
def St.q1 (s : St) : St := { s with b := s.b + s.f, f := rot (s.f ^^^ (s.b + s.f)) 9 }
def St.q2 (s : St) : St := { s with c := s.c + s.g, g := rot (s.g ^^^ (s.c + s.g)) 13 }
def St.q3 (s : St) : St := { s with d := s.d + s.h, h := rot (s.h ^^^ (s.d + s.h)) 18 }
def St.swap (s : St) : St := ⟨s.d, s.e, s.f, s.g, s.h, s.a, s.b, s.c⟩
def St.add (s : St) (r : Nat) : St := { s with a := s.a + 2654435769 * UInt32.ofNat (r + 1) }
def St.round (s : St) (r : Nat) : St := (s.add r).q0.q1.q2.q3.swap
/-- k rounds. -/
def St.rounds (s : St) : Nat → St
  | 0 => s
  | k + 1 => (s.rounds k).round k
def St.mix (s : St) : St := s.rounds 8
def St.xor (s : St) (d : Dg) : St := { s with a := s.a ^^^ d.a, b := s.b ^^^ d.b, c := s.c ^^^ d.c, d := s.d ^^^ d.d }
def St.take (s : St) (d : Dg) : St := (s.xor d).mix
def St.out (s : St) : Dg := ⟨s.a, s.b, s.c, s.d⟩
def St.first (x : UInt32) : St := ⟨x, 0, 0, 0, 0, 0, 0, 0⟩

def pair (a b : Dg) : Dg := (((St.first 2).take a).take b).out

/-- Four words a block. -/
def St.takes (s : St) : List UInt32 → St
  | x :: y :: z :: u :: l => (s.take ⟨x, y, z, u⟩).takes l
  | _ => s

/-- The lowest byte first. -/
def le (x : UInt32) : List UInt8 := [UInt8.ofNat (x.toNat % 256), UInt8.ofNat (x.toNat / 256 % 256), UInt8.ofNat (x.toNat / 65536 % 256), UInt8.ofNat (x.toNat / 16777216 % 256)]
def wbytes (l : List UInt32) : List UInt8 := l.flatMap le
def word (x y z u : UInt8) : UInt32 := UInt32.ofNat (x.toNat + y.toNat * 256 + z.toNat * 65536 + u.toNat * 16777216)
def words : List UInt8 → List UInt32
  | x :: y :: z :: u :: l => word x y z u :: words l
  | _ => []

def zeros (n : Nat) : Nat := (24 - (n + 1) % 16) % 16
def padded (s : List UInt8) : List UInt8 := s ++ 128 :: List.replicate (zeros s.length) 0
def ends (n : Nat) : List UInt32 := [UInt32.ofNat n, UInt32.ofNat (n / 4294967296)]
def of (s : List UInt8) : Dg := ((St.first 1).takes (words (padded s) ++ ends s.length)).out

end Sd
