/- Plain one-time signatures and trees of keys: no program in sight. -/
import Derived.Test.YtijfjpbahepegaaDoorP2
namespace Sd

def digitsW (x : UInt32) : List Nat := [x.toNat / 268435456 % 16, x.toNat / 16777216 % 16, x.toNat / 1048576 % 16, x.toNat / 65536 % 16, x.toNat / 4096 % 16, x.toNat / 256 % 16, x.toNat / 16 % 16, x.toNat % 16]
def digits (m : Dg) : List Nat := digitsW m.a ++ (digitsW m.b ++ (digitsW m.c ++ digitsW m.d))
/-- What lacks to 15. -/
def lacks : List Nat → Nat
  | [] => 0
  | n :: l => lacks l + (15 - n)
def steps (m : Dg) : List Nat := digits m ++ [lacks (digits m) / 256 % 16, lacks (digits m) / 16 % 16, lacks (digits m) % 16]

/-- So many steps from a value. -/
def walk (x : Dg) : Nat → Dg
  | 0 => x
  | n + 1 => pair (walk x n) ⟨0, 0, 0, 1⟩
def start (seed : Dg) (i : Nat) : Dg := pair seed ⟨UInt32.ofNat i, 0, 0, 0⟩
def tied (k : Dg) (l : List Dg) : Dg := l.foldl pair k
def ended (l : List Dg) : Dg := tied ⟨35, 0, 0, 0⟩ l
def lone (seed : Dg) : Dg := ended ((List.range 35).map fun i => walk (start seed i) 15)
def signed (seed msg : Dg) : List Dg := (List.range 35).map fun i => walk (start seed i) ((steps msg).getD i 0)
def reach (msg : Dg) (s : List Dg) : Dg := ended ((List.range 35).map fun i => walk (s.getD i Dg.zero) (15 - (steps msg).getD i 0))

/-- Does the other one show what lies ahead at a chain? -/
def aheadAt (a : Dg) (s : List Dg) (b : Dg) (t : List Dg) (i : Nat) : Bool :=
  decide ((steps b).getD i 0 < (steps a).getD i 0) && decide (walk (t.getD i Dg.zero) ((steps a).getD i 0 - (steps b).getD i 0) = s.getD i Dg.zero)

def seedAt (seed : Dg) (i : Nat) : Dg := of (107 :: wbytes [seed.a, seed.b, seed.c, seed.d, UInt32.ofNat i])
def publics (seed : Dg) (n : Nat) : List Dg := (List.range n).map fun i => lone (seedAt seed i)

theorem digitsW_length (x : UInt32) : (digitsW x).length = 8 := rfl
theorem digits_length (m : Dg) : (digits m).length = 32 := rfl
theorem steps_length (m : Dg) : (steps m).length = 35 := rfl
theorem digitsW_le (x : UInt32) : ∀ n ∈ digitsW x, n ≤ 15 := by
  intro n hn
  simp only [digitsW, List.mem_cons, List.not_mem_nil, or_false] at hn
  omega
theorem digits_le (m : Dg) : ∀ n ∈ digits m, n ≤ 15 := by
  intro n hn
  simp only [digits, List.mem_append] at hn
  rcases hn with h | h | h | h <;> exact digitsW_le _ _ h
theorem lacks_append (a b : List Nat) : lacks (a ++ b) = lacks a + lacks b := by
  induction a with
  | nil => simp [lacks]
  | cons n a ih => simp only [List.cons_append, lacks, ih]; omega
theorem lacks_le (l : List Nat) : lacks l ≤ 15 * l.length := by
  induction l with
  | nil => simp [lacks]
  | cons n a ih => simp only [lacks, List.length_cons]; omega
theorem steps_le (m : Dg) (i : Nat) : (steps m).getD i 0 ≤ 15 := by
  by_cases h : i < (steps m).length
  · rw [List.getD_eq_getElem?_getD, List.getElem?_eq_getElem h, Option.getD_some]
    have hm := List.getElem_mem h
    revert hm
    generalize (steps m)[i] = n
    intro hm
    simp only [steps, List.mem_append, List.mem_cons, List.not_mem_nil, or_false] at hm
    rcases hm with hm | hm
    · exact digits_le m n hm
    · omega
  · rw [List.getD_eq_getElem?_getD, List.getElem?_eq_none (by omega)]; simp

theorem walk_add (x : Dg) (a b : Nat) : walk (walk x a) b = walk x (a + b) := by
  induction b with
  | zero => rfl
  | succ b ih => rw [walk, ih, Nat.add_succ, walk]
theorem walk_succ' (x : Dg) (n : Nat) : walk (pair x ⟨0, 0, 0, 1⟩) n = walk x (n + 1) := by
  have := walk_add x 1 n
  rw [show 1 + n = n + 1 by omega] at this
  exact this

theorem tied_append (k : Dg) (a b : List Dg) : tied k (a ++ b) = tied (tied k a) b := List.foldl_append

theorem getD_map_range {α : Type} (f : Nat → α) (d : α) {n i : Nat} (h : i < n) : ((List.range n).map f).getD i d = f i := by
  rw [List.getD_eq_getElem?_getD, List.getElem?_map, List.getElem?_range h]; rfl

theorem signed_length (seed msg : Dg) : (signed seed msg).length = 35 := by simp [signed]
/-- What is signed reaches the key. -/
theorem reach_signed (seed msg : Dg) : reach msg (signed seed msg) = lone seed := by
  unfold reach lone signed
  congr 1
  refine List.map_congr_left fun i hi => ?_
  have hi' : i < 35 := by simpa using hi
  rw [getD_map_range _ _ hi', walk_add]
  have := steps_le msg i
  rw [show (steps msg).getD i 0 + (15 - (steps msg).getD i 0) = 15 by omega]

/-! Two unlike messages: one chain of each goes on beyond the other's. -/

theorem lacks_lt : ∀ (a b : List Nat), a.length = b.length → (∀ n ∈ b, n ≤ 15) → (∀ i : Nat, a.getD i 0 ≤ b.getD i 0) → lacks b ≤ lacks a ∧ (lacks a ≤ lacks b → a = b)
  | [], [], _, _, _ => ⟨Nat.le_refl _, fun _ => rfl⟩
  | x :: a, y :: b, hl, hb, h => by
    have ih := lacks_lt a b (by simpa using hl) (fun n hn => hb n (by simp [hn])) (fun i => by have := h (i + 1); simpa using this)
    have h0 : x ≤ y := by have := h 0; simpa using this
    have hy : y ≤ 15 := hb y (by simp)
    simp only [lacks]
    refine ⟨by omega, fun hle => ?_⟩
    have hxy : x = y := by omega
    have := ih.2 (by omega)
    rw [hxy, this]

theorem word_digits {x y : UInt32} (h : digitsW x = digitsW y) : x = y := by
  unfold digitsW at h
  simp only [List.cons.injEq, and_true] at h
  have hx : x.toNat < 4294967296 := x.toNat_lt
  have hy : y.toNat < 4294967296 := y.toNat_lt
  exact UInt32.toNat_inj.1 (by omega)

theorem digits_inj {a b : Dg} (h : digits a = digits b) : a = b := by
  unfold digits at h
  obtain ⟨h1, h⟩ := List.append_inj h (by rw [digitsW_length, digitsW_length])
  obtain ⟨h2, h⟩ := List.append_inj h (by rw [digitsW_length, digitsW_length])
  obtain ⟨h3, h4⟩ := List.append_inj h (by rw [digitsW_length, digitsW_length])
  exact Dg.ext_iff'.2 ⟨word_digits h1, word_digits h2, word_digits h3, word_digits h4⟩

theorem steps_lo (m : Dg) {i : Nat} (h : i < 32) : (steps m).getD i 0 = (digits m).getD i 0 := by
  unfold steps
  rw [List.getD_eq_getElem?_getD, List.getElem?_append_left (by rw [digits_length]; exact h), ← List.getD_eq_getElem?_getD]

theorem steps_ge {a b : Dg} (h : ∀ i, i < 35 → (steps a).getD i 0 ≤ (steps b).getD i 0) : a = b := by
  have hd : ∀ i : Nat, (digits a).getD i 0 ≤ (digits b).getD i 0 := by
    intro i
    by_cases hi : i < 32
    · have := h i (by omega)
      rwa [steps_lo a hi, steps_lo b hi] at this
    · rw [List.getD_eq_getElem?_getD, List.getElem?_eq_none (by rw [digits_length]; omega)]; simp
  obtain ⟨h1, h2⟩ := lacks_lt (digits a) (digits b) (by rw [digits_length, digits_length]) (digits_le b) hd
  refine digits_inj (h2 ?_)
  have ha := lacks_le (digits a)
  have hb := lacks_le (digits b)
  rw [digits_length] at ha hb
  have e0 := h 32 (by omega)
  have e1 := h 33 (by omega)
  have e2 := h 34 (by omega)
  have f : ∀ (m : Dg), (steps m).getD 32 0 = lacks (digits m) / 256 % 16 ∧ (steps m).getD 33 0 = lacks (digits m) / 16 % 16 ∧ (steps m).getD 34 0 = lacks (digits m) % 16 := fun m => ⟨rfl, rfl, rfl⟩
  rw [(f a).1, (f b).1] at e0
  rw [(f a).2.1, (f b).2.1] at e1
  rw [(f a).2.2, (f b).2.2] at e2
  omega

/-- A key that signs two messages gives away what lies ahead of one of them, if they are unlike, and else nothing. -/
theorem ahead_signed (seed a b : Dg) : (∃ i, i < 35 ∧ aheadAt a (signed seed a) b (signed seed b) i = true) ↔ a ≠ b := by
  constructor
  · rintro ⟨i, hi, h⟩ rfl
    simp [aheadAt] at h
  · intro hab
    by_cases hn : ∃ i, i < 35 ∧ (steps b).getD i 0 < (steps a).getD i 0
    · obtain ⟨i, hi, hlt⟩ := hn
      refine ⟨i, hi, ?_⟩
      unfold aheadAt
      rw [signed, signed, getD_map_range _ _ hi, getD_map_range _ _ hi, walk_add, show (steps b).getD i 0 + ((steps a).getD i 0 - (steps b).getD i 0) = (steps a).getD i 0 by omega]
      rw [decide_eq_true hlt, decide_eq_true rfl]; rfl
    · exact absurd (steps_ge fun i hi => by
        rcases Nat.lt_or_ge ((steps b).getD i 0) ((steps a).getD i 0) with h | h
        · exact absurd ⟨i, hi, h⟩ hn
        · exact h) hab

end Sd
