/- Words of bytes, padding: plain laws for the walks. -/
import Derived.Test.YtncamojfjhbanaaDoorK10
namespace Sd
open Go Go.RowKit Sk

theorem word_mul (a b c d : UInt8) : (((((0 : UInt32) * (256 : UInt32) + UInt32.ofNat (d).toNat) * (256 : UInt32) + UInt32.ofNat (c).toNat) * (256 : UInt32) + UInt32.ofNat (b).toNat) * (256 : UInt32)) + UInt32.ofNat (a).toNat = word a b c d := by
  have ha := a.toNat_lt; have hb := b.toNat_lt; have hc := c.toNat_lt; have hd := d.toNat_lt
  apply UInt32.toNat_inj.1
  rw [word]
  simp only [UInt32.toNat_add, UInt32.toNat_mul, UInt32.toNat_ofNat', show (0 : UInt32).toNat = 0 from rfl, show (256 : UInt32).toNat = 256 from rfl]
  omega
theorem drop_get {α : Type} {l m : List α} {i : Nat} (h : l.drop i = m) (j : Nat) : l[i + j]? = m[j]? := by rw [← h, List.getElem?_drop]
theorem drop_four {α : Type} {l m : List α} {p q r t : α} {i : Nat} (h : l.drop i = p :: q :: r :: t :: m) : l.drop (i + 4) = m := by
  rw [← List.drop_drop, h]; rfl
theorem words_le : ∀ l : List UInt8, (words l).length ≤ l.length
  | [] => Nat.le_refl _
  | [_] => Nat.zero_le _
  | [_, _] => Nat.zero_le _
  | [_, _, _] => Nat.zero_le _
  | _ :: _ :: _ :: _ :: l => by have := words_le l; simp only [words, List.length_cons]; omega
theorem words_len4 : ∀ l : List UInt8, l.length % 4 = 0 → (words l).length * 4 = l.length
  | [], _ => rfl
  | [_], h => by simp at h
  | [_, _], h => by simp at h
  | [_, _, _], h => by simp at h
  | _ :: _ :: _ :: _ :: l, h => by have := words_len4 l (by simp only [List.length_cons] at h; omega); simp only [words, List.length_cons]; omega
theorem words_append : ∀ (l m : List UInt8), l.length % 4 = 0 → words (l ++ m) = words l ++ words m
  | [], _, _ => rfl
  | [_], _, h => by simp at h
  | [_, _], _, h => by simp at h
  | [_, _, _], _, h => by simp at h
  | _ :: _ :: _ :: _ :: l, m, h => by
    have := words_append l m (by simp only [List.length_cons] at h; omega)
    simp only [List.cons_append, words, this]
theorem word_le (x : UInt32) : word (UInt8.ofNat (x.toNat % 256)) (UInt8.ofNat (x.toNat / 256 % 256)) (UInt8.ofNat (x.toNat / 65536 % 256)) (UInt8.ofNat (x.toNat / 16777216 % 256)) = x := by
  have hx := x.toNat_lt
  apply UInt32.toNat_inj.1
  rw [word]
  simp only [UInt32.toNat_ofNat', UInt8.toNat_ofNat']
  omega
theorem words_bytes : ∀ l : List UInt32, words (wbytes l) = l
  | [] => rfl
  | x :: l => by
    have := words_bytes l
    simp only [wbytes, List.flatMap_cons, le, List.cons_append, List.nil_append, words, word_le]
    rw [show List.flatMap le l = wbytes l from rfl, this]
theorem rep_succ {α : Type} (a : List α) (j : Nat) (x : α) : (a ++ List.replicate j x) ++ [x] = a ++ List.replicate (j + 1) x := by
  rw [List.append_assoc, List.replicate_succ']
theorem ends_eq (n : Nat) (h : n ≤ 65536) : [(UInt64.ofNat n).toUInt32, (UInt64.ofNat ((UInt64.ofNat n).toNat / 2 ^ 32)).toUInt32] = ends n := by
  have e1 : (UInt64.ofNat n).toUInt32 = UInt32.ofNat n := by
    apply UInt32.toNat_inj.1
    rw [UInt64.toNat_toUInt32, UInt64.toNat_ofNat', UInt32.toNat_ofNat']
    omega
  have e2 : (UInt64.ofNat ((UInt64.ofNat n).toNat / 2 ^ 32)).toUInt32 = UInt32.ofNat (n / 4294967296) := by
    apply UInt32.toNat_inj.1
    rw [UInt64.toNat_toUInt32, UInt64.toNat_ofNat', UInt64.toNat_ofNat', UInt32.toNat_ofNat']
    omega
  rw [e1, e2, ends]
theorem full_eq (s : List UInt8) : ((s ++ [128]) ++ List.replicate ((24 - ((s.length + 1) % 16)) % 16) 0) = padded s := by
  rw [List.append_assoc]; rfl
theorem padded_length (s : List UInt8) : (padded s).length = s.length + 1 + zeros s.length := by
  simp only [padded, List.length_append, List.length_cons, List.length_replicate]; omega
theorem padded_mod (s : List UInt8) : (padded s).length % 16 = 8 := by
  rw [padded_length]; unfold zeros; omega
theorem full4 (s : List UInt8) (x y : UInt32) : (((s ++ [128]) ++ List.replicate ((24 - ((s.length + 1) % 16)) % 16) 0) ++ wbytes [x, y]).length % 4 = 0 := by
  rw [full_eq, List.length_append, bytes_length]
  have := padded_mod s
  simp only [List.length_cons, List.length_nil]
  omega
theorem fullN (s : List UInt8) (x y : UInt32) (h : s.length ≤ 65536) : (((s ++ [128]) ++ List.replicate ((24 - ((s.length + 1) % 16)) % 16) 0) ++ wbytes [x, y]).length ≤ 4194304 := by
  rw [full_eq, List.length_append, bytes_length, padded_length]
  unfold zeros
  simp only [List.length_cons, List.length_nil]
  omega
theorem of_eq (s : List UInt8) (h : s.length ≤ 65536) : ((St.first 1).takes (words (((s ++ [128]) ++ List.replicate ((24 - ((s.length + 1) % 16)) % 16) 0) ++ wbytes [(UInt64.ofNat s.length).toUInt32, (UInt64.ofNat ((UInt64.ofNat s.length).toNat / 2 ^ 32)).toUInt32]))).out = of s := by
  have := padded_mod s
  rw [full_eq, ends_eq _ h, words_append _ _ (by omega), words_bytes, of]
end Sd
namespace Sd
theorem ofR_eq (s : List UInt8) (h : s.length ≤ 65536) {j : Nat} (hj : j = zeros s.length) {LL : List UInt32} (hL : (words ((s ++ [128]) ++ List.replicate j 0)) ++ [(UInt64.ofNat s.length).toUInt32, (UInt64.ofNat ((UInt64.ofNat s.length).toNat / 2 ^ 32)).toUInt32] = LL) : ((St.first 1).takes LL).out = of s := by
  have e : (s ++ [128]) ++ List.replicate j 0 = padded s := by rw [hj, List.append_assoc]; rfl
  rw [← hL, e, ends_eq _ h, of]
end Sd
