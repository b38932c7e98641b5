/- My own calculus of walks, and plain laws. -/
import Derived.Test.YtaeohnkfmachfaaDoorK
/- My own calculus: a closure that is made and called in one region; signatures by trees of keys. -/
namespace Sk
open Go Go.RowKit Sd

/-- Block k is a variable of type F, from base on. -/
def IsTyp (F base k : Nat) (w : World) : Prop := base ≤ k ∧ ∃ cs, Has w k F cs
/-- Memory is extended, and variables of type F from base on may change in their last word. -/
structure Four (F base : Nat) (w w' : World) : Prop where
  ext : ExtE (fun k => IsTyp F base k w) w w'
  keep : ∀ (k : Nat) (a b c d e : UInt32), Has w k F [w32 a, w32 b, w32 c, w32 d, w32 e] → ∃ e' : UInt32, Has w' k F [w32 a, w32 b, w32 c, w32 d, w32 e']
section
variable {F base : Nat}
theorem Four.refl (w : World) : Four F base w w := ⟨ExtE.refl _ _, fun _ _ _ _ _ e h => ⟨e, h⟩⟩
theorem Four.trans {x y z : World} (h : Four F base x y) (k : Four F base y z) : Four F base x z := by
  refine ⟨⟨k.ext.os.trans h.ext.os, k.ext.tape.trans h.ext.tape, k.ext.output.trans h.ext.output, Nat.le_trans h.ext.size k.ext.size, fun i hi he => ?_⟩, fun i a b c d e hh => ?_⟩
  · have h1 := h.ext.block i hi he
    refine (k.ext.block i (Nat.lt_of_lt_of_le hi h.ext.size) fun hh => he ⟨hh.1, ?_⟩).trans h1
    obtain ⟨cs, hcs⟩ := hh.2
    exact ⟨cs, h1.symm.trans hcs⟩
  · obtain ⟨e', h'⟩ := h.keep i a b c d e hh
    exact k.keep i a b c d e' h'
theorem Four.of {x y : World} (h : Ext x y) : Four F base x y := ⟨h.toE, fun _ _ _ _ _ e hh => ⟨e, hh.ext' h⟩⟩
theorem Four.size' {x y : World} (h : Four F base x y) : x.heap.size ≤ y.heap.size := h.ext.size
theorem Four.write {w w' : World} {b : Nat} {a c d e f f' : UInt32} (h : ExtE (fun k => k = b) w w') (hb : base ≤ b) (h1 : Has w b F [w32 a, w32 c, w32 d, w32 e, w32 f]) (h2 : Has w' b F [w32 a, w32 c, w32 d, w32 e, w32 f']) : Four F base w w' := by
  refine ⟨h.mono fun k _ hk => ⟨hk ▸ hb, hk ▸ ⟨_, h1⟩⟩, fun k a' c' d' e' g hh => ?_⟩
  by_cases hk : k = b
  · subst hk
    have h3 := (Obj.cells.inj (Option.some.inj (hh.symm.trans h1))).1
    have h4 : [w32 a', w32 c', w32 d', w32 e', w32 g] = [w32 a, w32 c, w32 d, w32 e, w32 f] := congrArg Array.toList h3
    simp only [List.cons.injEq] at h4
    obtain ⟨e1, e2, e3, e4, _, _⟩ := h4
    rw [e1, e2, e3, e4]
    exact ⟨f', h2⟩
  · exact ⟨g, hh.ext h hk⟩
/-- A function value over such a variable. -/
def FnR (K base F : Nat) (a b c d : UInt32) (v : Value) (w : World) : Prop := ∃ (k : Nat) (e : UInt32), v = .func (.func K) #[] #[.pointer (some ⟨k, 0, none⟩)] ∧ base ≤ k ∧ Has w k F [w32 a, w32 b, w32 c, w32 d, w32 e]
def Pr.fnR (K base F : Nat) (a b c d : UInt32) : Pr (Four F base) := ⟨FnR K base F a b c d, fun _ _ _ ⟨k, e, hv, h1, h2⟩ r => let ⟨e', h'⟩ := r.keep k a b c d e h2; ⟨k, e', hv, h1, h'⟩⟩
theorem FnR.of {K lo : Nat} {a b c d e : UInt32} {v : Value} {w : World} (h : IsFn K lo F [w32 a, w32 b, w32 c, w32 d, w32 e] v w) (hl : base ≤ lo) : FnR K base F a b c d v w :=
  let ⟨b, hv, h1, h2⟩ := h; ⟨b, e, hv, Nat.le_trans hl h1, h2⟩
def Pr.ownR {α : Type} (T : Ty α) (lo e : Nat) (xs : List α) (he : e ≠ F) : Pr (Four F base) := ⟨OwnT T lo e xs, fun _ _ _ h r => OwnT.ext h r.ext (fun _ hb hh => let ⟨_, _, hcs⟩ := hh; OwnT.typed h hcs he hb)⟩
end

section
variable {P : Program} {Q : Exit → Act → World → Prop} {R : World → World → Prop} {L : Tab R} {a : Act} {w : World} {N n s : Nat} {l : List Oper}
/-- What is asked of one operation; number s is the call that writes, and stands before any other that does. -/
def AskR (P : Program) (l : List Oper) (N : Nat) (R : World → World → Prop) (L : Tab R) (a : Act) (w : World) (wr : Bool) (o : Oper) : Prop :=
  ∀ d, o.dst = some d → ∀ a' w', a'.tmps.size = N → (∀ t, L.slots.contains t = false → get a' t = get a t) → (if wr then Ext else R) w w' →
    (∀ t, (o.looksAt l.toArray).contains t = true → L.slots.contains t = true → L.look t (get a' t) w') →
    (Region.wanted o (yielded l.toArray a'.tmps) = true → Does P a'.eval o w' (fun v w'' => (if wr then R else Ext) w' w'' ∧ L.look d v w'')) ∧
    (Region.wanted o (yielded l.toArray a'.tmps) = false → L.look d undef w')
def AsksR (P : Program) (l : List Oper) (N : Nat) (R : World → World → Prop) (L : Tab R) (a : Act) (w : World) (s : Nat) : Nat → Nat → List Oper → Prop
  | _, 0, _ => True
  | _, _ + 1, [] => False
  | k, n + 1, o :: r => AskR P l N R L a w (k == s) o ∧ AsksR P l N R L a w s (k + 1) n r
theorem AsksR.zero {k : Nat} (r : List Oper) : AsksR P l N R L a w s k 0 r := trivial
theorem AsksR.cons {k : Nat} {o : Oper} {r : List Oper} (h : AskR P l N R L a w (k == s) o) (hr : AsksR P l N R L a w s (k + 1) n r) : AsksR P l N R L a w s k (n + 1) (o :: r) := ⟨h, hr⟩
theorem AskR.plain {o : Oper} {d : Nat} {wr : Bool} (hwr : wr = false) (hd : o.dst = some d) (hg : o.guard = none)
    (h : ∀ a' w', a'.tmps.size = N → (∀ t, L.slots.contains t = false → get a' t = get a t) → R w w' → (∀ t, (o.looksAt l.toArray).contains t = true → L.slots.contains t = true → L.look t (get a' t) w') →
      Does P a'.eval o w' (fun v w'' => Ext w' w'' ∧ L.look d v w'')) : AskR P l N R L a w wr o := by
  subst hwr
  intro d' hd' a' w' h1 h2 h3 h4
  rw [hd] at hd'
  cases hd'
  refine ⟨fun _ => h a' w' h1 h2 h3 h4, fun hw => ?_⟩
  unfold Region.wanted at hw
  rw [hg] at hw
  cases hw
theorem AskR.write {o : Oper} {d : Nat} {wr : Bool} (hwr : wr = true) (hd : o.dst = some d) (hg : o.guard = none)
    (h : ∀ a' w', a'.tmps.size = N → (∀ t, L.slots.contains t = false → get a' t = get a t) → Ext w w' → (∀ t, (o.looksAt l.toArray).contains t = true → L.slots.contains t = true → L.look t (get a' t) w') →
      Does P a'.eval o w' (fun v w'' => R w' w'' ∧ L.look d v w'')) : AskR P l N R L a w wr o := by
  subst hwr
  intro d' hd' a' w' h1 h2 h3 h4
  rw [hd] at hd'
  cases hd'
  refine ⟨fun _ => h a' w' h1 h2 h3 h4, fun hw => ?_⟩
  unfold Region.wanted at hw
  rw [hg] at hw
  cases hw
theorem asksR_ob (hN : a.tmps.size = N) : ∀ (n k : Nat) (r : List Oper), (∀ j, r[j]? = l[k + j]?) → AsksR P l N R L a w s k n r → ∀ i, k ≤ i → i < k + n → Ob P l.toArray Ext R s [] L a w i
  | 0, k, r, _, _, i, h1, h2 => by omega
  | n + 1, k, [], _, h, _, _, _ => h.elim
  | n + 1, k, o :: r, hr, h, i, h1, h2 => by
    by_cases e : i = k
    · subst e
      intro o' d ho' hd a' w' hinv hT
      have : o' = o := by
        have h3 : l[i]? = some o := by have := hr 0; simpa using this.symm
        have h4 : l[i]? = some o' := by simpa using ho'
        rw [h3] at h4
        exact (Option.some.inj h4).symm
      subst this
      have h0 := h.1 d hd a' w' (by rw [hinv.size, hN]) (fun t ht => hinv.out t (by simpa using ht))
      have hnb : d ∉ ([] : List Nat) := by simp
      by_cases es : i = s
      · subst es
        simp only [beq_self_eq_true, if_true] at h0
        have hrel := hinv.rel
        simp only [if_true] at hrel
        obtain ⟨h5, h6⟩ := h0 hrel (fun t h5 h6 => hT t (by simpa using h5) (by simpa using h6))
        simp only [if_true]
        exact ⟨fun hw => (h5 hw).mono fun _ _ h => ⟨h.1, h.2, fun h => absurd h hnb⟩, fun hw => ⟨h6 hw, hnb⟩⟩
      · have eb : (i == s) = false := by simpa using es
        simp only [eb, Bool.false_eq_true, if_false] at h0
        have hrel := hinv.rel
        simp only [if_neg es] at hrel
        obtain ⟨h5, h6⟩ := h0 hrel (fun t h5 h6 => hT t (by simpa using h5) (by simpa using h6))
        simp only [if_neg es]
        exact ⟨fun hw => (h5 hw).mono fun _ _ h => ⟨h.1, h.2, fun h => absurd h hnb⟩, fun hw => ⟨h6 hw, hnb⟩⟩
    · exact asksR_ob hN n (k + 1) r (fun j => by have := hr (j + 1); rw [List.getElem?_cons_succ] at this; rw [this]; congr 1; omega) h.2 i (by omega) (by omega)
section
variable {ev : Operand → Value} {Ψ : Value → World → Prop} {d : Option Tmp} {ty : TypeId} {pos : String} {af : Array Edge} {g : Option (Nat × Bool)}
end
/-- A region with a closure that it makes and calls, in whatever order. -/
theorem region_anyF {id : Nat} (F : Nat) (L : Tab (Four F w.heap.size)) (s n : Nat) (hm : P.follows .mixedOrders = true) (hN : a.tmps.size = N) (hD : a.defers = []) (hc : chk l.toArray n N L.slots = true) (hcT : chkT l.toArray n = true) (hob : AsksR P l N (Four F w.heap.size) L a { w with drawn := w.drawn + 1 } s 0 n l)
    (htail : ∀ a' w', a'.tmps.size = N → a'.defers = [] → (∀ t, L.slots.contains t = false → get a' t = get a t) → Four F w.heap.size w w' → L.all a' w' → wpList P l.toArray Q (l.drop n) a' w') : (Code.region id l.toArray true).wp P Q a w := by
  have hle : n ≤ l.length := by have := (chk_size hc).1; simpa using this
  refine wp_region_any hm (rg_any (s := s) (R0 := Ext) hN hc Four.refl Ext.refl (fun _ _ _ => Four.trans) (fun _ _ h => Four.of h) (fun _ _ _ => Ext.trans) (fun _ _ h => h.size') (bx := []) ⟨List.nodup_nil, by simp⟩ hcT (fun i hi => asksR_ob hN n 0 l (fun j => by rw [Nat.zero_add]) hob i (Nat.zero_le _) (by omega)) (l.drop n) ⟨by simp; omega, fun j => by simp⟩ ?_)
  intro a' w' hinv hall _
  exact htail a' w' (by rw [hinv.size, hN]) (by rw [hinv.defers, hD]) (fun t ht => hinv.out t (by simpa using ht)) ((Four.of (Ext.drew w)).trans hinv.rel) hall
end
end Sk

namespace Sd
def highB (h : Int) : Bool := decide (0 ≤ h) && decide (h ≤ 4)
def keyPub (seed : Dg) (h : Int) : Dg × Nat := if 0 ≤ h ∧ h ≤ 4 then (root (publics seed (pw h.toNat)), 0) else (Dg.zero, 2)
theorem keyPub_no {seed : Dg} {h : Int} (hb : ¬ (0 ≤ h ∧ h ≤ 4)) : keyPub seed h = (Dg.zero, 2) := by unfold keyPub; rw [if_neg hb]
theorem keyPub_ok {seed : Dg} {n : Nat} (hb : n ≤ 4) : keyPub seed (n : Int) = (root (publics seed (pw n)), 0) := by unfold keyPub; rw [if_pos (by omega)]; rfl
def keyNew (seed : Dg) (h : Int) : Dg × Int × Nat := if 0 ≤ h ∧ h ≤ 4 then (seed, h, 0) else (Dg.zero, 0, 2)
/-- Index, One, Path, errno. -/
def keySign (seed : Dg) (h i : Int) (msg : Dg) : Int × List Dg × List Dg × Nat :=
  if 0 ≤ h ∧ h ≤ 4 then (if 0 ≤ i ∧ i < ((pw h.toNat : Nat) : Int) then (i, signed (seedAt seed i.toNat) msg, way (publics seed (pw h.toNat)) i.toNat, 0) else (0, [], [], 1)) else (0, [], [], 2)
theorem keySign_no {seed msg : Dg} {h i : Int} (hb : ¬ (0 ≤ h ∧ h ≤ 4)) : keySign seed h i msg = (0, [], [], 2) := by unfold keySign; rw [if_neg hb]
theorem keySign_arg {seed msg : Dg} {n : Nat} {i : Int} (hb : n ≤ 4) (hi : ¬ (0 ≤ i ∧ i < ((pw n : Nat) : Int))) : keySign seed (n : Int) i msg = (0, [], [], 1) := by unfold keySign; rw [if_pos (by omega), Int.toNat_natCast, if_neg hi]
theorem keySign_ok {seed msg : Dg} {n j : Nat} (hb : n ≤ 4) (hj : j < pw n) : keySign seed (n : Int) (j : Int) msg = ((j : Int), signed (seedAt seed j) msg, way (publics seed (pw n)) j, 0) := by unfold keySign; rw [if_pos (by omega), Int.toNat_natCast, if_pos (by omega), Int.toNat_natCast]
/-- The signer behind it (Seed, Height, Next), then Index, One, Path, errno. -/
def keyUse (seed : Dg) (h i : Int) (msg : Dg) : Dg × Int × Int × Int × List Dg × List Dg × Nat :=
  if 0 ≤ h ∧ h ≤ 4 then (if 0 ≤ i ∧ i < ((pw h.toNat : Nat) : Int) then (seed, h, i + 1, i, signed (seedAt seed i.toNat) msg, way (publics seed (pw h.toNat)) i.toNat, 0) else (Dg.zero, 0, 0, 0, [], [], 9)) else (Dg.zero, 0, 0, 0, [], [], 2)
theorem prove_pub {seed : Dg} {n j : Nat} (hj : j < pw n) : prove (publics seed (pw n)) ((j : Nat) : Int) = (way (publics seed (pw n)) j, 0) := by rw [prove_ok ⟨by omega, by rw [publics_length]; omega⟩, Int.toNat_natCast]

theorem half_pw (n : Nat) : half (pw (n + 1)) = pw n := by
  have h := pw_pos n
  exact (half_eq (by rw [pw_succ]; unfold pw at *; omega) (by rw [pw_succ]; unfold pw; omega)).symm
theorem way_pw : ∀ (n : Nat) (l : List Dg) (i : Nat), l.length = pw n → i < l.length → (way l i).length = n
  | 0, l, i, hl, hi => by rw [way_one (by rw [hl]; decide) i]; rfl
  | n + 1, l, i, hl, hi => by
    have hp := pw_pos n
    have h2 : 2 ≤ l.length := by rw [hl, pw_succ]; omega
    have hh : half l.length = pw n := by rw [hl, half_pw]
    by_cases hlo : i < half l.length
    · rw [way_lo h2 hlo, List.length_append, way_pw n _ i (by rw [List.length_take, hh, hl, pw_succ]; omega) (by rw [List.length_take]; omega)]; rfl
    · rw [way_hi h2 hlo, List.length_append, way_pw n _ _ (by rw [List.length_drop, hh, hl, pw_succ]; omega) (by rw [List.length_drop]; omega)]; rfl
theorem publics_get {seed : Dg} {n j : Nat} (hj : j < n) : (publics seed n)[j]? = some (lone (seedAt seed j)) := by simp [publics, hj]
/-- What is signed holds. -/
theorem keyCheck_sign {seed msg : Dg} {n j : Nat} (hn : n ≤ 4) (hj : j < pw n) : keyCheck (root (publics seed (pw n))) msg (j : Int) (signed (seedAt seed j) msg) (way (publics seed (pw n)) j) = true := by
  have hlen := way_pw n (publics seed (pw n)) j (publics_length _ _) (by rw [publics_length]; exact hj)
  rw [keyCheck_yes (by omega), reachO_yes (signed_length _ _), hlen, reach_signed]
  have hp := pw_small hn
  have hup := up_way _ (publics seed (pw n)) j _ (publics_get hj) (Nat.le_refl _)
  rw [publics_length] at hup
  show (true && checks _ _ _ _ _) = true
  rw [Bool.true_and, check_yes ⟨by omega, by omega, by omega⟩, Int.toNat_natCast, Int.toNat_natCast, hup]
  simp
end Sd

/- Plain laws: signing by trees of keys, as the document tells it; links. -/
namespace Sd
end Sd

/- Plain laws: what lies ahead in a one-time signature; signatures that hold at one public key alone. -/
namespace Sd
def oneCheck (pub msg : Dg) (s : List Dg) : Bool := (reachO msg s).2 && decide ((reachO msg s).1 = pub)
def aheadO (a : Dg) (s : List Dg) (b : Dg) (t : List Dg) : Nat × Dg × Bool :=
  match (List.range 35).find? (aheadAt a s b t) with
  | some i => (i, t.getD i Dg.zero, true)
  | none => (0, Dg.zero, false)
/-- Whose key a signature of a tree is. -/
theorem keyCheck_of {seed msg p : Dg} {n j : Nat} (hn : n ≤ 4) (hj : j < pw n) : keyCheck p msg (j : Int) (signed (seedAt seed j) msg) (way (publics seed (pw n)) j) = decide (root (publics seed (pw n)) = p) := by
  have hlen := way_pw n (publics seed (pw n)) j (publics_length _ _) (by rw [publics_length]; exact hj)
  rw [keyCheck_yes (by omega), reachO_yes (signed_length _ _), hlen, reach_signed]
  have hp := pw_small hn
  have hup := up_way _ (publics seed (pw n)) j _ (publics_get hj) (Nat.le_refl _)
  rw [publics_length] at hup
  show (true && checks _ _ _ _ _) = _
  rw [Bool.true_and, check_yes ⟨by omega, by omega, by omega⟩, Int.toNat_natCast, Int.toNat_natCast, hup, Bool.true_and]
theorem root_pub0 (seed : Dg) : root (publics seed (pw 0)) = lone (seedAt seed 0) := root_one _
theorem way_pub0 (seed : Dg) : way (publics seed (pw 0)) 0 = [] := way_one (by rw [publics_length]; decide) 0
theorem sample_key : lone (seedAt ⟨1, 2, 3, 4⟩ 0) ≠ ⟨1, 2, 3, 4⟩ := by decide +kernel
theorem awake_law : ¬ root (publics ⟨1, 2, 3, 4⟩ (pw 0)) = (⟨1, 2, 3, 4⟩ : Dg) := by rw [root_pub0]; exact sample_key
end Sd
namespace Sd
end Sd

/- Plain laws: the ways up from two places of a tree, and where they meet. -/
namespace Sd
/-- The way up, from below. -/
def climb : Nat → Dg → List Dg → Dg
  | _, a, [] => a
  | i, a, x :: p => climb (i / 2) (if i % 2 = 1 then pair x a else pair a x) p
theorem climb_odd {i : Nat} (h : i % 2 = 1) (a x : Dg) (p : List Dg) : climb i a (x :: p) = climb (i / 2) (pair x a) p := by show climb _ (if _ then _ else _) _ = _; rw [if_pos h]
theorem climb_even {i : Nat} (h : ¬ i % 2 = 1) (a x : Dg) (p : List Dg) : climb i a (x :: p) = climb (i / 2) (pair a x) p := by show climb _ (if _ then _ else _) _ = _; rw [if_neg h]
theorem climb_snoc : ∀ (p : List Dg) (i : Nat) (a z : Dg), climb i a (p ++ [z]) = if i / 2 ^ p.length % 2 = 1 then pair z (climb i a p) else pair (climb i a p) z
  | [], i, a, z => by simp [climb]
  | x :: p, i, a, z => by
    show climb (i / 2) _ (p ++ [z]) = _
    rw [climb_snoc p]
    show (if i / 2 / 2 ^ p.length % 2 = 1 then pair z (climb i a (x :: p)) else pair (climb i a (x :: p)) z) = _
    rw [Nat.div_div_eq_div_mul, List.length_cons, show 2 * 2 ^ p.length = 2 ^ (p.length + 1) by rw [Nat.pow_succ, Nat.mul_comm]]
theorem climb_mod : ∀ (p : List Dg) (i j : Nat) (a : Dg), i % 2 ^ p.length = j % 2 ^ p.length → climb i a p = climb j a p
  | [], _, _, _, _ => rfl
  | x :: p, i, j, a, h => by
    rw [List.length_cons, Nat.pow_succ] at h
    have h2 : i % 2 = j % 2 := by
      have e1 := Nat.mod_mul_left_mod i (2 ^ p.length) 2
      have e2 := Nat.mod_mul_left_mod j (2 ^ p.length) 2
      rw [← e1, ← e2, h]
    have h3 : i / 2 % 2 ^ p.length = j / 2 % 2 ^ p.length := by
      rw [Nat.mul_comm] at h
      have e1 := Nat.mod_mul_right_div_self i 2 (2 ^ p.length)
      have e2 := Nat.mod_mul_right_div_self j 2 (2 ^ p.length)
      rw [← e1, ← e2, h]
    show climb (i / 2) _ p = climb (j / 2) _ p
    rw [h2]
    exact climb_mod p _ _ _ h3
theorem up_pw : ∀ (n i : Nat) (a : Dg) (p : List Dg), p.length = n → i < pw n → up (pw n) i a p.reverse = (climb i a p, true)
  | 0, i, a, p, hp, hi => by
    obtain rfl := List.length_eq_zero_iff.1 hp
    rw [up_one (by decide)]; rfl
  | n + 1, i, a, p, hp, hi => by
    have hpos := pw_pos n
    obtain ⟨q, z, rfl⟩ := snoc_of (l := p) (by intro e; rw [e] at hp; cases hp)
    have hq : q.length = n := by simpa using hp
    have h2 : 2 ≤ pw (n + 1) := by rw [pw_succ]; omega
    rw [List.reverse_append, List.reverse_singleton, List.singleton_append, climb_snoc, hq]
    have hpn : 2 ^ n = pw n := rfl
    rw [hpn]
    rw [pw_succ] at hi
    by_cases hlo : i < pw n
    · rw [up_lo h2 (by rw [half_pw]; exact hlo), half_pw, up_pw n i a q hq hlo, Nat.div_eq_of_lt hlo]; rfl
    · have hd : i / pw n = 1 := Nat.div_eq_of_lt_le (by omega) (by omega)
      rw [up_hi h2 (by rw [half_pw]; exact hlo), half_pw, show pw (n + 1) - pw n = pw n by rw [pw_succ]; omega, up_pw n (i - pw n) a q hq (by omega), hd]
      rw [climb_mod q (i - pw n) i a (by rw [hq, hpn]; exact (Nat.mod_eq_sub_mod (by omega)).symm)]
      rfl
/-- Do two ways up, from one place, meet in two unlike pairs with one digest? -/
def clashK : Nat → Dg → List Dg → Dg → List Dg → Bool
  | i, a, x :: p, b, y :: q =>
    (!decide ((if i % 2 = 1 then (x, a) else (a, x)) = (if i % 2 = 1 then (y, b) else (b, y))) && decide ((if i % 2 = 1 then pair x a else pair a x) = (if i % 2 = 1 then pair y b else pair b y))) ||
      clashK (i / 2) (if i % 2 = 1 then pair x a else pair a x) p (if i % 2 = 1 then pair y b else pair b y) q
  | _, _, _, _, _ => false
theorem clashK_odd {i : Nat} (h : i % 2 = 1) (a x b y : Dg) (p q : List Dg) : clashK i a (x :: p) b (y :: q) = ((!decide ((x, a) = (y, b)) && decide (pair x a = pair y b)) || clashK (i / 2) (pair x a) p (pair y b) q) := by
  rw [clashK, if_pos h, if_pos h, if_pos h, if_pos h]
theorem clashK_even {i : Nat} (h : ¬ i % 2 = 1) (a x b y : Dg) (p q : List Dg) : clashK i a (x :: p) b (y :: q) = ((!decide ((a, x) = (b, y)) && decide (pair a x = pair b y)) || clashK (i / 2) (pair a x) p (pair b y) q) := by
  rw [clashK, if_neg h, if_neg h, if_neg h, if_neg h]
theorem clashK_end {i : Nat} {a b : Dg} {p q : List Dg} (h : p = [] ∨ q = []) : clashK i a p b q = false := by
  rcases h with rfl | rfl
  · rfl
  · cases p <;> rfl
theorem clashK_law : ∀ (p q : List Dg) (i : Nat) (a b : Dg), p.length = q.length → a ≠ b → climb i a p = climb i b q → clashK i a p b q = true
  | [], [], _, a, b, _, hab, h => absurd h hab
  | [], _ :: _, _, _, _, hl, _, _ => by cases hl
  | _ :: _, [], _, _, _, hl, _, _ => by cases hl
  | x :: p, y :: q, i, a, b, hl, hab, h => by
    have hl' : p.length = q.length := by simpa using hl
    by_cases ho : i % 2 = 1
    · rw [climb_odd ho, climb_odd ho] at h
      rw [clashK_odd ho]
      by_cases he : pair x a = pair y b
      · have : ¬ ((x, a) = (y, b)) := fun e => hab (Prod.mk.inj e).2
        simp [he, hab]
      · simp [clashK_law p q _ _ _ hl' he h]
    · rw [climb_even ho, climb_even ho] at h
      rw [clashK_even ho]
      by_cases he : pair a x = pair b y
      · have : ¬ ((a, x) = (b, y)) := fun e => hab (Prod.mk.inj e).1
        simp [he, hab]
      · simp [clashK_law p q _ _ _ hl' he h]
/-- What it is that a signature holds. -/
theorem keyCheck_is {pub msg : Dg} {i : Int} {one path : List Dg} (h : keyCheck pub msg i one path = true) :
    path.length ≤ 4 ∧ (reachO msg one).2 = true ∧ (0 ≤ i ∧ i < ((pw path.length : Nat) : Int)) ∧ climb i.toNat (reachO msg one).1 path = pub := by
  by_cases hp : path.length ≤ 4
  · rw [keyCheck_yes hp, Bool.and_eq_true] at h
    obtain ⟨h1, h2⟩ := h
    have hp16 := pw_small hp
    by_cases hb : ((pw path.length : Nat) : Int) ≤ 1000 ∧ 0 ≤ i ∧ i < ((pw path.length : Nat) : Int)
    · rw [check_yes hb, Int.toNat_natCast, up_pw _ _ _ _ rfl (by omega)] at h2
      exact ⟨hp, h1, hb.2, by simpa using h2⟩
    · rw [check_no hb] at h2; cases h2
  · rw [keyCheck_no hp] at h; cases h
/-- A signature that holds at another place. -/
theorem keysPlaces_law {seed msg : Dg} {n j k : Nat} (hn : n ≤ 4) (hj : j < pw n) (hk : k < pw n) (h : keyCheck (root (publics seed (pw n))) msg (k : Int) (signed (seedAt seed j) msg) (way (publics seed (pw n)) j) = true) :
    lone (seedAt seed k) = lone (seedAt seed j) ∨ clashK k (lone (seedAt seed j)) (way (publics seed (pw n)) j) (lone (seedAt seed k)) (way (publics seed (pw n)) k) = true := by
  obtain ⟨_, _, _, a⟩ := keyCheck_is h
  obtain ⟨_, _, _, b⟩ := keyCheck_is (keyCheck_sign (seed := seed) (msg := msg) hn hk)
  rw [reachO_yes (signed_length _ _), reach_signed, Int.toNat_natCast] at a b
  by_cases e : lone (seedAt seed k) = lone (seedAt seed j)
  · exact .inl e
  · refine .inr (clashK_law _ _ _ _ _ ?_ (fun h => e h.symm) (a.trans b.symm))
    rw [way_pw n _ j (publics_length _ _) (by rw [publics_length]; exact hj), way_pw n _ k (publics_length _ _) (by rw [publics_length]; exact hk)]
end Sd
namespace Sd
theorem drop_at {l : List Dg} {k : Nat} {d : Dg} (h : l[k]? = some d) : l.drop k = d :: l.drop (k + 1) := by
  obtain ⟨hk, e⟩ := List.getElem?_eq_some_iff.1 h
  rw [List.drop_eq_getElem_cons hk, e]
section
variable {p q : List Dg} {k i : Nat} {d e y z : Dg}
theorem clashK_stepO (hd : p[k]? = some d) (he : q[k]? = some e) (ho : i % 2 = 1) (h : (!decide ((d, y) = (e, z)) && decide (pair d y = pair e z)) = false) : clashK i y (p.drop k) z (q.drop k) = clashK (i / 2) (pair d y) (p.drop (k + 1)) (pair e z) (q.drop (k + 1)) := by
  rw [drop_at hd, drop_at he, clashK_odd ho, h, Bool.false_or]
theorem clashK_stepE (hd : p[k]? = some d) (he : q[k]? = some e) (ho : ¬ i % 2 = 1) (h : (!decide ((y, d) = (z, e)) && decide (pair y d = pair z e)) = false) : clashK i y (p.drop k) z (q.drop k) = clashK (i / 2) (pair y d) (p.drop (k + 1)) (pair z e) (q.drop (k + 1)) := by
  rw [drop_at hd, drop_at he, clashK_even ho, h, Bool.false_or]
theorem clashK_hitO (hd : p[k]? = some d) (he : q[k]? = some e) (ho : i % 2 = 1) (h : (!decide ((d, y) = (e, z)) && decide (pair d y = pair e z)) = true) : clashK i y (p.drop k) z (q.drop k) = true := by
  rw [drop_at hd, drop_at he, clashK_odd ho, h, Bool.true_or]
theorem clashK_hitE (hd : p[k]? = some d) (he : q[k]? = some e) (ho : ¬ i % 2 = 1) (h : (!decide ((y, d) = (z, e)) && decide (pair y d = pair z e)) = true) : clashK i y (p.drop k) z (q.drop k) = true := by
  rw [drop_at hd, drop_at he, clashK_even ho, h, Bool.true_or]
end
end Sd

