/- My own calculus: calls that write one block that was there; regions with one of them. -/
import Derived.Test.YtncamojfjhbanaaDoorP5
namespace Sk
open Go Go.RowKit Sd

theorem ExtE.size' {E : Nat → Prop} {w w' : World} (h : ExtE E w w') : w.heap.size ≤ w'.heap.size := h.size
/-- Old blocks of E alone are written, and what P tells is kept. -/
structure WrP (E : Nat → Prop) (P : World → Prop) (w w' : World) : Prop where
  ext : ExtE E w w'
  keep : P w → P w'
/-- Kept over what extends memory. -/
def Holds (P : World → Prop) : Prop := ∀ w w', P w → Ext w w' → P w'
section
variable {E : Nat → Prop} {P : World → Prop}
theorem WrP.refl (w : World) : WrP E P w w := ⟨ExtE.refl _ _, fun h => h⟩
theorem WrP.trans {x y z : World} (h : WrP E P x y) (k : WrP E P y z) : WrP E P x z := ⟨h.ext.trans k.ext, fun hp => k.keep (h.keep hp)⟩
theorem WrP.of {x y : World} (hP : Holds P) (h : Ext x y) : WrP E P x y := ⟨h.toE, fun hp => hP _ _ hp h⟩
theorem WrP.size' {x y : World} (h : WrP E P x y) : x.heap.size ≤ y.heap.size := h.ext.size
end

section
variable {P : Program} {Q : Exit → Act → World → Prop} {E : Nat → Prop} {S : World → Prop} {L : Tab (WrP E S)} {a : Act} {w : World} {N n s : Nat} {l : List Oper}

/-- What is asked of one operation; number s is the call that writes. -/
def AskW (P : Program) (l : List Oper) (N : Nat) (E : Nat → Prop) (S : World → Prop) (L : Tab (WrP E S)) (a : Act) (w : World) (wr : Bool) (o : Oper) : Prop :=
  ∀ d, o.dst = some d → ∀ a' w', a'.tmps.size = N → (∀ t, L.slots.contains t = false → get a' t = get a t) → (if wr then Ext else WrP E S) w w' →
    (∀ t, (o.looksAt l.toArray).contains t = true → L.slots.contains t = true → L.look t (get a' t) w') →
    (Region.wanted o (yielded l.toArray a'.tmps) = true → Does P a'.eval o w' (fun v w'' => (if wr then WrP E S else Ext) w' w'' ∧ L.look d v w'')) ∧
    (Region.wanted o (yielded l.toArray a'.tmps) = false → L.look d undef w')
def AsksW (P : Program) (l : List Oper) (N : Nat) (E : Nat → Prop) (S : World → Prop) (L : Tab (WrP E S)) (a : Act) (w : World) (s : Nat) : Nat → Nat → List Oper → Prop
  | _, 0, _ => True
  | _, _ + 1, [] => False
  | k, n + 1, o :: r => AskW P l N E S L a w (k == s) o ∧ AsksW P l N E S L a w s (k + 1) n r
theorem AsksW.zero {k : Nat} (r : List Oper) : AsksW P l N E S L a w s k 0 r := trivial
theorem AsksW.cons {k : Nat} {o : Oper} {r : List Oper} (h : AskW P l N E S L a w (k == s) o) (hr : AsksW P l N E S L a w s (k + 1) n r) : AsksW P l N E S L a w s k (n + 1) (o :: r) := ⟨h, hr⟩

theorem AskW.plain {o : Oper} {d : Nat} {wr : Bool} (hwr : wr = false) (hd : o.dst = some d) (hg : o.guard = none)
    (h : ∀ a' w', a'.tmps.size = N → (∀ t, L.slots.contains t = false → get a' t = get a t) → WrP E S w w' → (∀ t, (o.looksAt l.toArray).contains t = true → L.slots.contains t = true → L.look t (get a' t) w') →
      Does P a'.eval o w' (fun v w'' => Ext w' w'' ∧ L.look d v w'')) : AskW P l N E S L a w wr o := by
  subst hwr
  intro d' hd' a' w' h1 h2 h3 h4
  rw [hd] at hd'
  cases hd'
  refine ⟨fun _ => h a' w' h1 h2 h3 h4, fun hw => ?_⟩
  unfold Region.wanted at hw
  rw [hg] at hw
  cases hw
theorem AskW.write {o : Oper} {d : Nat} {wr : Bool} (hwr : wr = true) (hd : o.dst = some d) (hg : o.guard = none)
    (h : ∀ a' w', a'.tmps.size = N → (∀ t, L.slots.contains t = false → get a' t = get a t) → Ext w w' → (∀ t, (o.looksAt l.toArray).contains t = true → L.slots.contains t = true → L.look t (get a' t) w') →
      Does P a'.eval o w' (fun v w'' => WrP E S w' w'' ∧ L.look d v w'')) : AskW P l N E S L a w wr o := by
  subst hwr
  intro d' hd' a' w' h1 h2 h3 h4
  rw [hd] at hd'
  cases hd'
  refine ⟨fun _ => h a' w' h1 h2 h3 h4, fun hw => ?_⟩
  unfold Region.wanted at hw
  rw [hg] at hw
  cases hw

end

/-- The call gives a value, writes block b alone of what there was, and then S holds. -/
def GivesW (P : Program) (f : FuncId) (args : Array Value) (w : World) (b : Nat) (V : Value) (S : World → Prop) : Prop := Ret P f args w (fun v w' => v = V ∧ ExtE (fun k => k = b) w w' ∧ S w')
/-- The value in a slot, and what holds of the world. -/
def Pr.exW {E : Nat → Prop} {S : World → Prop} (V : Value) : Pr (WrP E S) := ⟨fun v w => v = V ∧ S w, fun _ _ _ h k => ⟨h.1, k.keep h.2⟩⟩
theorem GivesW.write {P : Program} {f : FuncId} {args : Array Value} {w : World} {b : Nat} {V : Value} {S : World → Prop} {Ψ : Value → World → Prop} (h : GivesW P f args w b V S) (hh : ∀ w', WrP (fun k => k = b) S w w' → S w' → Ψ V w') : Ret P f args w Ψ :=
  Ret.mono h fun v w' ⟨hv, hE, hS⟩ => by subst hv; exact hh w' ⟨hE, fun _ => hS⟩ hS

theorem ExtE.since {E E' : Nat → Prop} {w0 w w' : World} (h : ExtE E w0 w) (k : ExtE E' w w') (hE : ∀ b, E' b → w0.heap.size ≤ b) : ExtE E w0 w' :=
  ⟨k.os.trans h.os, k.tape.trans h.tape, k.output.trans h.output, Nat.le_trans h.size k.size, fun i hi he => (k.block i (Nat.lt_of_lt_of_le hi h.size) (fun hh => by have := hE i hh; omega)).trans (h.block i hi he)⟩

theorem Laid.pos {w : World} (h : Laid w) : 0 < w.heap.size := World.block_lt_of_cell? w ⟨0, 0 + 0, none⟩ (h 0 _ rfl)
/-- A stack's block: what is left of the proof (in block p), and was there enough? -/
def StkAt (t b p : Nat) (l : List Dg) (ok : Bool) (w : World) : Prop := ∃ x, Has w b t [x, .bool ok] ∧ SlT DG p (p + 2) l x w
theorem StkAt.holds {t b p : Nat} {l : List Dg} {ok : Bool} : Holds (StkAt t b p l ok) := fun _ _ ⟨x, h1, h2⟩ k => ⟨x, h1.ext' k, h2.ext' k⟩

section
variable {P : Program} {ev : Operand → Value} {w : World} {Ψ : Value → World → Prop} {d : Option Tmp} {ty : TypeId} {pos : String} {af : Array Edge} {g : Option (Nat × Bool)}
/-- Is a slice nil? -/
def isNil : Value → Bool
  | .slice none _ _ => true
  | _ => false
theorem SlT.isNil {α : Type} {T : Ty α} {lo hi : Nat} {l : List α} {x : Value} {w : World} (h : SlT T lo hi l x w) (hn : isNil x = true) : l = [] := by
  obtain ⟨a, cap, hv, hc, hr⟩ := h
  rcases hr with hr | ⟨b, o, ha, _⟩
  · exact hr
  · rw [hv, ha] at hn; cases hn
end
end Sk
namespace Sd
end Sd
namespace Sd
end Sd
namespace Sk
open Go Go.RowKit Sd
section
variable {P : Program} {ev : Operand → Value} {S : World → Prop} {d : Option Tmp} {ty : TypeId} {pos : String} {af : Array Edge} {g : Option (Nat × Bool)}
end
end Sk
