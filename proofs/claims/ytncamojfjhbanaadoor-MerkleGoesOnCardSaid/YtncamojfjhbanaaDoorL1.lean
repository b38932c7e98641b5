/- What comes in by a row, opened into what the walks speak of; what goes out. -/
import Derived.Test.YtncamojfjhbanaaDoorK13
import Derived.Carry
import Derived.OpenShut
import Derived.ChangeArms
import Derived.Deep.Slices
import Derived.LaidMore
import Derived.JoinedOf
import Derived.ChangeShapes
import Derived.ProofKit
namespace Sd
open Go Go.RowKit Sk Go.WideShapes Go.ChangeShapes Go.Deep

section
variable {H : Type} {enc : TypeId × Value → H} {P : Program} {w : World} {base : Nat} {spare : Nat → Bool} {held : Bool}

/-- These cells, at this type, read as something of which Φ holds. -/
def Opens (enc : TypeId × Value → H) (P : Program) (w : World) (base : Nat) (spare : Nat → Bool) (held : Bool) (t : TypeId) (Φ : List Value → Prop) : Prop :=
  ∀ n cs x, DataW.trod enc P w base spare held n t cs = some x → Φ cs

theorem op_int {t : TypeId} {k : IntKind} (ht : P.underlying t = some (.int k)) : Opens enc P w base spare held t (fun cs => ∃ n, cs = [.int k n] ∧ (Lit.int k n).wf = true) := by
  intro n cs x h
  obtain ⟨m, h1, _, h2⟩ := DataW.trod_int ht h
  exact ⟨m, h1, h2⟩
theorem op_u32 {t : TypeId} (ht : P.underlying t = some (.int .u32)) : Opens enc P w base spare held t (fun cs => ∃ z : UInt32, cs = [w32 z]) := by
  intro n cs x h
  obtain ⟨m, rfl, hw⟩ := op_int ht n cs x h
  simp [Lit.wf, IntKind.min, IntKind.max, IntKind.signed, IntKind.bits] at hw
  refine ⟨UInt32.ofNat m.toNat, ?_⟩
  have : ((UInt32.ofNat m.toNat).toNat : Int) = m := by
    rw [UInt32.toNat_ofNat', Nat.mod_eq_of_lt (by omega)]; omega
  rw [w32, this]
theorem op_i64 {t : TypeId} (ht : P.underlying t = some (.int .i64)) : Opens enc P w base spare held t (fun cs => ∃ n, cs = [i64 n] ∧ -9223372036854775808 ≤ n ∧ n ≤ 9223372036854775807) := by
  intro n cs x h
  obtain ⟨m, rfl, hw⟩ := op_int ht n cs x h
  simp [Lit.wf, IntKind.min, IntKind.max, IntKind.signed, IntKind.bits] at hw
  exact ⟨m, rfl, by omega, by omega⟩
theorem len4 {cs : List Value} (h : cs.length = 4) : ∃ c0 c1 c2 c3, cs = [c0, c1, c2, c3] := by
  match cs, h with
  | [a, b, c, d], _ => exact ⟨a, b, c, d, rfl⟩
/-- An array of digests' words. -/
theorem op_dg {t e : TypeId} (ht : P.underlying t = some (.array 4 e)) (he : P.underlying e = some (.int .u32)) (hc : P.cellsOf e = 1) (hc2 : P.cellsOf t = 4) : Opens enc P w base spare held t (fun cs => ∃ d : Dg, cs = Dg.cells d) := by
  intro n cs x h
  obtain ⟨xs, m, _, _, hl, hn, hel⟩ := DataW.trod_array ht h
  rw [hc2] at hl
  have get : ∀ i, i < 4 → ∃ z : UInt32, (cs.drop i).take 1 = [w32 z] := by
    intro i hi
    have h1 := hel i hi
    rw [hc, Nat.mul_one] at h1
    have hx : ∃ y, xs[i]? = some y := ⟨xs[i], List.getElem?_eq_getElem (by omega)⟩
    obtain ⟨y, hy⟩ := hx
    rw [hy] at h1
    exact op_u32 he _ _ _ h1
  obtain ⟨a, ha⟩ := get 0 (by decide)
  obtain ⟨b, hb⟩ := get 1 (by decide)
  obtain ⟨c, hcc⟩ := get 2 (by decide)
  obtain ⟨d, hd⟩ := get 3 (by decide)
  refine ⟨⟨a, b, c, d⟩, ?_⟩
  obtain ⟨c0, c1, c2, c3, rfl⟩ : ∃ c0 c1 c2 c3, cs = [c0, c1, c2, c3] := len4 hl
  simp at ha hb hcc hd
  subst ha; subst hb; subst hcc; subst hd
  rfl
/-- A slice. -/
theorem op_slice {α : Type} {T : Ty α} {t e : TypeId} (ht : P.underlying t = some (.slice e)) (hc : P.cellsOf e = T.size) (hel : Opens enc P w base spare held e (fun cs => ∃ X, cs = T.enc X)) : Opens enc P w base spare held t (fun cs => ∃ xs v, cs = [v] ∧ SlT T 0 0 xs v w) := by
  intro n cs x h
  rcases open_slice ht h with ⟨rfl, _⟩ | ⟨a, len, cap, m, n, D, Pl, rfl, hb, hl, hm, hmm, _, hall⟩
  · exact ⟨[], _, rfl, SlT.nil T 0 0 w⟩
  · have hlm : len ≤ m := by rw [hmm]; split <;> omega
    have hget : ∀ i, i < len → ∃ X : α, ∀ j v, (T.enc X)[j]? = some v → w.cell? ((a.add (i * T.size)).add j) = some v := by
      intro i hi
      obtain ⟨cs', h1, h2⟩ := hall i (by omega)
      rw [hc] at h1
      obtain ⟨X, rfl⟩ := hel _ _ _ h2
      obtain ⟨_, _, h3⟩ := World.cells?_some h1
      refine ⟨X, fun j v hj => ?_⟩
      have hlt : j < T.size := by rw [← T.len X]; exact (List.getElem?_eq_some_iff.1 hj).1
      rw [h3 j hlt, hj]
    by_cases hz : len = 0
    · subst hz
      exact ⟨[], _, rfl, a, cap, rfl, Nat.zero_le _, .inl rfl⟩
    · -- the address has no spot
      have hne : ∃ X0 : α, True := by obtain ⟨X, _⟩ := hget 0 (by omega); exact ⟨X, trivial⟩
      have hspot : a.spot = none := by
        obtain ⟨X, hX⟩ := hget 0 (by omega)
        have hp := T.pos
        have h0 := hX 0 _ (List.getElem?_eq_getElem (by rw [T.len]; exact hp))
        unfold World.cell? at h0
        cases hs : a.spot with
        | none => rfl
        | some s =>
          have : ((a.add (0 * T.size)).add 0).spot.isSome = true := by simp [Addr.add, hs]
          split at h0
          · rw [if_pos this] at h0; cases h0
          · cases h0
      obtain ⟨b, o, sp⟩ := a
      simp only at hspot
      subst hspot
      let f : Nat → α := fun i => if h : i < len then Classical.choose (hget i h) else Classical.choose hne
      refine ⟨(List.range len).map f, _, rfl, some ⟨b, o, none⟩, cap, by simp, by simpa using hl, .inr ⟨b, o, rfl, Nat.zero_le _, .inl rfl, ?_⟩⟩
      intro i X hX
      simp only [List.getElem?_map] at hX
      have hi : i < len := by
        apply Classical.byContradiction
        intro hn
        rw [List.getElem?_eq_none (by simpa using hn)] at hX
        simp at hX
      rw [List.getElem?_range hi] at hX
      simp at hX
      subst hX
      have := Classical.choose_spec (hget i hi)
      intro j v hj
      have hf : f i = Classical.choose (hget i hi) := by simp [f, hi]
      rw [hf] at hj
      have h2 := this j v hj
      rw [Addr.add_mid, Addr.add_mid] at h2
      exact h2
theorem op_par1 {t : TypeId} {v : Value} {d : DataW H} {ps : List MemPlace} {Φ : List Value → Prop} (hv : v.cells = #[v]) (h : DataW.Trod enc P w base spare held t v d ps) (ho : Opens enc P w base spare held t Φ) : Φ [v] := by
  obtain ⟨n, hn⟩ := h
  have := ho _ _ _ hn
  rwa [hv] at this

/-! What goes out. -/
theorem trodAll_carry (hl : laidOutB P = true) {W W' : World} (hb : Below W.heap.size W W') : ∀ {ts : List TypeId} {vs : List Value} {ds : List (DataW H)} {ps : List MemPlace}, (ts.all fun t => P.readableRec t && decide (t < P.types.size)) = true →
    DataW.TrodAll enc P W 0 (fun _ => true) true ts vs ds ps → DataW.TrodAll enc P W' 0 (fun b => decide (b < W.heap.size)) true ts vs ds ps
  | [], [], [], _, _, h => h
  | t :: ts, v :: vs, d :: ds, ps, hr, h => by
    have hlt := h.lt
    obtain ⟨p, q, h1, h2, rfl⟩ := h
    simp only [List.all_cons, Bool.and_eq_true, decide_eq_true_eq] at hr
    exact ⟨p, q, Below.trod hl hr.1.1 hr.1.2 h1 hb (fun x hx => hlt x (List.mem_append_left _ hx)), trodAll_carry hl hb hr.2 h2, rfl⟩
  | [], _ :: _, _, _, _, h => h.elim
  | [], [], _ :: _, _, _, h => h.elim
  | _ :: _, [], _, _, _, h => h.elim
  | _ :: _, _ :: _, [], _, _, h => h.elim

/-- A law's row: true; the input reads as it did. -/
theorem law_post {f : Func} {s : ChangeSpec} {W W' : World} {args : Array Value} {ds : List (DataW H)} {before : List MemPlace} {tb : TypeId} (hl : laidOutB P = true) (hr : (f.params.toList.all fun t => P.readableRec t && decide (t < P.types.size)) = true) (hres : f.resultTypes = #[tb]) (htb : P.underlying tb = some .bool) (hvs : s.vars = [])
    (hs : s.fn H ds = { results := [.lit (.bool true)], args := ds }) (hW : DataW.Whole enc P f.params.toList s.vars false W args.toList ds [] before) (hE : Ext W W') : s.post enc P f false true false false W args (.bool true) W' := by
  have hb := hE.below
  have hW' := hW
  obtain ⟨p, q, hA, hV, rfl, hfz, hnd⟩ := hW
  rw [hvs] at hV
  have hq : q = [] := hV
  subst hq
  refine ⟨ds, [], p ++ [], [], p, [], hW', ?_, ?_, ?_, hb.frame _, fun h => by cases h⟩
  · rw [List.append_nil, hs, hres]
    exact trodAll_mk1 ⟨1, by simp [DataW.trod, htb, Value.cells]⟩
  · rw [List.append_nil, hs]
    exact trodAll_carry hl hb hr hA
  · rw [List.append_nil, hs, hvs]
    rfl
end
end Sd
