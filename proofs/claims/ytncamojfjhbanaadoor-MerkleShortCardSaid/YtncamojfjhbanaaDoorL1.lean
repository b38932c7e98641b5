/- What comes in by a row, opened into what the walks speak of; what goes out. -/
import Derived.Test.YtncamojfjhbanaaDoorK13
import Derived.Carry
import Derived.OpenShut
import Derived.ChangeArms
import Derived.Deep.Slices
import Derived.LaidMore
import Derived.JoinedOf
import Derived.ChangeShapes
import Derived.ProofKit
namespace Sd
open Go Go.RowKit Sk Go.WideShapes Go.ChangeShapes Go.Deep

section
variable {H : Type} {enc : TypeId × Value → H} {P : Program} {w : World} {base : Nat} {spare : Nat → Bool} {held : Bool}

/-- These cells, at this type, read as something of which Φ holds. -/
def Opens (enc : TypeId × Value → H) (P : Program) (w : World) (base : Nat) (spare : Nat → Bool) (held : Bool) (t : TypeId) (Φ : List Value → Prop) : Prop :=
  ∀ n cs x, DataW.trod enc P w base spare held n t cs = some x → Φ cs

theorem op_int {t : TypeId} {k : IntKind} (ht : P.underlying t = some (.int k)) : Opens enc P w base spare held t (fun cs => ∃ n, cs = [.int k n] ∧ (Lit.int k n).wf = true) := by
  intro n cs x h
  obtain ⟨m, h1, _, h2⟩ := DataW.trod_int ht h
  exact ⟨m, h1, h2⟩
theorem op_u32 {t : TypeId} (ht : P.underlying t = some (.int .u32)) : Opens enc P w base spare held t (fun cs => ∃ z : UInt32, cs = [w32 z]) := by
  intro n cs x h
  obtain ⟨m, rfl, hw⟩ := op_int ht n cs x h
  simp [Lit.wf, IntKind.min, IntKind.max, IntKind.signed, IntKind.bits] at hw
  refine ⟨UInt32.ofNat m.toNat, ?_⟩
  have : ((UInt32.ofNat m.toNat).toNat : Int) = m := by
    rw [UInt32.toNat_ofNat', Nat.mod_eq_of_lt (by omega)]; omega
  rw [w32, this]
theorem len4 {cs : List Value} (h : cs.length = 4) : ∃ c0 c1 c2 c3, cs = [c0, c1, c2, c3] := by
  match cs, h with
  | [a, b, c, d], _ => exact ⟨a, b, c, d, rfl⟩
/-- An array of digests' words. -/
theorem op_dg {t e : TypeId} (ht : P.underlying t = some (.array 4 e)) (he : P.underlying e = some (.int .u32)) (hc : P.cellsOf e = 1) (hc2 : P.cellsOf t = 4) : Opens enc P w base spare held t (fun cs => ∃ d : Dg, cs = Dg.cells d) := by
  intro n cs x h
  obtain ⟨xs, m, _, _, hl, hn, hel⟩ := DataW.trod_array ht h
  rw [hc2] at hl
  have get : ∀ i, i < 4 → ∃ z : UInt32, (cs.drop i).take 1 = [w32 z] := by
    intro i hi
    have h1 := hel i hi
    rw [hc, Nat.mul_one] at h1
    have hx : ∃ y, xs[i]? = some y := ⟨xs[i], List.getElem?_eq_getElem (by omega)⟩
    obtain ⟨y, hy⟩ := hx
    rw [hy] at h1
    exact op_u32 he _ _ _ h1
  obtain ⟨a, ha⟩ := get 0 (by decide)
  obtain ⟨b, hb⟩ := get 1 (by decide)
  obtain ⟨c, hcc⟩ := get 2 (by decide)
  obtain ⟨d, hd⟩ := get 3 (by decide)
  refine ⟨⟨a, b, c, d⟩, ?_⟩
  obtain ⟨c0, c1, c2, c3, rfl⟩ : ∃ c0 c1 c2 c3, cs = [c0, c1, c2, c3] := len4 hl
  simp at ha hb hcc hd
  subst ha; subst hb; subst hcc; subst hd
  rfl
/-- A parameter that is a row: its cells. -/
theorem okWide_agg {r : Reach} {b0 : Nat} {t : TypeId} {v : Value} {D : TypeDesc} (ht : P.underlying t = some D) (hD : D.isRow = true) (h : Value.okWide P w r b0 t v) : ∃ cs, v = .agg cs := by
  cases D <;> simp [TypeDesc.isRow] at hD <;> (simp only [Value.okWide, ht] at h; obtain ⟨cs, h1, _⟩ := h; exact ⟨cs, h1⟩)
theorem op_par {r : Reach} {b0 : Nat} {t : TypeId} {v : Value} {D : TypeDesc} {d : DataW H} {ps : List MemPlace} {Φ : List Value → Prop} (ht : P.underlying t = some D) (hD : D.isRow = true) (hval : Value.okWide P w r b0 t v) (h : DataW.Trod enc P w base spare held t v d ps) (ho : Opens enc P w base spare held t Φ) :
    ∃ cs, v = .agg cs.toArray ∧ Φ cs := by
  obtain ⟨cs, rfl⟩ := okWide_agg ht hD hval
  obtain ⟨n, hn⟩ := h
  exact ⟨cs.toList, by simp, ho _ _ _ hn⟩
theorem op_par1 {t : TypeId} {v : Value} {d : DataW H} {ps : List MemPlace} {Φ : List Value → Prop} (hv : v.cells = #[v]) (h : DataW.Trod enc P w base spare held t v d ps) (ho : Opens enc P w base spare held t Φ) : Φ [v] := by
  obtain ⟨n, hn⟩ := h
  have := ho _ _ _ hn
  rwa [hv] at this

/-! What goes out. -/
theorem trodAll_carry (hl : laidOutB P = true) {W W' : World} (hb : Below W.heap.size W W') : ∀ {ts : List TypeId} {vs : List Value} {ds : List (DataW H)} {ps : List MemPlace}, (ts.all fun t => P.readableRec t && decide (t < P.types.size)) = true →
    DataW.TrodAll enc P W 0 (fun _ => true) true ts vs ds ps → DataW.TrodAll enc P W' 0 (fun b => decide (b < W.heap.size)) true ts vs ds ps
  | [], [], [], _, _, h => h
  | t :: ts, v :: vs, d :: ds, ps, hr, h => by
    have hlt := h.lt
    obtain ⟨p, q, h1, h2, rfl⟩ := h
    simp only [List.all_cons, Bool.and_eq_true, decide_eq_true_eq] at hr
    exact ⟨p, q, Below.trod hl hr.1.1 hr.1.2 h1 hb (fun x hx => hlt x (List.mem_append_left _ hx)), trodAll_carry hl hb hr.2 h2, rfl⟩
  | [], _ :: _, _, _, _, h => h.elim
  | [], [], _ :: _, _, _, h => h.elim
  | _ :: _, [], _, _, _, h => h.elim
  | _ :: _, _ :: _, [], _, _, h => h.elim

/-- A law's row: true; the input reads as it did. -/
theorem law_post {f : Func} {s : ChangeSpec} {W W' : World} {args : Array Value} {ds : List (DataW H)} {before : List MemPlace} {tb : TypeId} (hl : laidOutB P = true) (hr : (f.params.toList.all fun t => P.readableRec t && decide (t < P.types.size)) = true) (hres : f.resultTypes = #[tb]) (htb : P.underlying tb = some .bool) (hvs : s.vars = [])
    (hs : s.fn H ds = { results := [.lit (.bool true)], args := ds }) (hW : DataW.Whole enc P f.params.toList s.vars false W args.toList ds [] before) (hE : Ext W W') : s.post enc P f false true false false W args (.bool true) W' := by
  have hb := hE.below
  have hW' := hW
  obtain ⟨p, q, hA, hV, rfl, hfz, hnd⟩ := hW
  rw [hvs] at hV
  have hq : q = [] := hV
  subst hq
  refine ⟨ds, [], p ++ [], [], p, [], hW', ?_, ?_, ?_, hb.frame _, fun h => by cases h⟩
  · rw [List.append_nil, hs, hres]
    exact trodAll_mk1 ⟨1, by simp [DataW.trod, htb, Value.cells]⟩
  · rw [List.append_nil, hs]
    exact trodAll_carry hl hb hr hA
  · rw [List.append_nil, hs, hvs]
    rfl
end
end Sd
