/- My own calculus: memory that the call itself makes and writes: stores, new slices, append; equality of structs; bytes to strings. -/
import Derived.Test.YtncamojfjhbanaaDoorK3
namespace Sk
open Go Go.RowKit

def flat {α : Type} (T : Ty α) (xs : List α) : List Value := xs.flatMap T.enc
theorem flat_length {α : Type} (T : Ty α) : ∀ xs : List α, (flat T xs).length = xs.length * T.size
  | [] => by simp [flat]
  | x :: xs => by
    have := flat_length T xs
    simp only [flat, List.flatMap_cons, List.length_append, T.len, List.length_cons, Nat.add_mul, Nat.one_mul] at *
    omega
theorem flat_get {α : Type} (T : Ty α) : ∀ (xs : List α) (i : Nat) (x : α), xs[i]? = some x → ∀ j v, (T.enc x)[j]? = some v → (flat T xs)[i * T.size + j]? = some v
  | [], i, x, h, _, _, _ => by simp at h
  | y :: xs, 0, x, h, j, v, hv => by
    simp at h
    subst h
    have hj : j < (T.enc y).length := (List.getElem?_eq_some_iff.1 hv).1
    rw [flat, List.flatMap_cons, Nat.zero_mul, Nat.zero_add, List.getElem?_append_left hj, hv]
  | y :: xs, i + 1, x, h, j, v, hv => by
    have := flat_get T xs i x (by simpa using h) j v hv
    rw [flat, List.flatMap_cons, List.getElem?_append_right (by rw [T.len, Nat.add_mul]; omega), T.len, show (i + 1) * T.size + j - T.size = i * T.size + j by rw [Nat.add_mul]; omega]
    exact this
theorem flat_append {α : Type} (T : Ty α) (xs ys : List α) : flat T (xs ++ ys) = flat T xs ++ flat T ys := List.flatMap_append
/-- A row that lies in memory, element by element. -/
theorem elems_of_range {α : Type} {T : Ty α} {w : World} {b o : Nat} {xs : List α} (h : w.rangeAt b o (flat T xs)) : ∀ (i : Nat) (x : α), xs[i]? = some x → w.rangeAt b (o + i * T.size) (T.enc x) := by
  intro i x hx j v hv
  have := h _ _ (flat_get T xs i x hx j v hv)
  rwa [← Nat.add_assoc] at this

/-- A slice of the call's own, in a block from base on (or nil). -/
def OwnT {α : Type} (T : Ty α) (base : Nat) (e : TypeId) (xs : List α) (v : Value) (w : World) : Prop := w.ownsRow base e T.size v xs.length (flat T xs)

theorem OwnT.nil {α : Type} (T : Ty α) (base : Nat) (e : TypeId) (w : World) : OwnT T base e [] (.slice none 0 0) w := World.ownsRow_nil w base e T.size
theorem OwnT.sl {α : Type} {T : Ty α} {base : Nat} {e : TypeId} {xs : List α} {v : Value} {w : World} (h : OwnT T base e xs v w) : SlT T base (w.heap.size + 1) xs v w := by
  rcases h.2 with ⟨rfl, hn⟩ | ⟨g, cap, cur, rfl, hb, hg, hnc, _, hcs, ht⟩
  · have : xs = [] := List.length_eq_zero_iff.1 hn
    subst this
    exact SlT.nil T _ _ w
  · refine ⟨_, cap, rfl, hnc, ?_⟩
    right
    refine ⟨g, 0, rfl, hb, (.inr (Nat.succ_lt_succ (Array.getElem?_eq_some_iff.1 hg).1)), elems_of_range fun j v hv => ?_⟩
    rw [Nat.zero_add, cell_of_row w g j cur e (0, 0) hg]
    rw [← ht, List.getElem?_take] at hv
    split at hv
    · simpa using hv
    · cases hv
theorem OwnT.block_lt {α : Type} {T : Ty α} {base : Nat} {e : TypeId} {xs : List α} {v : Value} {w : World} (h : OwnT T base e xs v w) {k : Nat} (hk : v.ownBlock = some k) : base ≤ k ∧ k < w.heap.size := World.ownsRow.lt h k hk
theorem OwnT.ext {α : Type} {T : Ty α} {base : Nat} {e : TypeId} {xs : List α} {v : Value} {w w' : World} (h : OwnT T base e xs v w) {E : Nat → Prop} (k : ExtE E w w') (hE : ∀ b, v.ownBlock = some b → ¬ E b) : OwnT T base e xs v w' := by
  refine ⟨h.1, ?_⟩
  rcases h.2 with hn | ⟨g, cap, cur, rfl, hb, hgg, rest⟩
  · exact .inl hn
  · exact .inr ⟨g, cap, cur, rfl, hb, (k.block g (Array.getElem?_eq_some_iff.1 hgg).1 (hE g rfl)).trans hgg, rest⟩
theorem OwnT.ext' {α : Type} {T : Ty α} {base : Nat} {e : TypeId} {xs : List α} {v : Value} {w w' : World} (h : OwnT T base e xs v w) (k : Ext w w') : OwnT T base e xs v w' := OwnT.ext h k (fun _ _ h => h)
theorem OwnT.base {α : Type} {T : Ty α} {base base' : Nat} {e : TypeId} {xs : List α} {v : Value} {w : World} (h : OwnT T base e xs v w) (hb : base' ≤ base) : OwnT T base' e xs v w := by
  refine ⟨h.1, h.2.imp id ?_⟩
  rintro ⟨g, cap, cur, hv, h1, rest⟩
  exact ⟨g, cap, cur, hv, Nat.le_trans hb h1, rest⟩

/-- The type of a slice, and all that append wants of its elements. -/
def AppIs (P : Program) (t e size bytes : Nat) : Prop := P.underlying t = some (.slice e) ∧ ∃ i z, P.info? e = some i ∧ i.zero = some z ∧ i.size = size ∧ i.bytes = bytes ∧ z.cells.size = size

def OwnP {R : World → World → Prop} {α : Type} (T : Ty α) (base e : Nat) (xs : List α) (st : ∀ v w w', OwnT T base e xs v w → R w w' → OwnT T base e xs v w') : Pr R := ⟨OwnT T base e xs, st⟩
def Pr.own' {α : Type} (T : Ty α) (base e : Nat) (xs : List α) : Pr Ext := ⟨OwnT T base e xs, fun _ _ _ h k => OwnT.ext' h k⟩

section
variable {P : Program} {ev : Operand → Value} {w : World} {Ψ : Value → World → Prop} {d : Option Tmp} {ty : TypeId} {pos : String} {af : Array Edge} {g : Option (Nat × Bool)}

/-- append's run, and whose block it is. -/
theorem run_append {α : Type} {T : Ty α} {base t e bytes : Nat} {tr : TypeId} {xs ys : List α} {v : Value} {b o c : Nat} {spot : Option Nat} (ha : AppIs P t e T.size bytes) (hown : OwnT T base e xs v w)
    (hy : ∀ j u, (flat T ys)[j]? = some u → w.cell? ((⟨b, o, spot⟩ : Addr).add j) = some u) (hlen : (xs.length + ys.length) * bytes ≤ 140737488355328) (hl2 : xs.length + ys.length ≤ 140737488355328) (hbase : base ≤ w.heap.size) :
    ∃ v' w', (Builtin.append_ #[t, t] tr #[v, .slice (some ⟨b, o, spot⟩) ys.length c]).run P w = .ok v' w' ∧ OwnT T base e (xs ++ ys) v' w' ∧ w.grownBy w' v.ownBlock ∧
      (∀ k, v'.ownBlock = some k → v.ownBlock = some k ∨ w.heap.size ≤ k) := by
  obtain ⟨ht, i, z, hi, hz, hsz, hby, hzs⟩ := ha
  have hone : ∀ u ∈ flat T ys, u.oneCell' = true := by
    intro u hu
    obtain ⟨x, _, hx⟩ := List.mem_flatMap.1 hu
    exact T.one x u hx
  have hmax : xs.length + ys.length ≤ maxLen := by unfold maxLen; omega
  obtain ⟨v', w', hr, ho, hg, _⟩ := run_append_own (P := P) w base t tr e i z T.size bytes ht hi hz hsz hby hzs T.pos v xs.length (flat T xs) hown ⟨b, o, spot⟩ ys.length c (flat T ys) (flat_length T ys) hy hone hmax hlen hbase
  refine ⟨v', w', hr, ?_, hg, ?_⟩
  · unfold OwnT
    rw [List.length_append, flat_append]
    exact ho
  · intro k hk
    have hown' : w.ownsRow base e T.size v xs.length (flat T xs) := hown
    rcases hown'.2 with ⟨rfl, hn⟩ | ⟨g', cap, cur, rfl, hb, hgg, hnc, hcm, hcs, htk⟩
    · have hx : xs = [] := List.length_eq_zero_iff.1 hn
      subst hx
      obtain ⟨v2, w2, hr2, ho2, _, _⟩ := run_append_own (P := P) w w.heap.size t tr e i z T.size bytes ht hi hz hsz hby hzs T.pos (.slice none 0 0) 0 [] (World.ownsRow_nil w w.heap.size e T.size) ⟨b, o, spot⟩ ys.length c (flat T ys) (flat_length T ys) hy hone hmax hlen (Nat.le_refl _)
      rw [hr] at hr2
      cases hr2
      exact .inr (ho2.lt k hk).1
    · by_cases hroom : xs.length + ys.length ≤ cap
      · left
        have hfit : xs.length * i.size + (flat T ys).length ≤ cur.size := by rw [flat_length, hcs, hsz, ← Nat.add_mul]; exact Nat.mul_le_mul_right _ hroom
        have hr2 := run_append_room (P := P) w t tr e i ht hi g' xs.length cap cur hgg ⟨b, o, spot⟩ ys.length c (flat T ys) (by rw [flat_length, hsz]) hy hone hroom hfit
        rw [hr] at hr2
        cases hr2
        exact hk
      · right
        have holds : ∀ j u, (flat T xs)[j]? = some u → w.cell? ((⟨g', 0, none⟩ : Addr).add j) = some u := hown'.cells (g := g') rfl
        have hr2 := run_append_grow (P := P) w t tr e i z ht hi hz ⟨g', 0, none⟩ xs.length cap (flat T xs) (by rw [flat_length, hsz]) holds ⟨b, o, spot⟩ ys.length c (flat T ys) (by rw [flat_length, hsz]) hy (by omega) (by unfold maxLen at hmax; omega) (growslice_fits (by omega) (by rw [hby]; exact hlen))
        rw [hr] at hr2
        cases hr2
        simp [Value.ownBlock] at hk
        omega

theorem grown_ext {v : Value} {w w' : World} (h : w.grownBy w' v.ownBlock) : ExtE (fun b => v.ownBlock = some b) w w' :=
  ⟨h.os, h.tape, h.output, h.size, fun k hk he => h.block k hk fun e => he e.symm⟩

/-- append of a slice that isn't nil. -/
theorem does_append {α : Type} {T : Ty α} {base t e bytes lo hi : Nat} {xs ys : List α} {v : Value} {x y : Operand} (ha : AppIs P t e T.size bytes) (hx : ev x = v) (hown : OwnT T base e xs v w) (hy : SlT T lo hi ys (ev y) w) (hne : ys ≠ [])
    (hlen : (xs.length + ys.length) * bytes ≤ 140737488355328) (hl2 : xs.length + ys.length ≤ 140737488355328) (hbase : base ≤ w.heap.size)
    (h : ∀ v' w', ExtE (fun b => v.ownBlock = some b) w w' → OwnT T base e (xs ++ ys) v' w' → (∀ k, v'.ownBlock = some k → v.ownBlock = some k ∨ w.heap.size ≤ k) → Ψ v' w') :
    Does P ev ⟨d, .call { callee := .builtin .append, args := #[x, y], argTypes := #[t, t] }, ty, pos, af, g⟩ w Ψ := by
  obtain ⟨a, cap, hv, hc, hr⟩ := hy
  obtain ⟨b, o, rfl, h1, h2, h3⟩ := hr.resolve_left hne
  have hcells : ∀ j u, (flat T ys)[j]? = some u → w.cell? ((⟨b, o, none⟩ : Addr).add j) = some u := by
    intro j u hu
    rw [Addr.add_mid]
    have hj : j < ys.length * T.size := by rw [← flat_length]; exact (List.getElem?_eq_some_iff.1 hu).1
    have hi' : j / T.size < ys.length := (Nat.div_lt_iff_lt_mul T.pos).2 hj
    have hx := h3 (j / T.size) _ (List.getElem?_eq_getElem hi')
    have hm : j % T.size < (T.enc ys[j / T.size]).length := by rw [T.len]; exact Nat.mod_lt _ T.pos
    have hg := flat_get T ys (j / T.size) _ (List.getElem?_eq_getElem hi') (j % T.size) _ (List.getElem?_eq_getElem hm)
    have hd : j / T.size * T.size + j % T.size = j := by rw [Nat.mul_comm]; exact Nat.div_add_mod j T.size
    rw [hd, hu] at hg
    have := hx _ _ (List.getElem?_eq_getElem hm)
    rw [← Option.some.inj hg] at this
    rw [← this, Nat.add_assoc, hd]
  obtain ⟨v', w', hrun, ho, hgr, hk⟩ := run_append (tr := ty) (c := cap) (P := P) ha hown hcells hlen hl2 hbase
  refine Does.value (v := v') (w' := w') ?_ (h v' w' (grown_ext hgr) ho hk)
  simp only [execOp, resolve, invoke, builtin, Sem.run_bind, Sem.run_pure, Result.andThen_ok, List.map_toArray, List.map_cons, List.map_nil, hx, hv]
  rw [hrun]
  rfl

/-- A new slice of one element. -/
theorem does_slice1 {α : Type} {T : Ty α} {t e n bytes : Nat} {y : Operand} {X : α} {V : Value} (ha : AppIs P t e n bytes) (hn : T.size = n) (hs : n ≤ 1000) (hy : ev y = V) (hV : V.cells.toList = T.enc X)
    (h : ∀ v w', Ext w w' → SlT T w.heap.size 0 [X] v w' → OwnT T w.heap.size e [X] v w' → Ψ v w') : Does P ev ⟨d, .buildSlice t 1 #[(0, y)], ty, pos, af, g⟩ w Ψ := by
  subst hn
  obtain ⟨ht, i, z, hi, hz, hsz, hby, hzs⟩ := ha
  have hVs : V.cells.size = T.size := by rw [← Array.length_toList, hV, T.len]
  have hpos := T.pos
  have hsize : (Go.sizeOf e).run P w = .ok T.size w := runSz (by simp [hi, hsz]) w
  have hzero : (zeroValue e).run P w = .ok z w := by simp [zeroValue, typeInfo, hi, hz]
  -- the cells that are laid
  have hfill : ∀ C : Array Value, C.size = T.size → Instr.fill (fun i => some (i * T.size, T.size)) C [(0, V)] = some V.cells := by
    intro C hC
    have hfold : V.cells.zipIdx.foldl (fun cs (c, j) => cs.setIfInBounds (0 + j) c) C = V.cells := by
      have key : ∀ (l : List Value) (k : Nat) (C : Array Value), k + l.length = C.size → ((l.zipIdx k).foldl (fun (cs : Array Value) (p : Value × Nat) => cs.setIfInBounds (0 + p.2) p.1) C).toList = C.toList.take k ++ l := by
        intro l
        induction l with
        | nil =>
          intro k C hk
          simp only [List.length_nil, Nat.add_zero] at hk
          simp only [List.zipIdx_nil, List.foldl_nil, List.append_nil]
          rw [List.take_of_length_le (by rw [Array.length_toList]; omega)]
        | cons u l ih =>
          intro k C hk
          simp only [List.zipIdx_cons, List.foldl_cons]
          rw [ih (k + 1) _ (by simp at hk ⊢; omega)]
          simp only [List.length_cons] at hk
          rw [Nat.zero_add, Array.toList_setIfInBounds, List.take_set, List.take_add_one]
          have hkk : k < C.size := by omega
          rw [show C.toList[k]? = some C[k] by simp [hkk]]
          simp only [Option.toList_some]
          have hm : min k C.size = k := by omega
          rw [List.set_append_right _ _ (by simp only [List.length_take, Array.length_toList, hm]; omega)]
          simp [hm]
      apply Array.toList_inj.1
      have := key V.cells.toList 0 C (by simp [hVs, hC])
      simp only [List.take_zero, List.nil_append] at this
      rw [← this, ← Array.foldl_toList]
      congr 1
      simp
    simp only [Instr.fill, hVs, hC, Nat.zero_mul, Nat.zero_add, ne_eq, not_true_eq_false, gt_iff_lt, Nat.lt_irrefl, decide_false, Bool.or_self, Bool.false_eq_true, if_false]
    simp only [Nat.zero_add] at hfold
    rw [hfold]
  refine Does.value (v := .slice (some ⟨w.heap.size, 0, none⟩) 1 1) (w' := w.alloc (.cells V.cells e)) ?_ ?_
  · have hf1 : ∀ C : Array Value, C.size = 1 * T.size → Instr.fill (fun i => some (i * T.size, T.size)) C [(0, V)] = some V.cells := fun C hC => hfill C (by omega)
    have h24 : ¬ (1 * T.size > 2 ^ 24) := by omega
    have hne : ¬ (1 * T.size = 0) := by omega
    simp only [execOp, Instr.buildSlice, Sem.run_bind, run_underlying ht, Result.andThen_ok, hsize, if_neg h24, if_neg hne, hzero, Sem.run_pure, List.map_toArray, List.map_cons, List.map_nil, hy]
    rw [hf1 _ (by simp)]
    simp [newRow, newObj, Sem.run]
  · have hflat : flat T [X] = V.cells.toList := by simp [flat, hV]
    have hown : OwnT T w.heap.size e [X] (.slice (some ⟨w.heap.size, 0, none⟩) 1 1) (w.alloc (.cells V.cells e)) := by
      refine ⟨by rw [flat_length], .inr ⟨w.heap.size, 1, V.cells, rfl, Nat.le_refl _, heap_alloc_new w _, Nat.le_refl _, by unfold maxLen; omega, by rw [hVs, Nat.one_mul], ?_⟩⟩
      rw [hflat, List.take_of_length_le]
      simp [hVs]
    exact h _ _ (Ext.alloc w _) (hown.sl.wide (Nat.le_refl _) (.inl rfl)) hown

/-- A store into a block of the call's own. -/
theorem does_store {t e : TypeId} {x y : Operand} {b o : Nat} {cs pre mid post : List Value} {V : Value} (hx : ev x = .pointer (some ⟨b, o, none⟩)) (hy : ev y = V) (hb : Has w b e cs) (hc : cs = pre ++ (mid ++ post)) (ho : pre.length = o)
    (hl : V.cells.size = mid.length) (ht : (P.info? t).map (·.size) = some mid.length) (h1 : ∀ u ∈ V.cells.toList, u.oneCell' = true)
    (h : ∀ w', ExtE (fun k => k = b) w w' → w'.heap.size = w.heap.size → Has w' b e (pre ++ (V.cells.toList ++ post)) → Ψ undef w') : Does P ev ⟨d, .store t x y, ty, pos, af, g⟩ w Ψ := by
  subst ho
  have hcs : cs.length = pre.length + (mid.length + post.length) := by rw [hc]; simp
  have hst := run_storeCells_at P b pre.length e V.cells.toList 0 cs.toArray w hb (by simp [hl]; omega) h1
  simp only [Nat.add_zero] at hst
  have hnew : cs.toArray.toList.take pre.length ++ V.cells.toList ++ cs.toArray.toList.drop (pre.length + V.cells.toList.length) = pre ++ (V.cells.toList ++ post) := by
    have hl' : V.cells.toList.length = mid.length := by rw [Array.length_toList, hl]
    rw [hc, hl']
    simp
  rw [hnew] at hst
  refine Does.skip (w' := w.setRow b (pre ++ (V.cells.toList ++ post)).toArray) ?_ (h _ ?_ (by simp) (setRow_heap w b _ _ e _ hb))
  · have hsz := runSz ht w
    have hne : ¬ (V.cells.size ≠ mid.length) := by simp [hl]
    simp only [execOp, hx, hy, Instr.storeAt, Instr.sureAddr, storeVar, Sem.run_bind, Sem.run_pure, Result.andThen_ok, hsz, if_neg hne]
    rw [hst]
    rfl
  · exact ⟨rfl, rfl, rfl, by simp, fun k _ he => setRow_other w b k _ he⟩

/-! Equality of structs and arrays. -/
def EqIs {α : Type} [DecidableEq α] (P : Program) (t : TypeId) (val : α → Value) : Prop :=
  (∀ a b w, (Op.equal t (val a) (val b)).run P w = .ok (decide (a = b)) w) ∧ (∀ a, ∃ cs, val a = .agg cs) ∧ P.eqGuardType P.depth t = false
theorem does_eqT {α : Type} [DecidableEq α] {t t' : TypeId} {val : α → Value} {x y : Operand} {a b : α} (hE : EqIs P t val) (hx : ev x = val a) (hy : ev y = val b) (h : Ψ (.bool (decide (a = b))) w) : Does P ev ⟨d, .binOp .eql t x y t', ty, pos, af, g⟩ w Ψ := by
  obtain ⟨h1, h2, h3⟩ := hE
  obtain ⟨ca, hca⟩ := h2 a
  obtain ⟨cb, hcb⟩ := h2 b
  refine Does.value (v := .bool (decide (a = b))) (w' := w) ?_ h
  have he := h1 a b w
  rw [hca, hcb] at he
  simp only [execOp, hx, hy, hca, hcb, Sem.run_bind, run_eqGuard_agg w .eql t x y ca cb h3, Result.andThen_ok, binOp, he]
  rfl
theorem does_neT {α : Type} [DecidableEq α] {t t' : TypeId} {val : α → Value} {x y : Operand} {a b : α} (hE : EqIs P t val) (hx : ev x = val a) (hy : ev y = val b) (h : Ψ (.bool (!decide (a = b))) w) : Does P ev ⟨d, .binOp .neq t x y t', ty, pos, af, g⟩ w Ψ := by
  obtain ⟨h1, h2, h3⟩ := hE
  obtain ⟨ca, hca⟩ := h2 a
  obtain ⟨cb, hcb⟩ := h2 b
  refine Does.value (v := .bool (!decide (a = b))) (w' := w) ?_ h
  have he := h1 a b w
  rw [hca, hcb] at he
  simp only [execOp, hx, hy, hca, hcb, Sem.run_bind, run_eqGuard_agg w .neq t x y ca cb h3, Result.andThen_ok, binOp, he]
  rfl

/-- Bytes to a string. -/
theorem does_string {lo hi t s e : Nat} {x : Operand} {l : List UInt8} (ht : P.underlying t = some .string) (hs : P.underlying s = some (.slice e)) (he : P.underlying e = some (.int .u8)) (hx : SlT W8 lo hi l (ev x) w) (h : Ψ (str l) w) :
    Does P ev ⟨d, .convert s t x, ty, pos, af, g⟩ w Ψ := by
  obtain ⟨a, cap, hv, hc, hr⟩ := hx
  refine Does.value (v := str l) (w' := w) ?_ h
  have hfold : ∀ (m : List UInt8) (pre : ByteArray), (m.map fun c => (c.toNat : Int)).foldl (fun (r : ByteArray) (n : Int) => r.push (UInt8.ofNat n.toNat)) pre = ⟨pre.data ++ m.toArray⟩ := by
    intro m
    induction m with
    | nil => intro pre; simp
    | cons c m ih =>
      intro pre
      simp only [List.map_cons, List.foldl_cons]
      rw [ih]
      congr 1
      simp [ByteArray.push, UInt8.ofNat_toNat]
  have hconv : (convert s t (ev x)).run P w = .ok (str l) w := by
    rw [hv, run_convert_bytes_string w s t e _ _ _ hs he ht]
    rcases hr with rfl | ⟨b, o, rfl, _, _, h3⟩
    · cases a with
      | none => rfl
      | some a =>
        rw [run_bytesToString w a _ cap [] (by simp [loadCells, loadCellsFrom])]
        rfl
    · have hl : (loadCells ⟨b, o, none⟩ l.length).run P w = .ok ((l.map fun c => (c.toNat : Int)).map (Value.int .u8)).toArray w := by
        have := run_loadCells_list (P := P) w ⟨b, o, none⟩ ((l.map fun c => (c.toNat : Int)).map (Value.int .u8)) (fun j v hj => by
          rw [Addr.add_mid]
          simp only [List.map_map, List.getElem?_map] at hj
          cases hc : l[j]? with
          | none => simp [hc] at hj
          | some c =>
            have h5 := h3 j c hc 0 (w8 c) rfl
            simp [hc] at hj
            rw [← hj]
            simpa [W8, w8] using h5)
        simpa using this
      rw [run_bytesToString w _ _ cap _ hl, hfold]
      simp [str]
  simp [execOp, hconv]
end
end Sk
