/- My own calculus: further rules: slices of arrays, literals, append that grows, bits, unrolled loops, regions with late operations. -/
import Derived.Test.YtncamojfjhbanaaDoorK7
import Derived.LoopN
import Derived.Great.BuildSlice
namespace Sk
open Go Go.RowKit

theorem loop_rounds {P : Program} {Q : Exit → Act → World → Prop} {a : Act} {w : World} {c : Code} (n : Nat) (h : Code.rounds P c Q n a w) : (Code.loop c).wp P Q a w := wp_loop_rounds n h
theorem round_step {P : Program} {Q : Exit → Act → World → Prop} {a : Act} {w : World} {c : Code} {n : Nat} (h : c.wp P (Exit.then (Code.rounds P c Q n) Q) a w) : Code.rounds P c Q (n + 1) a w := h
theorem wp_ifT {P : Program} {Q : Exit → Act → World → Prop} {a : Act} {w : World} {c : Operand} {x y : Code} (hc : a.eval c = .bool true) (h : x.wp P Q a w) : (Code.cond c x y).wp P Q a w := wp_if hc (fun _ => h) (fun h => by cases h)
theorem wp_ifF {P : Program} {Q : Exit → Act → World → Prop} {a : Act} {w : World} {c : Operand} {x y : Code} (hc : a.eval c = .bool false) (h : y.wp P Q a w) : (Code.cond c x y).wp P Q a w := wp_if hc (fun h => by cases h) (fun _ => h)

section
variable {P : Program} {ev : Operand → Value} {w : World} {Ψ : Value → World → Prop} {d : Option Tmp} {ty : TypeId} {pos : String} {af : Array Edge} {g : Option (Nat × Bool)}

theorem does_indexArrV {t len e : Nat} {x y : Operand} {cs : List Value} {k : IntKind} {i : Int} {V : Value} (ha : ArrIs P t len e 1) (he : OneIs P e) (hx : ev x = .agg cs.toArray) (hy : ev y = .int k i) (h0 : 0 ≤ i) (h1 : i < len) (hV : cs[i.toNat]? = some V) (h : Ψ V w) :
    Does P ev ⟨d, .index t x y, ty, pos, af, g⟩ w Ψ := by
  obtain ⟨D, h2, h3, h4⟩ := he
  refine Does.value (v := V) (w' := w) ?_ h
  have hagg : (isAgg e).run P w = .ok false w := by rw [Sd.run_isAgg h2, h3]
  simp [execOp, hx, hy, Instr.index, asIntOf, run_underlying ha.1, h0, h1, runSz ha.2, part, hagg, hV]

theorem does_arrHi {t e n len b o : Nat} {x y : Operand} {k : IntKind} {i : Int} (ha : ArrIs P t len e n) (hx : ev x = .pointer (some ⟨b, o, none⟩)) (hy : ev y = .int k i) (h0 : 0 ≤ i) (h1 : i ≤ len) (h : Ψ (.slice (some ⟨b, o, none⟩) i.toNat len) w) :
    Does P ev ⟨d, .slice t x none (some y) none, ty, pos, af, g⟩ w Ψ := by
  have ht : P.underlying t = some (.array (P.arrayLen t) (P.elem t)) := by
    have := ha.1; simp [Program.elem, Program.arrayLen, this]
  have he : P.elem t = e := by have := ha.1; simp [Program.elem, this]
  have hle : P.arrayLen t = len := by have := ha.1; simp [Program.arrayLen, this]
  refine Does.value (v := .slice (some ⟨b, o, none⟩) i.toNat len) (w' := w) ?_ h
  simp only [execOp, hx, hy, Option.map_none, Option.map_some, Sem.run_bind]
  rw [run_sliceAt_array_h w t _ ht k i h0 (by rw [hle]; exact h1), he, hle, runSz ha.2]
  simp [slicedAt, Addr.add_mid]
theorem does_arrAll {t e n len b o : Nat} {x : Operand} (ha : ArrIs P t len e n) (hx : ev x = .pointer (some ⟨b, o, none⟩)) (h : Ψ (.slice (some ⟨b, o, none⟩) len len) w) :
    Does P ev ⟨d, .slice t x none none none, ty, pos, af, g⟩ w Ψ := by
  have ht : P.underlying t = some (.array (P.arrayLen t) (P.elem t)) := by
    have := ha.1; simp [Program.elem, Program.arrayLen, this]
  have he : P.elem t = e := by have := ha.1; simp [Program.elem, this]
  have hle : P.arrayLen t = len := by have := ha.1; simp [Program.arrayLen, this]
  refine Does.value (v := .slice (some ⟨b, o, none⟩) len len) (w' := w) ?_ h
  simp only [execOp, hx, Option.map_none, Sem.run_bind]
  rw [run_sliceAt_array_all w t _ ht, he, hle, runSz ha.2]
  simp [slicedAt, Addr.add_mid]
theorem does_arrPtr {t e n : Nat} {x : Operand} {len cap b o m : Nat} (ha : ArrIs P t m e n) (hx : ev x = .slice (some ⟨b, o, none⟩) len cap) (hm : m ≤ len) (h : Ψ (.pointer (some ⟨b, o, none⟩)) w) :
    Does P ev ⟨d, .sliceToArrayPointer t x, ty, pos, af, g⟩ w Ψ := by
  refine Does.value (v := .pointer (some ⟨b, o, none⟩)) (w' := w) ?_ h
  simp [execOp, hx, Instr.arrayAt, run_underlying ha.1, show ¬ len < m by omega]

/-- A slice of a part of a known block. -/
theorem SlT.ofHas {α : Type} {T : Ty α} {b e o n cap : Nat} {cs : List Value} {xs : List α} (hb : Has w b e cs) (hc : (cs.drop o).take (flat T xs).length = flat T xs) (hn : xs.length = n) (hcap : n ≤ cap) (ho : o ≤ cs.length) : SlT T 0 0 xs (.slice (some ⟨b, o, none⟩) n cap) w := by
  subst hn
  refine ⟨_, cap, rfl, hcap, .inr ⟨b, o, rfl, Nat.zero_le _, .inl rfl, elems_of_range ?_⟩⟩
  have := hb.range (cs.take o) (flat T xs) ((cs.drop o).drop (flat T xs).length) (by
    conv => rhs; rhs; lhs; rw [← hc]
    rw [List.take_append_drop, List.take_append_drop])
  rwa [List.length_take, Nat.min_eq_left ho] at this

/-- A literal. -/
theorem does_sliceN {α : Type} {T : Ty α} {t e n bytes len : Nat} {parts : Array (Nat × Operand)} {xs : List α} {vs : List Value} (ha : AppIs P t e n bytes) (hn : T.size = n) (hp : (parts.map fun (i, x) => (i, ev x)) = ((vs.zipIdx 0).map fun x => (x.2, x.1)).toArray)
    (hl : xs.length = len) (hpos : 0 < len) (hs : len * n ≤ 1000) (hV : vs.map (fun v => v.cells.toList) = xs.map T.enc)
    (h : ∀ v w', Ext w w' → SlT T w.heap.size 0 xs v w' → OwnT T w.heap.size e xs v w' → Ψ v w') : Does P ev ⟨d, .buildSlice t len parts, ty, pos, af, g⟩ w Ψ := by
  subst hn; subst hl
  obtain ⟨ht, i, z, hi, hz, hsz, hby, hzs⟩ := ha
  have hvl : vs.length = xs.length := by have := congrArg List.length hV; simpa using this
  have hc1 : ∀ v ∈ vs, v.cells.size = T.size := by
    intro v hv
    have : v.cells.toList ∈ vs.map (fun v => v.cells.toList) := List.mem_map.2 ⟨v, hv, rfl⟩
    rw [hV] at this
    obtain ⟨x, _, hx⟩ := List.mem_map.1 this
    rw [← Array.length_toList, ← hx, T.len]
  have hflat : (vs.flatMap fun v => v.cells.toList) = flat T xs := by
    rw [flat, List.flatMap, List.flatMap, hV]
  have hfill : Instr.fill (fun i => some (i * T.size, T.size)) ((Array.range (xs.length * T.size)).map (z.cells[· % z.cells.size]!)) ((vs.zipIdx 0).map fun x => (x.2, x.1)) = some (flat T xs).toArray := by
    rw [Great.fill_whole T.pos vs _ hc1 (by simp [hvl]), hflat]
  have hpz : 0 < xs.length * T.size := Nat.mul_pos hpos T.pos
  refine Does.value (v := .slice (some ⟨w.heap.size, 0, none⟩) xs.length xs.length) (w' := w.alloc (.cells (flat T xs).toArray e)) ?_ ?_
  · have := run_buildSlice (P := P) w t e xs.length ((vs.zipIdx 0).map fun x => (x.2, x.1)).toArray (flat T xs).toArray i z ht hi hz (by rw [hsz]; omega) (by rw [hsz]; omega) (by rw [hsz]; simpa using hfill)
    simp only [execOp, hp, Sem.run_bind, this]
    rfl
  · have hown : OwnT T w.heap.size e xs (.slice (some ⟨w.heap.size, 0, none⟩) xs.length xs.length) (w.alloc (.cells (flat T xs).toArray e)) := by
      refine ⟨by rw [flat_length], .inr ⟨w.heap.size, xs.length, _, rfl, Nat.le_refl _, heap_alloc_new w _, Nat.le_refl _, ?_, by simp [flat_length], ?_⟩⟩
      · unfold maxLen
        have : xs.length ≤ xs.length * T.size := Nat.le_mul_of_pos_right _ T.pos
        omega
      · rw [← flat_length]; simp
    exact h _ _ (Ext.alloc w _) (hown.sl.wide (Nat.le_refl _) (.inl rfl)) hown

/-- append to a slice that has no room: a new one. -/
theorem does_appendG {α : Type} {T : Ty α} {base t e bytes lo hi lo' hi' : Nat} {xs ys : List α} {b : Option Addr} {x y : Operand} (ha : AppIs P t e T.size bytes) (hx : ev x = .slice b xs.length xs.length) (hxs : SlT T lo' hi' xs (ev x) w) (hy : SlT T lo hi ys (ev y) w) (hne : ys ≠ [])
    (hlen : (xs.length + ys.length) * bytes ≤ 140737488355328) (hl2 : xs.length + ys.length ≤ 140737488355328) (hbase : base ≤ w.heap.size)
    (h : ∀ v' w', Ext w w' → OwnT T base e (xs ++ ys) v' w' → (∀ k, v'.ownBlock = some k → w.heap.size ≤ k) → Ψ v' w') :
    Does P ev ⟨d, .call { callee := .builtin .append, args := #[x, y], argTypes := #[t, t] }, ty, pos, af, g⟩ w Ψ := by
  rw [hx] at hxs
  obtain ⟨a, cap, hv, hc, hr⟩ := hy
  obtain ⟨b2, o, rfl, h1, h2, h3⟩ := hr.resolve_left hne
  have cells : ∀ {zs : List α} {b2 o : Nat}, (∀ (i : Nat) (x : α), zs[i]? = some x → w.rangeAt b2 (o + i * T.size) (T.enc x)) → ∀ j u, (flat T zs)[j]? = some u → w.cell? ((⟨b2, o, none⟩ : Addr).add j) = some u := by
    intro zs b2 o h3 j u hu
    rw [Addr.add_mid]
    have hj : j < zs.length * T.size := by rw [← flat_length]; exact (List.getElem?_eq_some_iff.1 hu).1
    have hi' : j / T.size < zs.length := (Nat.div_lt_iff_lt_mul T.pos).2 hj
    have hx := h3 (j / T.size) _ (List.getElem?_eq_getElem hi')
    have hm : j % T.size < (T.enc zs[j / T.size]).length := by rw [T.len]; exact Nat.mod_lt _ T.pos
    have hg := flat_get T zs (j / T.size) _ (List.getElem?_eq_getElem hi') (j % T.size) _ (List.getElem?_eq_getElem hm)
    have hd : j / T.size * T.size + j % T.size = j := by rw [Nat.mul_comm]; exact Nat.div_add_mod j T.size
    rw [hd, hu] at hg
    have := hx _ _ (List.getElem?_eq_getElem hm)
    rw [← Option.some.inj hg] at this
    rw [← this, Nat.add_assoc, hd]
  by_cases hz : xs = []
  · subst hz
    have hown : OwnT T base e ([] : List α) (.slice none 0 0) w := OwnT.nil T base e w
    have hbnil : ∀ tr, (Builtin.append_ #[t, t] tr #[.slice b 0 0, .slice (some ⟨b2, o, none⟩) ys.length cap]).run P w = (Builtin.append_ #[t, t] tr #[.slice none 0 0, .slice (some ⟨b2, o, none⟩) ys.length cap]).run P w := by
      intro tr
      obtain ⟨ht, i, z, hi, hz, hsz, hby, hzs⟩ := ha
      have hyl : 0 < ys.length := List.length_pos_iff.2 hne
      have h63 : ¬ (9223372036854775807 < (ys.length : Int)) := by simp only [List.length_nil] at hl2; omega
      have hfit : ¬ (281474976710656 < Builtin.nextslicecap ys.length 0 * i.bytes) := by
        have := growslice_fits (need := ys.length) (old := 0) (bytes := i.bytes) (by omega) (by rw [hby]; simpa using hlen)
        omega
      simp [Builtin.append_, run_underlying ht, Go.sizeOf, typeInfo, zeroValue, hi, hz, Builtin.lenOf, Builtin.firstCells, loadCells, loadCellsFrom, show ys ≠ [] from hne, h63, hfit, Question.forced]
      cases b <;> simp
    obtain ⟨v', w', hrun, ho, hgr, hk⟩ := run_append (tr := ty) (c := cap) (P := P) ha hown (cells h3) hlen hl2 hbase
    have he := grown_ext hgr
    refine Does.value (v := v') (w' := w') ?_ (h v' w' (ExtE.mono he fun k _ hk => by simp [Value.ownBlock] at hk) ho fun k hk' => (hk k hk').resolve_left (by simp [Value.ownBlock]))
    simp only [execOp, resolve, invoke, builtin, Sem.run_bind, Sem.run_pure, Result.andThen_ok, List.map_toArray, List.map_cons, List.map_nil, hx, hv]
    rw [List.length_nil, hbnil, hrun]
    rfl
  · obtain ⟨a2, cap2, hv2, _, hr2⟩ := hxs
    obtain ⟨b3, o3, ha3, _, _, h5⟩ := hr2.resolve_left hz
    cases hv2
    subst ha3
    obtain ⟨ht, i, z, hi, hzz, hsz, hby, hzs⟩ := ha
    have hyl : 0 < ys.length := List.length_pos_iff.2 hne
    have hr := run_append_grow (P := P) w t ty e i z ht hi hzz ⟨b3, o3, none⟩ xs.length xs.length (flat T xs) (by rw [flat_length, hsz]) (cells h5) ⟨b2, o, none⟩ ys.length cap (flat T ys) (by rw [flat_length, hsz]) (cells h3) (by omega) (by omega) (growslice_fits (by omega) (by rw [hby]; exact hlen))
    have hge := grownCap_ge w (xs.length + ys.length) xs.length e
    have hcm : grownCap w (xs.length + ys.length) xs.length e ≤ maxLen := grownCap_le_maxLen w _ _ e (by unfold maxLen; omega)
    have hlen2 : (flat T (xs ++ ys)).length = (xs.length + ys.length) * T.size := by rw [flat_length, List.length_append]
    refine Does.value (v := .slice (some ⟨w.heap.size, 0, none⟩) (xs.length + ys.length) (grownCap w (xs.length + ys.length) xs.length e)) (w' := w.drew.alloc (.cells ((flat T xs).toArray ++ (flat T ys).toArray ++ Builtin.zeroCells z.cells (grownCap w (xs.length + ys.length) xs.length e - (xs.length + ys.length))) e)) ?_ (h _ _ ?_ ?_ ?_)
    · simp only [execOp, resolve, invoke, builtin, Sem.run_bind, Sem.run_pure, Result.andThen_ok, List.map_toArray, List.map_cons, List.map_nil, hx, hv]
      rw [hr]
      rfl
    · exact ⟨rfl, rfl, rfl, by simp, fun k hk _ => heap_alloc_old w.drew _ hk⟩
    · unfold OwnT
      rw [List.length_append]
      refine ⟨hlen2, .inr ⟨w.heap.size, _, _, rfl, hbase, heap_alloc_new w.drew _, hge, hcm, ?_, ?_⟩⟩
      · simp only [Array.size_append, List.size_toArray, size_zeroCells, hzs, flat_length, ← Nat.add_mul]
        congr 1
        omega
      · simp only [Array.toList_append, List.append_assoc]
        rw [flat_append, ← List.append_assoc, ← hlen2, flat_append]
        exact List.take_left
    · intro k hk
      simp [Value.ownBlock] at hk
      omega

/-! Bits. -/
theorem does_band {x y : Operand} {t t' : TypeId} {k : IntKind} {a b r : Int} (hx : ev x = .int k a) (hy : ev y = .int k b) (hr : bits .and k a b = r) (h : Ψ (.int k r) w) : Does P ev ⟨d, .binOp .and t x y t', ty, pos, af, g⟩ w Ψ := by
  refine Does.value (v := .int k r) (w' := w) ?_ h
  simp [execOp, hx, hy, eqGuard_and, binOp_and, intBits_and, hr]
theorem does_bor {x y : Operand} {t t' : TypeId} {k : IntKind} {a b r : Int} (hx : ev x = .int k a) (hy : ev y = .int k b) (hr : bits .or k a b = r) (h : Ψ (.int k r) w) : Does P ev ⟨d, .binOp .or t x y t', ty, pos, af, g⟩ w Ψ := by
  refine Does.value (v := .int k r) (w' := w) ?_ h
  simp [execOp, hx, hy, eqGuard_or, binOp_or, intBits_or, hr]
theorem does_ksub {x y : Operand} {t t' : TypeId} {k : IntKind} {a b r : Int} (hx : ev x = .int k a) (hy : ev y = .int k b) (hr : k.wrap (a - b) = r) (h : Ψ (.int k r) w) : Does P ev ⟨d, .binOp .sub t x y t', ty, pos, af, g⟩ w Ψ := by
  refine Does.value (v := .int k r) (w' := w) ?_ h
  simp [execOp, hx, hy, eqGuard_sub, binOp_sub, Op.intArith, hr]
theorem does_kadd {x y : Operand} {t t' : TypeId} {k : IntKind} {a b r : Int} (hx : ev x = .int k a) (hy : ev y = .int k b) (hr : k.wrap (a + b) = r) (h : Ψ (.int k r) w) : Does P ev ⟨d, .binOp .add t x y t', ty, pos, af, g⟩ w Ψ := by
  refine Does.value (v := .int k r) (w' := w) ?_ h
  simp [execOp, hx, hy, eqGuard_add, binOp_add, Op.intArith, hr]
theorem does_kmul {x y : Operand} {t t' : TypeId} {k : IntKind} {a b r : Int} (hx : ev x = .int k a) (hy : ev y = .int k b) (hr : k.wrap (a * b) = r) (h : Ψ (.int k r) w) : Does P ev ⟨d, .binOp .mul t x y t', ty, pos, af, g⟩ w Ψ := by
  refine Does.value (v := .int k r) (w' := w) ?_ h
  simp [execOp, hx, hy, eqGuard_mul, binOp_mul, Op.intArith, hr]
end
end Sk
