/- Arrays that are made, and appended to. -/
import Derived.Test.YtihhgkobmnjamaaFa
import Derived.MapKept
import Derived.Orders
namespace Go.DW
section
variable {P : Program} {Fr : Nat → Prop} {ρ : Rho} {w w' : World} {sg : Sg} {dst : Nat} {new : Bool} {ok : Nat → Prop}

theorem PReps.pmono {l : List PV} {us : List Value} {ok' : Nat → Prop} (h : PReps w ok l us) (hm : ∀ b, ok b → ok' b ∧ w'.heap[b]? = w.heap[b]?) : PReps w' ok' l us := PReps.mono hm h

theorem elemsP_cells : ∀ {l : List V} {xs : List PV} {us : List Value}, elemsP l = some xs → VReps w ok ρ (l.flatMap V.cellsV) us → PReps w ok (xs.flatMap PV.cells) us
  | [], xs, us, h, hv => by simp [elemsP] at h; subst h; simp at hv; cases hv; exact .nil
  | v :: l, xs, us, h, hv => by
    simp only [elemsP] at h
    cases h1 : elemP v <;> simp [h1] at h
    cases h2 : elemsP l <;> simp [h2] at h
    subst h
    rename_i x xs
    simp only [List.flatMap_cons] at hv ⊢
    have hx := elemP_length h1
    have e : us = us.take v.cellsV.length ++ us.drop v.cellsV.length := (List.take_append_drop _ _).symm
    have a1 := hv.take v.cellsV.length
    have a2 := hv.drop v.cellsV.length
    rw [List.take_left'  rfl] at a1
    rw [List.drop_left' rfl] at a2
    rw [e]
    exact PReps.append (elemsP_cells h2 a2) (elemP_cells h1 a1)

theorem elemsP_sz : ∀ {l : List V} {xs : List PV} {es : Nat}, elemsP l = some xs → (∀ v ∈ l, v.cellsV.length = es) → ∀ x ∈ xs, x.cells.length = es
  | [], xs, es, h, _, x, hx => by simp [elemsP] at h; subst h; simp at hx
  | v :: l, xs, es, h, hl, x, hx => by
    simp only [elemsP] at h
    cases h1 : elemP v <;> simp [h1] at h
    cases h2 : elemsP l <;> simp [h2] at h
    subst h
    rcases List.mem_cons.1 hx with rfl | hx
    · rw [elemP_length h1]; exact hl v (by simp)
    · exact elemsP_sz h2 (fun y hy => hl y (by simp [hy])) x hx

theorem elemsP_length : ∀ {l : List V} {xs : List PV}, elemsP l = some xs → xs.length = l.length
  | [], xs, h => by simp [elemsP] at h; subst h; rfl
  | v :: l, xs, h => by
    simp only [elemsP] at h
    cases h1 : elemP v <;> simp [h1] at h
    cases h2 : elemsP l <;> simp [h2] at h
    subst h
    simp [elemsP_length h2]

/-- A new array with these elements. -/
theorem new_array {es n cap : Nat} {T : TypeId} {l : List V} {us : List Value} {c : Array Value} (hos : w'.os = w.os) (htape : w'.tape = w.tape) (hout : w'.output = w.output) (hsize : w'.heap.size = w.heap.size + 1)
    (hsame : ∀ b, b < w.heap.size → w'.heap[b]? = w.heap[b]?) (hnew : w'.heap[w.heap.size]? = some (.cells c T (0, 0)))
    (hl : l.length = n) (hcap : n ≤ cap) (hc : cap * es ≤ c.size) (hsz : ∀ v ∈ l, v.cellsV.length = es) (hlf : ∀ v ∈ l, v.cellsV.all V.leaf = true) (hv : VReps w (okOf w Fr ρ) ρ (l.flatMap V.cellsV) us) (hu : ∀ (j : Nat) u, us[j]? = some u → c[j]? = some u)
    (hmen : ∀ v ∈ l, v.men dst = false) (hsg : SgRel w Fr ρ sg) (hf : Fresh ρ sg dst) {r : Result Next} (hr : r = .ok (.value (.slice (some ⟨w.heap.size, 0, none⟩) n cap)) w') :
    Res Fr ρ w sg dst true (.os dst none 0 n) [(dst, some (boxOf es l))] r := by
  obtain ⟨h1, h2, h3⟩ := hsg.repl (w' := w') hf [] (by simp) ⟨w.heap.size, 0, es, cap⟩ (boxOf es l) hos htape hout (by omega)
    (fun b hb => .inl (hsame b hb)) (fun _ => .inl (by simp; omega)) (fun hevo => by
      have hmono : ∀ {vs : List V} {ws : List Value}, VReps w (okOf w Fr ρ) ρ vs ws → V.men.mens dst vs = false → VReps w' (okOf w' Fr (upd (delL ρ []) dst ⟨w.heap.size, 0, es, cap⟩)) (upd (delL ρ []) dst ⟨w.heap.size, 0, es, cap⟩) vs ws := by
        intro vs ws hvs hm
        refine VReps.mono (fun b hb => hevo.ok Fr b hb) hvs (fun r s L hmn hL => ?_)
        simp only [upd, delL] at hL
        split at hL
        · rename_i e; rw [e.1, hm] at hmn; cases hmn
        · simpa using hL
      have hmn : V.men.mens dst (l.flatMap V.cellsV) = false := by
        clear hv hsz hlf hl
        induction l with
        | nil => rfl
        | cons v l ih =>
          have h1 := men_cellsV (hmen v (by simp))
          have h2 := ih (fun x hx => hmen x (by simp [hx]))
          simp only [List.flatMap_cons]
          generalize v.cellsV = a at *
          clear ih
          induction a with
          | nil => simpa using h2
          | cons y a ih2 =>
            simp only [V.men.mens, Bool.or_eq_false_iff] at h1
            simp only [List.cons_append, V.men.mens, h1.1, Bool.false_or]
            exact ih2 h1.2
      have hv' := hmono hv hmn
      unfold boxOf
      split
      · rename_i xs hx
        refine BoxRep.of_leaf (by intro e h; cases h) (upd_self _ _ _) rfl ?_ (by simpa [Box.elems] using pcells_not_own)
        exact ArrRep.of_p (us := us) (c := c) (T := T) (by rw [elemsP_length hx]; simp; omega) (elemsP_sz hx hsz) (elemsP_cells hx hv') (fun _ => ⟨hnew, by simpa using hc, fun j u hj => by simpa using hu j u hj⟩)
      · refine BoxRep.of_leaf (by intro e h; cases h) (upd_self _ _ _) rfl ?_ ?_
        · refine ArrRep.of_flat (us := us) (c := c) (T := T) (by simp [Box.elems]; omega) ?_ ?_ ?_ (fun _ => ⟨hnew, by simpa using hc, fun j u hj => by simpa using hu j u hj⟩)
          · intro cs hcs; simp only [Box.elems, List.mem_map] at hcs; obtain ⟨v, hv1, rfl⟩ := hcs; exact hsz v hv1
          · intro cs hcs; simp only [Box.elems, List.mem_map] at hcs; obtain ⟨v, hv1, rfl⟩ := hcs; exact hlf v hv1
          · simpa [Box.elems, List.flatMap] using hv'
        · intro cs hcs v hvc els
          simp only [Box.elems, List.mem_map] at hcs
          obtain ⟨x, hx, rfl⟩ := hcs
          exact leaf_not_own (List.all_eq_true.1 (hlf x hx) v hvc) els)
  refine ⟨_, _, _, .inl hr, h1, .os (fun L hL => ?_), by simpa [killed] using h2, fun r s L h => ?_⟩
  · rw [upd_self] at hL; cases hL; exact ⟨by simpa using hcap, by simp, fun _ => by simp⟩
  · rcases h3 r s L h with h | h
    · exact .inl h
    · exact .inr ⟨rfl, h⟩

theorem madeCells_flat (z : Array Value) (n : Nat) : (madeCells z (n * z.size)).toList = (List.replicate n z.toList).flatten := by
  apply List.ext_getElem?
  intro j
  have hlen : (List.replicate n z.toList).flatten.length = n * z.size := by simp
  rcases Nat.lt_or_ge j (n * z.size) with hj | hj
  · have hz : 0 < z.size := by
      rcases Nat.eq_zero_or_pos z.size with h | h
      · rw [h] at hj; simp at hj
      · exact h
    have hq : j / z.size < n := by rw [Nat.div_lt_iff_lt_mul hz]; exact hj
    have hr := Nat.mod_lt j hz
    have h1 : (List.replicate n z.toList)[j / z.size]? = some z.toList := by simp [hq]
    have h2 : z.toList[j % z.size]? = some z[j % z.size] := by simp [hr]
    have h3 := flatten_get (es := z.size) (l := List.replicate n z.toList) (by simp) h1 h2
    have e : j / z.size * z.size + j % z.size = j := by have := Nat.div_add_mod j z.size; rw [Nat.mul_comm]; exact this
    rw [e] at h3
    rw [h3]
    simp [madeCells, hj, getElem!_pos, hr]
  · rw [List.getElem?_eq_none (by simpa [madeCells] using hj), List.getElem?_eq_none (by omega)]

theorem flatMap_replicate {α β : Type} (f : α → List β) (n : Nat) (x : α) : (List.replicate n x).flatMap f = (List.replicate n (f x)).flatten := by
  simp [List.flatMap]

theorem VReps.replicate {l : List V} {us : List Value} (h : VReps w ok ρ l us) : ∀ n : Nat, VReps w ok ρ (List.replicate n l).flatten (List.replicate n us).flatten
  | 0 => by simp; exact .nil
  | n + 1 => by simp only [List.replicate_succ, List.flatten_cons]; exact VReps.append (h.replicate n) h

theorem cV_men {x : Value} {v : V} {k : Nat} (h : cV x = some v) : v.men k = false := by
  unfold cV at h
  split at h
  · simp at h
    obtain ⟨vs, hvs, rfl⟩ := h
    rename_i cs
    simp only [V.men]
    revert vs
    induction cs.toList with
    | nil => intro vs hvs; simp [cLeaves] at hvs; subst hvs; rfl
    | cons a l ih =>
      intro vs hvs
      simp only [cLeaves] at hvs
      cases hx : cLeaf a <;> simp [hx] at hvs
      cases hl : cLeaves l <;> simp [hl] at hvs
      subst hvs
      simp only [V.men.mens, ih _ hl, Bool.or_false]
      unfold cLeaf at hx
      split at hx <;> simp at hx <;> subst hx <;> rfl
  · unfold cLeaf at h
    split at h <;> simp at h <;> subst h <;> rfl

theorem zero_men {t : TypeId} {z : V} {k : Nat} (h : zeroOf P t = some z) : z.men k = false := by
  unfold zeroOf at h
  cases hi : (P.info? t).bind (·.zero) with
  | none => simp [hi] at h
  | some zv => simp [hi] at h; exact cV_men h

theorem snd_mks (t e : TypeId) {es bytes : Nat} {z : V} (ht : P.underlying t = some (.slice e)) (hes : sizeOfT P e = some es) (hby : bytesOfT P e = some bytes) (hz : zeroOf P e = some z) (hzl : z.cellsV.length = es) {vals : List V} {us : List Value} {c : Prop} {v : V} {R : List Nat} {Δ : Sg}
    (hs : semMks dst es bytes z vals = some (c, v, R, Δ)) (hc : c) (hv : VReps w (okOf w Fr ρ) ρ vals us) (hsg : SgRel w Fr ρ sg) (hf : Fresh ρ sg dst) :
    ∃ x y, us = [x, y] ∧ Res Fr ρ w sg dst true v Δ ((do Pure.pure (Next.value (← Instr.makeSlice t x y)) : Sem Next).run P w) := by
  unfold semMks at hs
  split at hs
  · rename_i n m
    obtain ⟨x, y, rfl, h1, h2⟩ := hv.inv2
    refine ⟨x, y, rfl, ?_⟩
    split at hs
    · rename_i p hp
      simp only [Option.some.injEq, Prod.mk.injEq] at hs; obtain ⟨rfl, rfl, rfl, rfl⟩ := hs
      obtain ⟨c1, rfl, c3, c4, c5, c6⟩ := hc
      rw [h1.inv_i, h2.inv_i]
      obtain ⟨i, hi, hsz⟩ := info_of_size hes
      have hby' : i.bytes = bytes := by simp [bytesOfT, hi] at hby; exact hby
      have hzz : ∃ zv, i.zero = some zv ∧ cV zv = some z := by
        unfold zeroOf at hz
        cases h : i.zero with
        | none => simp [hi, h] at hz
        | some zv => exact ⟨zv, rfl, by simpa [hi, h] using hz⟩
      obtain ⟨zv, hz1, hz2⟩ := hzz
      have hzr : VRep w (okOf w Fr ρ) ρ z zv := cV_rep hz2
      have hzc := hzr.cells c5
      have hzsz : zv.cells.size = es := by have := hzc.length; rw [Array.length_toList] at this; omega
      have hrun := run_make (P := P) w t e i zv ht hi hz1 .i64 .i64 n n c1 (Int.le_refl _) (by rw [hby']; exact c3) c6
      have hb : boxOf es (List.replicate n.toNat z) = .pv es (List.replicate n.toNat p) := by
        have : elemsP (List.replicate n.toNat z) = some (List.replicate n.toNat p) := by
          generalize n.toNat = k
          induction k with
          | zero => rfl
          | succ k ih => simp [List.replicate_succ, elemsP, hp, ih]
        simp [boxOf, this]
      rw [← hb]
      refine new_array (w := w) (w' := w.alloc (.cells (madeCells zv.cells (n.toNat * i.size)) e)) (es := es) (us := (List.replicate n.toNat zv.cells.toList).flatten) (c := madeCells zv.cells (n.toNat * i.size)) (T := e) rfl rfl rfl (by simp) (fun b hb => RowKit.Below.heap_alloc _ _ _ hb) (heap_alloc_new _ _) (by simp) (Nat.le_refl _) ?_ ?_ ?_ ?_ ?_ ?_ hsg hf (run_value _ _ _ hrun)
      · rw [size_madeCells, hsz]; exact Nat.le_refl _
      · intro v hv; rw [List.eq_of_mem_replicate hv]; exact hzl
      · intro v hv; rw [List.eq_of_mem_replicate hv]; exact c5
      · rw [flatMap_replicate]; exact hzc.replicate _
      · intro j u hu
        rw [← madeCells_flat, hzsz] at hu
        rw [hsz]
        simpa using hu
      · intro v hv; rw [List.eq_of_mem_replicate hv]; exact zero_men hz
    · simp at hs
  · simp at hs

/-- World grows by a block that nobody owns. -/
theorem SgRel.grow (hsg : SgRel w Fr ρ sg) (hos : w'.os = w.os) (htape : w'.tape = w.tape) (hout : w'.output = w.output) (hsize : w.heap.size ≤ w'.heap.size) (hsame : ∀ b, b < w.heap.size → w'.heap[b]? = w.heap[b]?) :
    Evo w ρ w' ρ ∧ SgRel w' Fr ρ sg := by
  obtain ⟨h1, h2, _⟩ := hsg.kill (w' := w') [] hos htape hout hsize (fun b hb => .inl (hsame b hb))
  have e : delL ρ [] = ρ := by funext r s; simp [delL]
  rw [e] at h1 h2
  exact ⟨h1, by simpa [killed] using h2⟩

theorem setAll_length : ∀ (is : List Nat) (zs vs : List V), (setAll zs is vs).length = zs.length
  | [], zs, vs => by cases vs <;> rfl
  | i :: is, zs, [] => rfl
  | i :: is, zs, v :: vs => by simp only [setAll]; rw [setAll_length is]; simp

theorem setAll_all {p : V → Prop} : ∀ (is : List Nat) (zs vs : List V), (∀ v ∈ zs, p v) → (∀ v ∈ vs, p v) → ∀ v ∈ setAll zs is vs, p v
  | [], zs, vs, h1, _ => by cases vs <;> exact h1
  | i :: is, zs, [], h1, _ => h1
  | i :: is, zs, v :: vs, h1, h2 => by
    simp only [setAll]
    refine setAll_all is _ vs (fun x hx => ?_) (fun x hx => h2 x (by simp [hx]))
    rcases List.mem_or_eq_of_mem_set hx with hx | rfl
    · exact h1 x hx
    · exact h2 _ (by simp)

theorem flatMap_set {es : Nat} {f : V → List V} : ∀ {zs : List V} {i : Nat} {v : V}, (∀ x ∈ zs, (f x).length = es) → (f v).length = es → i < zs.length →
    (zs.set i v).flatMap f = (zs.flatMap f).take (i * es) ++ f v ++ (zs.flatMap f).drop (i * es + (f v).length)
  | [], i, v, _, _, h => by simp at h
  | z :: zs, 0, v, h1, h2, _ => by
    have hz := h1 z (by simp)
    simp only [List.set_cons_zero, List.flatMap_cons, Nat.zero_mul, List.take_zero, List.nil_append, Nat.zero_add]
    rw [List.drop_append_of_le_length (by omega), h2, ← hz, List.drop_length, List.nil_append]
  | z :: zs, i + 1, v, h1, h2, h => by
    have hz := h1 z (by simp)
    simp only [List.set_cons_succ, List.flatMap_cons]
    rw [flatMap_set (fun x hx => h1 x (by simp [hx])) h2 (by simpa using h)]
    have e1 : (i + 1) * es = (f z).length + i * es := by rw [Nat.add_mul]; omega
    have e2 : (i + 1) * es + (f v).length = (f z).length + (i * es + (f v).length) := by omega
    rw [e1, List.take_append, List.take_of_length_le (l := f z) (by omega), show (f z).length + i * es - (f z).length = i * es by omega]
    rw [show (f z).length + i * es + (f v).length = (f z).length + (i * es + (f v).length) by omega, List.drop_append, List.drop_of_length_le (l := f z) (by omega), show (f z).length + (i * es + (f v).length) - (f z).length = i * es + (f v).length by omega]
    simp [List.append_assoc]

theorem fillV_setAll {es : Nat} : ∀ (is : List Nat) (zs vs : List V), (∀ v ∈ zs, v.cellsV.length = es) → (∀ v ∈ vs, v.cellsV.length = es) → (∀ i ∈ is, i < zs.length) → is.length = vs.length →
    fillV (zs.flatMap V.cellsV) (is.map fun i => (i * es, es)) vs = (setAll zs is vs).flatMap V.cellsV
  | [], zs, vs, _, _, _, h => by cases vs <;> simp [fillV, setAll] at *
  | i :: is, zs, [], _, _, _, h => by simp at h
  | i :: is, zs, v :: vs, h1, h2, h3, h4 => by
    simp only [List.map_cons, fillV, setAll]
    have hi := h3 i (by simp)
    rw [← flatMap_set h1 (h2 v (by simp)) hi]
    refine fillV_setAll is _ vs (fun x hx => ?_) (fun x hx => h2 x (by simp [hx])) (fun j hj => by rw [List.length_set]; exact h3 j (by simp [hj])) (by simpa using h4)
    rcases List.mem_or_eq_of_mem_set hx with hx | rfl
    · exact h1 x hx
    · exact h2 _ (by simp)

theorem fillOk_places {es k : Nat} : ∀ (is : List Nat) (vs : List V), (∀ v ∈ vs, v.cellsV.length = es) → (∀ i ∈ is, i < k) → is.length = vs.length → fillOk (k * es) (is.map fun i => (i * es, es)) vs
  | [], [], _, _, _ => trivial
  | [], _ :: _, _, _, h => by simp at h
  | _ :: _, [], _, _, h => by simp at h
  | i :: is, v :: vs, h1, h2, h3 => by
    simp only [List.map_cons, fillOk]
    refine ⟨h1 v (by simp), ?_, fillOk_places is vs (fun x hx => h1 x (by simp [hx])) (fun j hj => h2 j (by simp [hj])) (by simpa using h3)⟩
    have := Nat.mul_le_mul_right es (show i + 1 ≤ k from h2 i (by simp))
    rw [Nat.add_mul] at this; omega

theorem flatMap_len {es : Nat} {f : V → List V} : ∀ {l : List V}, (∀ v ∈ l, (f v).length = es) → (l.flatMap f).length = l.length * es
  | [], _ => by simp
  | a :: l, h => by
    simp only [List.flatMap_cons, List.length_append, List.length_cons]
    rw [flatMap_len (fun x hx => h x (by simp [hx])), h a (by simp), Nat.add_mul]; omega

theorem snd_bslice (t e : TypeId) {es n : Nat} {z : V} (ht : P.underlying t = some (.slice e)) (hes : sizeOfT P e = some es) (hz : zeroOf P e = some z) (hpos : 0 < es) (hsmall : n * es ≤ 2 ^ 24) (hzl : z.cellsV.length = es) {parts : Array (Nat × Operand)}
    {vals : List V} {us : List Value} {c : Prop} {v : V} {R : List Nat} {Δ : Sg} (hs : semBslice dst es z n (parts.toList.map (·.1)) vals = some (c, v, R, Δ)) (hc : c) (hv : VReps w (okOf w Fr ρ) ρ vals us) (hmen : V.men.mens dst vals = false) (hsg : SgRel w Fr ρ sg) (hf : Fresh ρ sg dst)
    {ev : Operand → Value} (hus : us = (parts.toList.map (·.2)).map ev) :
    Res Fr ρ w sg dst true v Δ ((do Pure.pure (Next.value (← Instr.buildSlice t n (parts.map fun (i, x) => (i, ev x)))) : Sem Next).run P w) := by
  have hzip : (parts.map fun (i, x) => (i, ev x)).toList = (parts.toList.map (·.1)).zip us := by
    subst hus
    simp only [Array.toList_map]
    induction parts.toList with
    | nil => rfl
    | cons a l ih => simp [ih]
  unfold semBslice at hs
  split at hs
  · simp only [Option.some.injEq, Prod.mk.injEq] at hs; obtain ⟨rfl, rfl, rfl, rfl⟩ := hs
    obtain ⟨g1, g2⟩ := hsg.grow (w' := w.alloc (.cells #[] e)) rfl rfl rfl (by simp) (fun b hb => RowKit.Below.heap_alloc _ _ _ hb)
    refine ⟨.slice (some ⟨w.heap.size, 0, none⟩) 0 0, _, ρ, .inl ?_, g1, .nils _, g2, fun _ _ _ h => .inl h⟩
    have hnil : (parts.map fun (i, x) => (i, ev x)).toList = [] := by rw [hzip, hc]; rfl
    refine run_value _ _ _ ?_
    have h0 : ¬ (0 * es > 2 ^ 24) := by simp
    simp only [Instr.buildSlice, Sem.run_bind, run_underlying ht, Result.andThen_ok, run_sizeOf hes, if_neg h0, Nat.zero_mul, if_true, Sem.run_pure, hnil, Instr.fill]
    simp [newRow, Array.range_zero']
  · rename_i n
    simp only [Option.some.injEq, Prod.mk.injEq] at hs; obtain ⟨rfl, rfl, rfl, rfl⟩ := hs
    obtain ⟨c1, c2, c3, c4⟩ := hc
    obtain ⟨zv, hzr, hzv⟩ := zero_rep (P := P) (w := w) (ok := okOf w Fr ρ) (ρ := ρ) hz
    have hzc := hzv.cells c4
    have hzsz : zv.cells.size = es := by have := hzc.length; rw [Array.length_toList] at this; omega
    have hrep := hzc.replicate (n + 1)
    have hcur : madeCells zv.cells ((n + 1) * es) = ((List.replicate (n + 1) zv.cells.toList).flatten).toArray := by
      apply Array.ext'
      rw [← hzsz, madeCells_flat]
    have hlen : (List.replicate (n + 1) zv.cells.toList).flatten.length = (n + 1) * es := by simp [hzsz]
    obtain ⟨res, hr1, hr2⟩ := run_fill (place := fun i => some (i * es, es)) (ps := (parts.toList.map (·.1)).map fun i => (i * es, es)) (is := parts.toList.map (·.1)) (by simp) hv (fun v hv => (c1 v hv).2) hrep
      (by rw [hlen]; exact fillOk_places _ _ (fun v hv => (c1 v hv).1) c2 c3)
    have hzs : ∀ v ∈ List.replicate (n + 1) z, v.cellsV.length = es := fun v hv => by rw [List.eq_of_mem_replicate hv]; exact hzl
    rw [← flatMap_replicate V.cellsV, fillV_setAll _ _ _ hzs (fun v hv => (c1 v hv).1) (by simpa using c2) c3] at hr2
    have hreslen : res.length = (n + 1) * es := by
      have hall := setAll_all (p := fun v => v.cellsV.length = es) (parts.toList.map (·.1)) (List.replicate (n + 1) z) vals hzs (fun v hv => (c1 v hv).1)
      rw [hr2.length, flatMap_len hall, setAll_length]; simp
    refine new_array (w := w) (w' := w.alloc (.cells res.toArray e)) (es := es) (us := res) (c := res.toArray) (T := e) rfl rfl rfl (by simp) (fun b hb => RowKit.Below.heap_alloc _ _ _ hb) (heap_alloc_new _ _) (by rw [setAll_length]; simp) (Nat.le_refl _) (by simp [hreslen]) ?_ ?_ hr2 (by intro j u hu; simpa using hu) ?_ hsg hf ?_
    · exact setAll_all (p := fun v => v.cellsV.length = es) _ _ _ hzs (fun v hv => (c1 v hv).1)
    · exact setAll_all (p := fun v => v.cellsV.all V.leaf = true) _ _ _ (fun v hv => by rw [List.eq_of_mem_replicate hv]; exact c4) (fun v hv => (c1 v hv).2)
    · exact setAll_all (p := fun v => v.men dst = false) _ _ _ (fun v hv => by rw [List.eq_of_mem_replicate hv]; exact zero_men hz) (mens_all hmen)
    · have hns : ¬ ((n + 1) * es > 2 ^ 24) := Nat.not_lt.2 hsmall
      have hn0 : ¬ ((n + 1) * es = 0) := by
        intro h
        rcases Nat.mul_eq_zero.1 h with h | h <;> omega
      refine run_value _ _ _ ?_
      have hmade : ((Array.range ((n + 1) * es)).map fun x => zv.cells[x % zv.cells.size]!) = ((List.replicate (n + 1) zv.cells.toList).flatten).toArray := hcur
      simp only [Instr.buildSlice, Sem.run_bind, run_underlying ht, Result.andThen_ok, run_sizeOf hes, if_neg hns, if_neg hn0, hzr, Sem.run_pure, hmade, hzip, hr1]
      simp [newRow]
end
end Go.DW

/- append. -/
namespace Go.DW
section
variable {P : Program} {Fr : Nat → Prop} {ρ : Rho} {w w' : World} {sg : Sg} {dst : Nat} {new : Bool} {ok : Nat → Prop}

theorem not_int {d : TypeDesc} (hd : ∀ k, d ≠ .int k) {α : Type} (x y : α) : (match d with | .int _ => x | _ => y) = y := by
  cases d <;> simp at hd ⊢

theorem run_app_in {t u ty e : TypeId} {d : TypeDesc} {es n cap m : Nat} (ht : P.underlying t = some (.slice e)) (hu : P.underlying u = some d) (hd : ∀ k, d ≠ .int k) (hes : sizeOfT P e = some es) {base : Option Addr} {x : Value} {news : List Value}
    (hm : (Builtin.lenOf x).run P w = .ok m w) (hx : (Builtin.firstCells es m x).run P w = .ok news.toArray w) (hroom : n + m ≤ cap)
    (hst : ∀ a, base = some a → (storeCells (a.add (n * es)) news).run P w = .ok () w') (hnone : base = none → w' = w) :
    (Builtin.append_ #[t, u] ty #[.slice base n cap, x]).run P w = .ok (.slice base (n + m) cap) w' := by
  have e0 : (#[t, u] : Array TypeId)[1]? = some u := rfl
  simp only [Builtin.append_, List.getElem?_toArray, List.getElem?_cons_zero, List.getElem?_cons_succ, Sem.run_bind, run_underlying ht, run_underlying hu, Result.andThen_ok, run_sizeOf hes, Sem.run_map, Sem.run_pure, not_int hd, Bool.false_eq_true, if_false, hm, if_pos hroom, Bool.not_false, if_true, hx]
  cases base with
  | none => have := hnone rfl; subst this; simp
  | some a => simp [hst a rfl]

theorem run_app_new {t u ty e : TypeId} {d : TypeDesc} {es by_ n cap m : Nat} {z : V} (ht : P.underlying t = some (.slice e)) (hu : P.underlying u = some d) (hd : ∀ k, d ≠ .int k) (hes : sizeOfT P e = some es) (hby : bytesOfT P e = some by_) (hz : zeroOf P e = some z) (hpos : 0 < by_) {base : Option Addr} {x : Value} {olds news : List Value}
    (hm : (Builtin.lenOf x).run P w = .ok m w) (hx : (Builtin.firstCells es m x).run P w.drew = .ok news.toArray w.drew) (ho : (Builtin.firstCells es n (.slice base n cap)).run P w.drew = .ok olds.toArray w.drew) (hroom : cap < n + m)
    (hfit : (n + m) * by_ ≤ 140737488355328) :
    ∃ cap' rest, n + m ≤ cap' ∧ (Builtin.append_ #[t, u] ty #[.slice base n cap, x]).run P w = .ok (.slice (some ⟨w.heap.size, 0, none⟩) (n + m) cap') (w.drew.alloc (.cells (olds ++ news ++ rest).toArray e)) ∧ (∀ zl, z.cellsV.length = zl → z.cellsV.all V.leaf = true → rest.length = (cap' - (n + m)) * zl) := by
  obtain ⟨i, hi, hsz⟩ := info_of_size hes
  have hby' : i.bytes = by_ := by simpa [bytesOfT, hi] using hby
  have hzz : ∃ zv, i.zero = some zv ∧ cV zv = some z := by
    unfold zeroOf at hz
    cases h : i.zero with
    | none => simp [hi, h] at hz
    | some zv => exact ⟨zv, rfl, by simpa [hi, h] using hz⟩
  obtain ⟨zv, hz1, hz2⟩ := hzz
  have hn : ¬ (n + m ≤ cap) := by omega
  have hfit2 := growslice_fits (bytes := by_) hroom hfit
  have h48 : ¬ (Builtin.nextslicecap (n + m) cap * by_ > 2 ^ 48) := by omega
  have hb0 : ¬ (by_ = 0) := by omega
  refine ⟨grownCap w (n + m) cap e, (Builtin.zeroCells zv.cells (grownCap w (n + m) cap e - (n + m))).toList, grownCap_ge _ _ _ _, ?_, ?_⟩
  · have e1 : (olds ++ news ++ (Builtin.zeroCells zv.cells (grownCap w (n + m) cap e - (n + m))).toList).toArray = olds.toArray ++ news.toArray ++ Builtin.zeroCells zv.cells (grownCap w (n + m) cap e - (n + m)) := by
      apply Array.ext'; simp
    rw [e1]
    have hti : (typeInfo e).run P w = .ok i w := by simp [typeInfo, hi]
    have htd : (typeInfo e).run P w.drew = .ok i w.drew := by simp [typeInfo, hi]
    have hzd : (zeroValue e).run P w.drew = .ok zv w.drew := by simp [zeroValue, typeInfo, hi, hz1]
    have hch : (choose (.appendCap (n + m) cap e)).run P w = .ok (grownCap w (n + m) cap e) w.drew := by simp [Question.forced, grownCap]
    have hfalse : ¬ (((n + m : Nat) : Int) > IntKind.i64.max ∧ (false = true ∨ by_ = 0)) := by simp [hb0]
    have hforced : (Question.appendCap (n + m) cap e).forced = false := rfl
    have h48' : ¬ (281474976710656 < Builtin.nextslicecap (n + m) cap * by_) := h48
    simp only [Builtin.append_, List.getElem?_toArray, List.getElem?_cons_zero, List.getElem?_cons_succ, Sem.run_bind, run_underlying ht, run_underlying hu, Result.andThen_ok, run_sizeOf hes, Sem.run_pure, Bool.false_eq_true, if_false, hm, if_neg hn, Bool.not_false, if_true]
    simp [hb0, newRow, hti, hby', h48', hforced, htd, ho, hx, hzd, grownCap]
    simp [← Array.append_assoc]
  · intro zl hzl hlf
    have := (VRep.cells (cV_rep (w := w) (ok := fun _ => True) (ρ := fun _ _ => none) hz2) hlf).length
    rw [Array.length_toList] at this
    rw [Array.length_toList, size_zeroCells]
    rw [this, hzl]

theorem run_first {es n cap : Nat} {base : Option Addr} {us : List Value} (hl : us.length = n * es) (hc : us ≠ [] → ∃ b o, base = some ⟨b, o, none⟩ ∧ ∀ (j : Nat) u, us[j]? = some u → w.cell? ⟨b, o + j, none⟩ = some u) :
    (Builtin.firstCells es n (.slice base n cap)).run P w = .ok us.toArray w := by
  rcases Classical.em (us = []) with rfl | hne
  · have h0 : n * es = 0 := by simpa using hl.symm
    cases base with
    | none => simp [Builtin.firstCells]
    | some a => simp [Builtin.firstCells, h0, loadCells, loadCellsFrom]
  · obtain ⟨b, o, rfl, h⟩ := hc hne
    exact run_firstCells_some (P := P) w es n ⟨b, o, none⟩ n cap us hl (fun j v hv => by rw [Addr.add_lit]; exact h j v hv)

theorem flatMap_len_p {es : Nat} : ∀ {l : List PV}, (∀ v ∈ l, v.cells.length = es) → (l.flatMap PV.cells).length = l.length * es
  | [], _ => by simp
  | a :: l, h => by
    simp only [List.flatMap_cons, List.length_append, List.length_cons]
    rw [flatMap_len_p (fun x hx => h x (by simp [hx])), h a (by simp), Nat.add_mul]; omega

theorem leaf_flatMap : ∀ {l : List PV}, (∀ y ∈ l, y.cells.all PV.leaf = true) → (l.flatMap PV.cells).all PV.leaf = true := by
  intro l h
  simp only [List.all_eq_true, List.mem_flatMap]
  rintro x ⟨y, hy, hx⟩
  exact List.all_eq_true.1 (h y hy) x hx

/-- The base of an append: where its elements lie, and what may be written behind them. -/
theorem base_rep {es : Nat} {x : V} {u : Value} {c : Prop} {els : List PV} {R : List Nat} (hs : baseOf es sg x = some (c, els, R)) (hc : c) (hv : VRep w (okOf w Fr ρ) ρ x u) (hsg : SgRel w Fr ρ sg) :
    ∃ a cap us, u = .slice a els.length cap ∧ els.length ≤ cap ∧ (∀ y ∈ els, y.cells.length = es) ∧ PReps w (okOf w Fr ρ) (els.flatMap PV.cells) us ∧ us.length = els.length * es ∧
      (us ≠ [] → ∃ b o, a = some ⟨b, o, none⟩ ∧ ∀ (j : Nat) v, us[j]? = some v → w.cell? ⟨b, o + j, none⟩ = some v) ∧
      ((R = [] ∧ els = [] ∧ cap = 0) ∨ ∃ r L i, R = [r] ∧ ρ r none = some L ∧ L.es = es ∧ i + els.length ≤ L.cap ∧ cap = L.cap - i ∧ (i < L.cap → a = some ⟨L.blk, L.off + i * L.es, none⟩) ∧
        (0 < L.cap → ∃ cur T, w.heap[L.blk]? = some (.cells cur T (0, 0)) ∧ L.off + L.cap * L.es ≤ cur.size)) := by
  unfold baseOf at hs
  split at hs
  · simp only [Option.some.injEq, Prod.mk.injEq] at hs; obtain ⟨rfl, rfl, rfl⟩ := hs
    cases hv with
    | nils a => exact ⟨a, 0, [], rfl, by simp, by simp, .nil, by simp, by simp, .inl ⟨rfl, rfl, rfl⟩⟩
  · rename_i r i n
    split at hs
    · rename_i es2 els0 hb
      obtain ⟨L, hbox⟩ := hsg.box _ _ hb
      have harr : ArrRep w (okOf w Fr ρ) ρ r L (pcells els0) := hbox.arr (by intro e h; cases h)
      have hesz : L.es = es2 := hbox.esz (by intro e h; cases h)
      cases hv with
      | @os _ _ _ _ cap0 a0 h =>
        obtain ⟨q1, rfl, q3⟩ := h L hbox.loc
        have hh : i + n = els0.length ∧ es2 = es ∧ els = els0.drop i ∧ R = [r] := by
          split at hs
          · simp only [Option.some.injEq, Prod.mk.injEq] at hs; obtain ⟨rfl, rfl, rfl⟩ := hs
            exact ⟨by omega, hc.2, by simp, rfl⟩
          · simp only [Option.some.injEq, Prod.mk.injEq] at hs; obtain ⟨rfl, rfl, rfl⟩ := hs
            exact ⟨hc.1, hc.2, rfl, rfl⟩
        clear hs hc
        obtain ⟨hn, rfl, hels, rfl⟩ := hh
        have hel : els.length = n := by rw [hels]; simp; omega
        obtain ⟨_, z1, z2⟩ := harr.slice (i := i) (n := n) (by omega) q3
        have htk : (els0.drop i).take n = els := by rw [hels, List.take_of_length_le (by simp; omega)]
        rw [htk] at z1 z2
        rw [hesz] at z1
        have hmem : 0 < L.cap → ∃ cur T, w.heap[L.blk]? = some (.cells cur T (0, 0)) ∧ L.off + L.cap * L.es ≤ cur.size := fun h0 => by
          obtain ⟨cur, T, g1, g2, _⟩ := harr.mem h0; exact ⟨cur, T, g1, g2⟩
        have hlast : ([r] = ([] : List Nat) ∧ els = [] ∧ L.cap - i = 0) ∨ ∃ r' L' i', [r] = [r'] ∧ ρ r' none = some L' ∧ L'.es = es2 ∧ i' + els.length ≤ L'.cap ∧ L.cap - i = L'.cap - i' ∧ (i' < L'.cap → a0 = some ⟨L'.blk, L'.off + i' * L'.es, none⟩) ∧
            (0 < L'.cap → ∃ cur T, w.heap[L'.blk]? = some (.cells cur T (0, 0)) ∧ L'.off + L'.cap * L'.es ≤ cur.size) :=
          .inr ⟨r, L, i, rfl, hbox.loc, hesz, by omega, rfl, q3, hmem⟩
        rcases Classical.em (els = []) with he | hne
        · exact ⟨_, _, [], by rw [hel], by omega, z1, by rw [he]; exact .nil, by simp [he], by simp, hlast⟩
        · obtain ⟨us, y1, y2, y3⟩ := z2 hne
          exact ⟨_, _, us, by rw [hel], by omega, z1, y2, by rw [y2.length, flatMap_len_p z1], fun _ => ⟨_, _, y1, y3⟩, hlast⟩
    · simp at hs
  · simp at hs

/-- What append does: the run, whatever is appended. -/
theorem snd_append {t u ty e : TypeId} {d : TypeDesc} {es by_ : Nat} {z : V} (ht : P.underlying t = some (.slice e)) (hu : P.underlying u = some d) (hd : ∀ k, d ≠ .int k) (hes : sizeOfT P e = some es) (hby : bytesOfT P e = some by_) (hz : zeroOf P e = some z) (hpos : 0 < by_) (hzl : z.cellsV.length = es) (hzlf : z.cellsV.all V.leaf = true)
    {x : V} {xv y : Value} {c : Prop} {els l : List PV} {R : List Nat} {news : List Value} (hs : baseOf es sg x = some (c, els, R)) (hc : c) (hszl : ∀ q ∈ l, q.cells.length = es) (hlf : ∀ q ∈ l, q.cells.all PV.leaf = true)
    (hv : VRep w (okOf w Fr ρ) ρ x xv) (hm : (Builtin.lenOf y).run P w = .ok l.length w) (hx : (Builtin.firstCells es l.length y).run P w = .ok news.toArray w) (hxd : (Builtin.firstCells es l.length y).run P w.drew = .ok news.toArray w.drew) (hnews : PReps w (okOf w Fr ρ) (l.flatMap PV.cells) news)
    (hfit : (els.length + l.length) * by_ ≤ 140737488355328) (hsg : SgRel w Fr ρ sg) (hf : Fresh ρ sg dst) :
    Res Fr ρ w sg dst true (.os dst none 0 (els.length + l.length)) ((dst, some (.pv es (els ++ l))) :: R.map fun r => (r, none)) ((do Pure.pure (Next.value (← Builtin.append_ #[t, u] ty #[xv, y])) : Sem Next).run P w) := by
  obtain ⟨a, cap, us, rfl, hcap, hsz, hus, huslen, husc, hbase⟩ := base_rep (es := es) hs hc hv hsg
  have hdstR : dst ∉ R := by
    intro hin
    rcases hbase with ⟨rfl, _⟩ | ⟨r, L, i, rfl, hL, _⟩
    · simp at hin
    · simp at hin; subst hin; rw [hf.1] at hL; cases hL
  have hnl : news.length = l.length * es := by rw [hnews.length, flatMap_len_p hszl]
  have hszall : ∀ q ∈ els ++ l, q.cells.length = es := by
    intro q hq; rcases List.mem_append.1 hq with h | h
    · exact hsz q h
    · exact hszl q h
  have finish : ∀ (L : Loc) (w' : World) (val : Value) (c' : Array Value) (T : TypeId), L.es = es → els.length + l.length ≤ L.cap →
      w'.os = w.os → w'.tape = w.tape → w'.output = w.output → w.heap.size ≤ w'.heap.size →
      (∀ b, b < w.heap.size → w'.heap[b]? = w.heap[b]? ∨ ∃ k, k ∈ R ∧ ∃ s L0, ρ k s = some L0 ∧ 0 < L0.cap ∧ L0.blk = b) →
      (0 < L.cap → (w.heap.size ≤ L.blk ∧ L.blk < w'.heap.size) ∨ ∃ k, k ∈ R ∧ ∃ s L0, ρ k s = some L0 ∧ 0 < L0.cap ∧ L0.blk = L.blk) →
      (0 < L.cap → w'.heap[L.blk]? = some (.cells c' T (0, 0)) ∧ L.off + L.cap * L.es ≤ c'.size ∧ ∀ (j : Nat) v, (us ++ news)[j]? = some v → c'[L.off + j]? = some v) →
      (∃ p, val = .slice p (els.length + l.length) L.cap ∧ (0 < L.cap → p = some ⟨L.blk, L.off, none⟩)) → (Builtin.append_ #[t, u] ty #[.slice a els.length cap, y]).run P w = .ok val w' →
      Res Fr ρ w sg dst true (.os dst none 0 (els.length + l.length)) ((dst, some (.pv es (els ++ l))) :: R.map fun r => (r, none)) ((do Pure.pure (Next.value (← Builtin.append_ #[t, u] ty #[.slice a els.length cap, y])) : Sem Next).run P w) := by
    intro L w' val c' T hLes hLcap hos htape hout hsize hsame hblk hmem hval hrun
    obtain ⟨p, rfl, hp⟩ := hval
    obtain ⟨h1, h2, h3⟩ := hsg.repl (w' := w') hf R hdstR L (.pv es (els ++ l)) hos htape hout hsize hsame hblk (fun hevo => by
      refine BoxRep.of_leaf (by intro e h; cases h) (upd_self _ _ _) hLes ?_ (by simpa [Box.elems] using pcells_not_own)
      refine ArrRep.of_p (us := us ++ news) (c := c') (T := T) (by simp; omega) (fun q hq => by rw [hLes]; exact hszall q hq) ?_ hmem
      rw [List.flatMap_append]
      exact PReps.append (PReps.mono (fun b hb => hevo.ok Fr b hb) hnews) (PReps.mono (fun b hb => hevo.ok Fr b hb) hus))
    refine ⟨_, _, _, .inl (run_value _ _ _ hrun), h1, .os (fun L' hL' => ?_), by simpa [killed] using h2, fun r s L' h => ?_⟩
    · rw [upd_self] at hL'; cases hL'
      exact ⟨by omega, by simp, fun h0 => by rw [hp h0]; simp⟩
    · rcases h3 r s L' h with h | h
      · exact .inl h
      · exact .inr ⟨rfl, h⟩
  rcases Nat.lt_or_ge cap (els.length + l.length) with hgrow | hroom
  · -- a new array
    obtain ⟨cap', rest, hc1, hrun, hrest⟩ := run_app_new (P := P) (w := w) (ty := ty) (base := a) (x := y) (olds := us) (news := news) ht hu hd hes hby hz hpos hm hxd (run_first (w := w.drew) huslen (fun hne => by obtain ⟨b, o, h1, h2⟩ := husc hne; exact ⟨b, o, h1, fun j v hv => by simpa using h2 j v hv⟩)) hgrow hfit
    have hrl := hrest es hzl hzlf
    refine finish ⟨w.heap.size, 0, es, cap'⟩ (w.drew.alloc (.cells (us ++ news ++ rest).toArray e)) _ (us ++ news ++ rest).toArray e rfl hc1 rfl rfl rfl (by simp) (fun b hb => .inl (RowKit.Below.heap_alloc w.drew _ _ hb)) (fun _ => .inl ⟨Nat.le_refl _, by simp⟩) (fun _ => ⟨heap_alloc_new w.drew _, ?_, fun j v hv => ?_⟩) ⟨_, rfl, fun _ => rfl⟩ hrun
    · simp only [List.size_toArray, List.length_append, huslen, hnl, hrl, Nat.zero_add]
      rw [← Nat.add_mul, ← Nat.add_mul]
      exact Nat.mul_le_mul_right _ (by omega)
    · have hj := (List.getElem?_eq_some_iff.1 hv).1
      simp only [List.getElem?_toArray, Nat.zero_add]
      rw [List.getElem?_append_left hj]; exact hv
  · -- there is room
    rcases hbase with ⟨rfl, rfl, rfl⟩ | ⟨r, L, i, rfl, hL, hLes, hi, rfl, ha, hmem⟩
    · have hl0 : l = [] := List.eq_nil_of_length_eq_zero (by have := hroom; simp only [List.length_nil] at this; omega)
      subst hl0
      have hn0 : news = [] := List.eq_nil_of_length_eq_zero (by rw [hnl]; simp)
      subst hn0
      have hrun : (Builtin.append_ #[t, u] ty #[.slice a 0 0, y]).run P w = .ok (.slice a (0 + 0) 0) w := run_app_in (P := P) ht hu hd hes hm hx (by simp) (fun a _ => by simp [storeCells]) (fun _ => rfl)
      exact finish ⟨0, 0, es, 0⟩ w _ #[] 0 rfl (by simp) rfl rfl rfl (Nat.le_refl _) (fun _ _ => .inl rfl) (fun h => by simp at h) (fun h => by simp at h) ⟨a, by simp, fun h => by simp at h⟩ hrun
    · subst hLes
      rcases Nat.lt_or_ge i L.cap with hlt | hge
      · have haa := ha hlt
        obtain ⟨cur, T, g1, g2⟩ := hmem (by omega)
        have hmul : (i + (els.length + l.length)) * L.es ≤ L.cap * L.es := Nat.mul_le_mul_right _ (by omega)
        rw [Nat.add_mul, Nat.add_mul] at hmul
        have hst := run_storeCells_at P L.blk (L.off + i * L.es + els.length * L.es) T news 0 cur w g1 (by rw [hnl]; omega) (hnews.oneCell (leaf_flatMap hlf))
        simp only [Nat.add_zero] at hst
        have hrun := run_app_in (P := P) (ty := ty) (base := a) (n := els.length) (cap := L.cap - i) ht hu hd hes hm hx hroom (fun a' ha' => by rw [haa] at ha'; cases ha'; rw [Addr.add_lit]; exact hst) (fun hn => by rw [haa] at hn; cases hn)
        refine finish ⟨L.blk, L.off + i * L.es, L.es, L.cap - i⟩ (w.setRow L.blk _) _ _ T rfl hroom rfl rfl rfl (by rw [setRow_size']; exact Nat.le_refl _) (fun b hb => ?_) (fun _ => .inr ⟨r, by simp, none, L, hL, by omega, rfl⟩) (fun _ => ⟨setRow_heap w _ _ _ _ _ g1, ?_, fun j v hv => ?_⟩) ⟨a, rfl, fun _ => haa⟩ hrun
        · rcases Nat.decEq b L.blk with hne | rfl
          · exact .inl (setRow_other w _ _ _ hne)
          · exact .inr ⟨r, by simp, none, L, hL, by omega, rfl⟩
        · have hmul2 : (i + (L.cap - i)) * L.es ≤ L.cap * L.es := Nat.mul_le_mul_right _ (by omega)
          rw [Nat.add_mul] at hmul2
          simp only [List.size_toArray, List.length_append, List.length_take, List.length_drop, Array.length_toList, hnl]
          omega
        · have hj := (List.getElem?_eq_some_iff.1 hv).1
          simp only [List.length_append, huslen, hnl] at hj
          simp only [List.getElem?_toArray, List.append_assoc]
          rcases Nat.lt_or_ge j us.length with hju | hju
          · rw [List.getElem?_append_left hju] at hv
            have hne : us ≠ [] := by intro e; rw [e] at hju; simp at hju
            obtain ⟨b, o, h1, h2⟩ := husc hne
            rw [haa] at h1; cases h1
            have := h2 j v hv
            simp only [World.cell?, g1, Option.isSome_none, Bool.false_eq_true, if_false] at this
            have hjc := (Array.getElem?_eq_some_iff.1 this).1
            rw [List.getElem?_append_left (by simp; omega), List.getElem?_take, if_pos (by omega)]
            simpa using this
          · rw [List.getElem?_append_right hju] at hv
            have hjn := (List.getElem?_eq_some_iff.1 hv).1
            rw [List.getElem?_append_right (by simp; omega), List.getElem?_append_left (by simp only [List.length_take, Array.length_toList]; omega)]
            rw [← hv]; congr 1
            simp only [List.length_take, Array.length_toList]
            omega
      · have h0 : els.length + l.length = 0 := by omega
        have hl0 : l = [] := List.eq_nil_of_length_eq_zero (by omega)
        have he0 : els = [] := List.eq_nil_of_length_eq_zero (by omega)
        subst hl0 he0
        have hn0 : news = [] := List.eq_nil_of_length_eq_zero (by rw [hnl]; simp)
        subst hn0
        have hrun : (Builtin.append_ #[t, u] ty #[.slice a 0 (L.cap - i), y]).run P w = .ok (.slice a (0 + 0) (L.cap - i)) w := run_app_in (P := P) ht hu hd hes hm hx (by simp) (fun a _ => by simp [storeCells]) (fun _ => rfl)
        exact finish ⟨0, 0, L.es, 0⟩ w _ #[] 0 rfl (by simp) rfl rfl rfl (Nat.le_refl _) (fun _ _ => .inl rfl) (fun h => by simp at h) (fun h => by simp at h) ⟨a, by simp; omega, fun h => by simp at h⟩ hrun
end
end Go.DW

/- append's two forms; strings seen as bytes; all operations together. -/
namespace Go.DW
section
variable {P : Program} {Fr : Nat → Prop} {ρ : Rho} {w w' : World} {sg : Sg} {dst : Nat} {new : Bool} {ok : Nat → Prop}

theorem snd_app {t u ty e e' : TypeId} {es by_ : Nat} {z : V} (ht : P.underlying t = some (.slice e)) (hu : P.underlying u = some (.slice e')) (hes : sizeOfT P e = some es) (hby : bytesOfT P e = some by_) (hz : zeroOf P e = some z) (hpos : 0 < by_) (hzl : z.cellsV.length = es) (hzlf : z.cellsV.all V.leaf = true)
    {vals : List V} {us : List Value} {c : Prop} {v : V} {R : List Nat} {Δ : Sg} (hs : semApp dst es by_ vals sg = some (c, v, R, Δ)) (hc : c) (hv : VReps w (okOf w Fr ρ) ρ vals us) (hsg : SgRel w Fr ρ sg) (hf : Fresh ρ sg dst) :
    ∃ x y, us = [x, y] ∧ Res Fr ρ w sg dst true v Δ ((do Pure.pure (Next.value (← Builtin.append_ #[t, u] ty #[x, y])) : Sem Next).run P w) := by
  unfold semApp at hs
  split at hs
  · obtain ⟨x, y, rfl, h1, h2⟩ := hv.inv2
    refine ⟨x, y, rfl, ?_⟩
    split at hs
    · rename_i c0 els R0 c1 l R1 hb hl
      simp only [Option.some.injEq, Prod.mk.injEq] at hs; obtain ⟨rfl, rfl, rfl, rfl⟩ := hs
      obtain ⟨q0, q1, q2, q3⟩ := hc
      obtain ⟨a, cap, es', rfl, hsz, hcell⟩ := els_rep hl q1 h2 hsg
      have hnews : ∃ news, PReps w (okOf w Fr ρ) (l.flatMap PV.cells) news ∧ (news ≠ [] → ∃ b o, a = some ⟨b, o, none⟩ ∧ ∀ (j : Nat) v, news[j]? = some v → w.cell? ⟨b, o + j, none⟩ = some v) := by
        rcases Classical.em (l = []) with rfl | hne
        · exact ⟨[], .nil, by simp⟩
        · obtain ⟨b, o, us, g1, g2, g3⟩ := hcell hne
          exact ⟨us, g2, fun _ => ⟨b, o, g1, g3⟩⟩
      obtain ⟨news, hn1, hn2⟩ := hnews
      have hnl : news.length = l.length * es := by rw [hn1.length, flatMap_len_p (fun y hy => (q2 y hy).1)]
      exact snd_append ht hu (by simp) hes hby hz hpos hzl hzlf hb q0 (fun q hq => (q2 q hq).1) (fun q hq => (q2 q hq).2) h1 (by simp [Builtin.lenOf]) (run_first hnl hn2)
        (run_first (w := w.drew) hnl (fun hne => by obtain ⟨b, o, g1, g2⟩ := hn2 hne; exact ⟨b, o, g1, fun j v hv => by simpa using g2 j v hv⟩)) hn1 q3 hsg hf
    · simp at hs
  · simp at hs

theorem bytes_reps : ∀ l : List UInt8, PReps w ok ((l.map B).flatMap PV.cells) (l.map fun b => Value.int .u8 b.toNat)
  | [] => .nil
  | b :: l => .cons (.i _ _) (bytes_reps l)

theorem snd_apps {t u ty e : TypeId} {z : V} (ht : P.underlying t = some (.slice e)) (hu : P.underlying u = some .string) (hes : sizeOfT P e = some 1) (hby : bytesOfT P e = some 1) (hz : zeroOf P e = some z) (hzl : z.cellsV.length = 1) (hzlf : z.cellsV.all V.leaf = true)
    {vals : List V} {us : List Value} {c : Prop} {v : V} {R : List Nat} {Δ : Sg} (hs : semApps dst vals sg = some (c, v, R, Δ)) (hc : c) (hv : VReps w (okOf w Fr ρ) ρ vals us) (hsg : SgRel w Fr ρ sg) (hf : Fresh ρ sg dst) :
    ∃ x y, us = [x, y] ∧ Res Fr ρ w sg dst true v Δ ((do Pure.pure (Next.value (← Builtin.append_ #[t, u] ty #[x, y])) : Sem Next).run P w) := by
  unfold semApps at hs
  split at hs
  · rename_i b l
    obtain ⟨x, y, rfl, h1, h2⟩ := hv.inv2
    refine ⟨x, y, rfl, ?_⟩
    split at hs
    · rename_i c0 els R0 hb
      simp only [Option.some.injEq, Prod.mk.injEq] at hs; obtain ⟨rfl, rfl, rfl, rfl⟩ := hs
      obtain ⟨q0, q3⟩ := hc
      rw [h2.inv_s]
      have hlen : (l.map B).length = l.length := by simp
      have hfirst : ∀ w0 : World, (Builtin.firstCells 1 (l.map B).length (.string ⟨l.toArray⟩)).run P w0 = .ok (l.map fun b => Value.int .u8 b.toNat).toArray w0 := by
        intro w0
        simp only [Builtin.firstCells, Sem.run_pure, extract_mk, hlen]
        congr 1
        simp
      have := snd_append (P := P) (ty := ty) (y := .string ⟨l.toArray⟩) (l := l.map B) (news := l.map fun b => Value.int .u8 b.toNat) ht hu (by simp) hes hby hz (by decide) hzl hzlf hb q0 (fun q hq => by
          simp only [List.mem_map] at hq; obtain ⟨y, _, rfl⟩ := hq; rfl) (fun q hq => by
          simp only [List.mem_map] at hq; obtain ⟨y, _, rfl⟩ := hq; rfl) h1 (by simp [Builtin.lenOf, size_mk]) (hfirst w) (hfirst w.drew) (bytes_reps l) (by rw [hlen]; omega) hsg hf
      rw [hlen] at this
      exact this
    · simp at hs
  · simp at hs

theorem snd_mark {t e : TypeId} (ht : P.underlying t = some (.slice e)) (he : P.underlying e = some (.int .u8)) {vals : List V} {us : List Value} {c : Prop} {v : V} {R : List Nat} {Δ : Sg} (hs : semMark vals sg = some (c, v, R, Δ)) (hc : c) (hv : VReps w (okOf w Fr ρ) ρ vals us) (hsg : SgRel w Fr ρ sg) :
    ∃ x, us = [x] ∧ Res Fr ρ w sg dst new v Δ ((do Pure.pure (Next.value (← convert t t x)) : Sem Next).run P w) := by
  unfold semMark at hs
  split at hs
  · rename_i r i n
    obtain ⟨x, rfl, h1⟩ := hv.inv1
    refine ⟨x, rfl, ?_⟩
    split at hs
    · rename_i c0 l R0 hl
      simp only [Option.some.injEq, Prod.mk.injEq] at hs; obtain ⟨rfl, rfl, rfl, rfl⟩ := hs
      have hl0 := hl
      unfold elsOf at hl
      simp only at hl
      split at hl
      · rename_i es els hb
        obtain ⟨L, hbox⟩ := hsg.box _ _ hb
        have harr : ArrRep w (okOf w Fr ρ) ρ r L (pcells els) := hbox.arr (by intro e h; cases h)
        cases h1 with
        | os h =>
          obtain ⟨q1, rfl, q3⟩ := h L hbox.loc
          have hn : 0 < n := hc.2
          have hh : i + n ≤ els.length ∧ l = (els.drop i).take n := by
            split at hl
            · simp only [Option.some.injEq, Prod.mk.injEq] at hl; obtain ⟨rfl, rfl, rfl⟩ := hl
              have := hc.1
              subst this
              exact ⟨by omega, by simp⟩
            · simp only [Option.some.injEq, Prod.mk.injEq] at hl; obtain ⟨rfl, rfl, rfl⟩ := hl
              exact ⟨hc.1, rfl⟩
          obtain ⟨hin, rfl⟩ := hh
          obtain ⟨_, z1, z2⟩ := harr.slice hin q3
          have hne : (els.drop i).take n ≠ [] := by
            intro h
            have := congrArg List.length h
            simp at this
            omega
          obtain ⟨us, y1, y2, y3⟩ := z2 hne
          subst y1
          have hcap : 0 < L.cap := by omega
          obtain ⟨cur, T, g1, g2, g3⟩ := harr.mem hcap
          obtain ⟨k1, k2, k3⟩ := hsg.kill (w' := w.freeze { block := L.blk, off := cur.size } 1) [r] rfl rfl rfl (by simp [World.freeze]) (fun b hb => by
            rcases Nat.decEq b L.blk with hne | rfl
            · left; simp only [World.freeze]; simp [Array.getElem?_modify]; intro h; exact absurd h.symm hne
            · right; exact ⟨r, by simp, none, L, hbox.loc, hcap, rfl⟩)
          have hnot : ¬ Owned (delL ρ [r]) L.blk := by
            rintro ⟨r', s', L', m1, m2, m3⟩
            have m0 := k3 _ _ _ m1
            have := hsg.inj _ _ _ _ _ _ m0 hbox.loc m2 hcap m3
            rw [this.1] at m1
            simp [delL] at m1
          have hown := hsg.own L.blk ⟨r, none, L, hbox.loc, hcap, rfl⟩
          have hcell : ∀ a, (w.freeze { block := L.blk, off := cur.size } 1).cell? a = w.cell? a := by
            intro a
            simp only [World.freeze, World.cell?, Nat.one_ne_zero, if_false, Array.getElem?_modify]
            rcases Nat.decEq L.blk a.block with hne | he
            · rw [if_neg hne]
            · rw [← he, if_pos rfl, g1]; rfl
          have hrun : (convert t t (.slice (some ⟨L.blk, L.off + i * L.es, none⟩) n (L.cap - i))).run P w = .ok (.slice (some ⟨L.blk, L.off + i * L.es, none⟩) n (L.cap - i)) (w.freeze { block := L.blk, off := cur.size } 1) := by
            have hsh : w.shape? L.blk = some (T, cur.size) := by simp [World.shape?, g1]
            simp [convert, run_underlying ht, run_underlying he, markStringish, hsh]
          refine ⟨_, _, _, .inl (run_value _ _ _ hrun), k1, .p ?_, by simpa [killed] using k2, fun r' s L' h => .inl (k3 r' s L' h)⟩
          have hll : ((els.drop i).take n).length = n := by simp; omega
          have := PRep.sl (w := w.freeze { block := L.blk, off := cur.size } 1) (ok := okOf (w.freeze { block := L.blk, off := cur.size } 1) Fr (delL ρ [r])) ((els.drop i).take n) L.blk (L.off + i * L.es) (L.cap - i) L.es us hne (by rw [hll]; omega)
            ⟨Nat.lt_of_lt_of_le hown.2 k1.size, hown.1, hnot⟩ z1 (PReps.mono (fun b hb => k1.ok Fr b hb) y2) (fun j u hu => by rw [hcell]; exact y3 j u hu)
          rw [hll] at this
          exact this
      · simp at hl
    · simp at hs
  · simp at hs
end
end Go.DW

/- Maps with integer keys. -/
namespace Go.DW
section
variable {P : Program} {Fr : Nat → Prop} {ρ : Rho} {w w' : World} {sg : Sg} {dst : Nat} {new : Bool} {ok : Nat → Prop}

theorem snd_mkmap (t : TypeId) {vals : List V} {c : Prop} {v : V} {R : List Nat} {Δ : Sg} (hs : semMkmap dst vals = some (c, v, R, Δ))
    (hsg : SgRel w Fr ρ sg) (hf : Fresh ρ sg dst) : Res Fr ρ w sg dst true v Δ ((do Pure.pure (Next.value (← Instr.makeMap t none)) : Sem Next).run P w) := by
  unfold semMkmap at hs
  split at hs
  · simp only [Option.some.injEq, Prod.mk.injEq] at hs; obtain ⟨rfl, rfl, rfl, rfl⟩ := hs
    obtain ⟨h1, h2, h3⟩ := hsg.repl (w' := w.alloc (.map #[] 0)) hf [] (by simp) ⟨w.heap.size, 0, 0, 1⟩ (.mp []) rfl rfl rfl (by simp)
      (fun b hb => .inl (RowKit.Below.heap_alloc _ _ _ hb)) (fun _ => .inl (by simp)) (fun hevo =>
        ⟨upd_self _ _ _, fun hn => absurd rfl (hn []), fun hn => absurd rfl (hn []), fun hn => absurd rfl (hn []), fun ents he => by
          cases he
          exact ⟨⟨rfl, #[], by simpa using heap_alloc_new _ _, rfl, by simp, by simp⟩, by simp⟩⟩)
    refine ⟨_, _, _, .inl (run_value _ (.map (some w.heap.size)) (w.alloc (.map #[] 0)) ?_), h1, .mp (fun L hL => ?_), by simpa [killed] using h2, fun r s L h => ?_⟩
    · unfold Instr.makeMap; simp
    · rw [upd_self] at hL; cases hL; rfl
    · rcases h3 r s L h with h | h
      · exact .inl h
      · exact .inr ⟨rfl, h⟩
  · simp at hs

theorem intKeys_get {kk : IntKind} : ∀ {ents : List (PV × V)}, intKeys kk ents = true → ∀ {i : Nat} {k : PV} {v : V}, ents[i]? = some (k, v) → ∃ a, k = .i kk a
  | [], _, _, _, _, h => by simp at h
  | (.i k' n', v') :: l, h, 0, k, v, hi => by
    simp only [intKeys, Bool.and_eq_true] at h
    simp at hi
    obtain ⟨rfl, rfl⟩ := hi
    exact ⟨n', by rw [beq_kind h.1]⟩
  | (.i k' n', v') :: l, h, i + 1, k, v, hi => by
    simp only [intKeys, Bool.and_eq_true] at h
    exact intKeys_get h.2 (by simpa using hi)
  | (.b _, _) :: _, h, _, _, _, _ | (.s _, _) :: _, h, _, _, _, _ | (.sl _, _) :: _, h, _, _, _, _ | (.ag _, _) :: _, h, _, _, _, _ | (.nf, _) :: _, h, _, _, _, _ => by simp [intKeys] at h

theorem noKey_get {n : Int} : ∀ {ents : List (PV × V)}, noKey n ents → ∀ {i : Nat} {k : IntKind} {a : Int} {v : V}, ents[i]? = some (.i k a, v) → n ≠ a
  | [], _, _, _, _, _, h => by simp at h
  | (.i k' n', v') :: l, h, 0, k, a, v, hi => by
    simp only [noKey] at h
    simp at hi
    obtain ⟨⟨rfl, rfl⟩, rfl⟩ := hi
    exact h.1
  | (.i k' n', v') :: l, h, i + 1, k, a, v, hi => by
    simp only [noKey] at h
    exact noKey_get h.2 (by simpa using hi)
  | (.b _, _) :: l, h, i, k, a, v, hi | (.s _, _) :: l, h, i, k, a, v, hi | (.sl _, _) :: l, h, i, k, a, v, hi | (.ag _, _) :: l, h, i, k, a, v, hi | (.nf, _) :: l, h, i, k, a, v, hi => by
    cases i with
    | zero => simp at hi
    | succ i => simp only [noKey] at h; exact noKey_get h (by simpa using hi)

theorem findNow_none {kd kk : IntKind} {n : Int} : ∀ {es : List MapEntry} {i : Nat}, (∀ e ∈ es, ∃ a, e.key = .int kk a ∧ n ≠ a) → Instr.findNow (.int kd) (.int kk n) es i = some none
  | [], _, _ => rfl
  | e :: es, i, h => by
    obtain ⟨a, h1, h2⟩ := h e (by simp)
    simp only [Instr.findNow, h1, Instr.sameNow, if_true]
    have : (n == a) = false := by simpa using h2
    rw [this]
    exact findNow_none (fun e he => h e (by simp [he]))

theorem findNow_at {kd kk : IntKind} {n : Int} {e : MapEntry} : ∀ {es : List MapEntry} {i j : Nat}, es[j]? = some e → e.key = .int kk n → (∀ (j' : Nat) e', j' < j → es[j']? = some e' → ∃ a, e'.key = .int kk a ∧ n ≠ a) →
    Instr.findNow (.int kd) (.int kk n) es i = some (some (i + j, e.val))
  | [], _, _, h, _, _ => by simp at h
  | e' :: es, i, 0, h, hk, _ => by
    simp at h
    subst h
    simp [Instr.findNow, hk, Instr.sameNow]
  | e' :: es, i, j + 1, h, hk, hlt => by
    obtain ⟨a, h1, h2⟩ := hlt 0 e' (by omega) (by simp)
    simp only [Instr.findNow, h1, Instr.sameNow, if_true]
    have : (n == a) = false := by simpa using h2
    rw [this]
    simp only
    rw [findNow_at (i := i + 1) (j := j) (by simpa using h) hk (fun j' e' hj he => hlt (j' + 1) e' (by omega) (by simpa using he))]
    congr 3; omega

theorem MapRep.keyAt {r : Nat} {ents : List (PV × V)} {es : Array MapEntry} {kk : IntKind} (hlen : es.size = ents.length) (hk : intKeys kk ents = true)
    (hent : ∀ (i : Nat) k v, ents[i]? = some (k, v) → ∃ e, es[i]? = some e ∧ PRep w ok k e.key ∧ VRep w ok ρ (v.al r i 0) e.val) {i : Nat} {e : MapEntry} (he : es[i]? = some e) : ∃ a v, ents[i]? = some (.i kk a, v) ∧ e.key = .int kk a := by
  have hi : i < ents.length := by rw [← hlen]; exact (Array.getElem?_eq_some_iff.1 he).1
  obtain ⟨a, ha⟩ := intKeys_get hk (i := i) (k := ents[i].1) (v := ents[i].2) (List.getElem?_eq_getElem hi)
  obtain ⟨e', h1, h2, _⟩ := hent i ents[i].1 ents[i].2 (List.getElem?_eq_getElem hi)
  rw [he] at h1
  cases h1
  rw [ha] at h2
  refine ⟨a, ents[i].2, ?_, h2.inv_i⟩
  rw [List.getElem?_eq_getElem hi, ← ha]

theorem run_checkKey_int {kt : TypeId} {kd k : IntKind} (hkt : P.underlying kt = some (.int kd)) (b : Bool) (n : Int) (m : Nat) (w : World) : (Instr.checkKey b (m + 1) kt (.int k n)).run P w = .ok () w := by
  rw [Instr.checkKey]
  simp only [Sem.run_bind, run_underlying hkt, Result.andThen_ok, Sem.run_pure]

theorem snd_mins (t kt et : TypeId) {kd : IntKind} (ht : P.underlying t = some (.map kt et)) (hkt : P.underlying kt = some (.int kd)) {vals : List V} {us : List Value} {c : Prop} {v : V} {R : List Nat} {Δ : Sg} (hs : semMins kd vals sg = some (c, v, R, Δ)) (hc : c)
    (hv : VReps w (okOf w Fr ρ) ρ vals us) (hsg : SgRel w Fr ρ sg) :
    ∃ x y z, us = [x, y, z] ∧ Res Fr ρ w sg dst new v Δ ((do Instr.mapUpdate t x y z; Pure.pure Next.skip : Sem Next).run P w) := by
  unfold semMins at hs
  split at hs
  · rename_i r k n y
    obtain ⟨xu, ku, yu, rfl, h1, h2, h3⟩ := hv.inv3
    split at hs
    · rename_i ents hb
      simp only [Option.some.injEq, Prod.mk.injEq] at hs; obtain ⟨rfl, rfl, rfl, rfl⟩ := hs
      obtain ⟨hk0, hkeys, hno, hleaf⟩ := hc
      have hkk := beq_kind hk0
      subst hkk
      cases h2.inv_i
      obtain ⟨L, hbox⟩ := hsg.box _ _ hb
      obtain ⟨hmap, hsub⟩ := hbox.map ents rfl
      obtain ⟨es, hheap, hlen, hborn, hent⟩ := hmap.mem
      cases h1 with
      | mp hm =>
        cases hm L hbox.loc
        refine ⟨_, _, _, rfl, ?_⟩
        have hcap : 0 < L.cap := by rw [hmap.cap]; decide
        have hfind : Instr.findNow (.int kd) (.int kd n) es.toList 0 = some none := findNow_none (fun e he => by
          obtain ⟨i, hi⟩ := List.mem_iff_getElem?.1 he
          rw [Array.getElem?_toList] at hi
          obtain ⟨a, v, q1, q2⟩ := MapRep.keyAt hlen hkeys hent hi
          exact ⟨a, q2, noKey_get hno q1⟩)
        have hrun : (Instr.mapUpdate t (.map (some L.blk)) (.int kd n) yu).run P w = .ok () { w with heap := w.heap.setIfInBounds L.blk (.map (es.push { key := .int kd n, val := yu, born := es.size }) (es.size + 1)) } := by
          have hset : (setObj L.blk (.map (es.push { key := .int kd n, val := yu, born := es.size }) (es.size + 1))).run P w = .ok () { w with heap := w.heap.setIfInBounds L.blk (.map (es.push { key := .int kd n, val := yu, born := es.size }) (es.size + 1)) } := by simp [setObj, Sem.run, hheap]
          have hget : (getObj L.blk).run P w = .ok (.map es es.size) w := by simp [getObj, Sem.run, hheap]
          unfold Instr.mapUpdate
          simp only [Sem.run_bind, run_underlying ht, Result.andThen_ok, hget, run_checkKey_int hkt _ _ 9999, run_underlying hkt, Sem.run_pure, Instr.findKey, hfind, hset]
        have hlt : L.blk < w.heap.size := (Array.getElem?_eq_some_iff.1 hheap).1
        obtain ⟨g1, g2⟩ := hsg.set (w' := { w with heap := w.heap.setIfInBounds L.blk (.map (es.push { key := .int kd n, val := yu, born := es.size }) (es.size + 1)) }) (bx := .mp (ents ++ [(.i kd n, y)])) hb hbox.loc hcap rfl rfl rfl (by simp) (fun b hb => by
          simp only
          rw [Array.getElem?_setIfInBounds_ne (fun h => hb h.symm)]) (fun hevo => by
          refine ⟨hbox.loc, fun hn => absurd rfl (hn _), fun hn => absurd rfl (hn _), fun hn => absurd rfl (hn _), fun ents' he => ?_⟩
          cases he
          refine ⟨⟨hmap.cap, es.push { key := .int kd n, val := yu, born := es.size }, ?_, ?_, ?_, ?_⟩, ?_⟩
          · simp [hlt]
          · simp [hlen]
          · intro i e he
            rw [Array.getElem?_push] at he
            split at he
            · rename_i h; cases he; exact h.symm
            · exact hborn i e he
          · intro i k' v' hi
            rcases Nat.lt_or_ge i ents.length with hlt' | hge
            · rw [List.getElem?_append_left hlt'] at hi
              obtain ⟨e, q1, q2, q3⟩ := hent i k' v' hi
              refine ⟨e, ?_, q2.mono (fun b hb => hevo.ok Fr b hb), q3.mono (fun b hb => hevo.ok Fr b hb) (fun _ _ _ _ h => h)⟩
              rw [Array.getElem?_push, if_neg (by omega)]; exact q1
            · rw [List.getElem?_append_right hge] at hi
              have hi0 : i - ents.length = 0 := by
                rcases Nat.eq_zero_or_pos (i - ents.length) with h | h
                · exact h
                · rw [List.getElem?_eq_none (by simp; omega)] at hi; cases hi
              rw [hi0] at hi
              simp at hi
              obtain ⟨rfl, rfl⟩ := hi
              refine ⟨{ key := .int kd n, val := yu, born := es.size }, ?_, .i _ _, ?_⟩
              · rw [Array.getElem?_push, if_pos (by omega)]
              · rw [V.al_leaf hleaf]
                exact h3.mono (fun b hb => hevo.ok Fr b hb) (fun _ _ _ _ h => h)
          · intro i k' els hi
            rcases Nat.lt_or_ge i ents.length with hlt' | hge
            · rw [List.getElem?_append_left hlt'] at hi
              obtain ⟨L', q1, q2⟩ := hsub i k' els hi
              refine ⟨L', q1, q2.mono_p (fun b hb => hevo.ok Fr b hb) (fun hc' => ?_)⟩
              have hne : L'.blk ≠ L.blk := fun e => by
                have := (hsg.inj _ _ _ _ _ _ q1 hbox.loc hc' hcap e).2
                cases this
              simp only
              rw [Array.getElem?_setIfInBounds_ne (fun h => hne h.symm)]
            · rw [List.getElem?_append_right hge] at hi
              have hi0 : i - ents.length = 0 := by
                rcases Nat.eq_zero_or_pos (i - ents.length) with h | h
                · exact h
                · rw [List.getElem?_eq_none (by simp; omega)] at hi; cases hi
              rw [hi0] at hi
              simp at hi
              rw [hi.2] at hleaf
              simp [V.leaf] at hleaf)
        exact ⟨undef, _, ρ, .inr ⟨by simp [Sem.run_bind, hrun], rfl⟩, g1, .junk _, g2, fun _ _ _ h => .inl h⟩
    · simp at hs
  · simp at hs

theorem snd_mlook (t kt et : TypeId) {kd : IntKind} {cok : Bool} {z : V} {alt : Nat} (ht : P.underlying t = some (.map kt et)) (hkt : P.underlying kt = some (.int kd)) (hz : zeroOf P et = some z) {vals : List V} {us : List Value} {c : Prop} {v : V} {R : List Nat} {Δ : Sg}
    (hs : semMlook alt kd cok z vals sg = some (c, v, R, Δ)) (hc : c) (hv : VReps w (okOf w Fr ρ) ρ vals us) (hsg : SgRel w Fr ρ sg) :
    ∃ x y, us = [x, y] ∧ Res Fr ρ w sg dst new v Δ ((do Pure.pure (Next.value (← Instr.lookup t x y cok)) : Sem Next).run P w) := by
  unfold semMlook at hs
  split at hs
  · rename_i r k n
    obtain ⟨xu, ku, rfl, h1, h2⟩ := hv.inv2
    cases h2.inv_i
    split at hs
    · rename_i ents hb
      obtain ⟨L, hbox⟩ := hsg.box _ _ hb
      obtain ⟨hmap, hsub⟩ := hbox.map ents rfl
      obtain ⟨es, hheap, hlen, hborn, hent⟩ := hmap.mem
      cases h1 with
      | mp hm =>
        cases hm L hbox.loc
        refine ⟨_, _, rfl, ?_⟩
        have hget : (getObj L.blk).run P w = .ok (.map es es.size) w := by simp [getObj, Sem.run, hheap]
        split at hs
        · have main : IntKind.beq kd k = true → intKeys kd ents = true → noKey n ents → ∃ zv, VRep w (okOf w Fr ρ) ρ z zv ∧ (Instr.lookup t (.map (some L.blk)) (.int k n) cok).run P w = .ok (if cok then .tuple #[zv, .bool false] else zv) w := by
            intro q1 q2 q3
            cases beq_kind q1
            have hfind : Instr.findNow (.int kd) (.int kd n) es.toList 0 = some none := findNow_none (fun e he => by
              obtain ⟨i, hi⟩ := List.mem_iff_getElem?.1 he
              rw [Array.getElem?_toList] at hi
              obtain ⟨a, v, g1, g2⟩ := MapRep.keyAt hlen q2 hent hi
              exact ⟨a, g2, noKey_get q3 g1⟩)
            unfold zeroOf at hz
            cases hi : (P.info? et).bind (·.zero) with
            | none => simp [hi] at hz
            | some zv =>
              simp [hi] at hz
              refine ⟨zv, cV_rep hz, ?_⟩
              have hzrun : (zeroValue et).run P w = .ok zv w := by
                cases hinf : P.info? et with
                | none => simp [hinf] at hi
                | some inf =>
                  simp [hinf] at hi
                  simp [zeroValue, typeInfo, Sem.run_bind, hinf, hi]
              unfold Instr.lookup
              simp only [Sem.run_bind, run_underlying ht, Result.andThen_ok, hget, run_checkKey_int hkt _ _ 9999, run_underlying hkt, Sem.run_pure, Instr.findKey, hfind, hzrun]
          split at hs
          · simp only [Option.some.injEq, Prod.mk.injEq] at hs; obtain ⟨rfl, rfl, rfl, rfl⟩ := hs
            obtain ⟨zv, hrep, hrun⟩ := main hc.1 hc.2.1 hc.2.2
            refine Res.pure hsg (run_value _ _ _ hrun) ?_
            exact .tup (.cons hrep (.cons (.p (.b _)) .nil))
          · simp only [Option.some.injEq, Prod.mk.injEq] at hs; obtain ⟨rfl, rfl, rfl, rfl⟩ := hs
            obtain ⟨zv, hrep, hrun⟩ := main hc.1 hc.2.1 hc.2.2
            exact Res.pure hsg (run_value _ _ _ hrun) hrep
        · rename_i i
          split at hs
          · rename_i k2 a y hi
            have main : IntKind.beq kd k = true → intKeys kd ents = true → noKey n (ents.take i) → n = a → y.leaf = true → ∃ yv, VRep w (okOf w Fr ρ) ρ y yv ∧ (Instr.lookup t (.map (some L.blk)) (.int k n) cok).run P w = .ok (if cok then .tuple #[yv, .bool true] else yv) w := by
              intro q1 q2 q3 q4 q5
              cases beq_kind q1
              subst q4
              obtain ⟨e, g1, g2, g3⟩ := hent i _ _ hi
              obtain ⟨a', ha'⟩ := intKeys_get q2 hi
              cases ha'
              have hfind : Instr.findNow (.int kd) (.int kd n) es.toList 0 = some (some (0 + i, e.val)) := findNow_at (by rw [Array.getElem?_toList]; exact g1) g2.inv_i (fun j' e' hj he => by
                rw [Array.getElem?_toList] at he
                obtain ⟨a, v, r1, r2⟩ := MapRep.keyAt hlen q2 hent he
                refine ⟨a, r2, noKey_get q3 (i := j') (v := v) (k := kd) ?_⟩
                rw [List.getElem?_take, if_pos hj]; exact r1)
              rw [V.al_leaf q5] at g3
              refine ⟨e.val, g3, ?_⟩
              unfold Instr.lookup
              simp only [Sem.run_bind, run_underlying ht, Result.andThen_ok, hget, run_checkKey_int hkt _ _ 9999, run_underlying hkt, Sem.run_pure, Instr.findKey, hfind]
            split at hs
            · simp only [Option.some.injEq, Prod.mk.injEq] at hs; obtain ⟨rfl, rfl, rfl, rfl⟩ := hs
              obtain ⟨yv, hrep, hrun⟩ := main hc.1 hc.2.1 hc.2.2.1 hc.2.2.2.1 hc.2.2.2.2
              refine Res.pure hsg (run_value _ _ _ hrun) ?_
              exact .tup (.cons hrep (.cons (.p (.b _)) .nil))
            · simp only [Option.some.injEq, Prod.mk.injEq] at hs; obtain ⟨rfl, rfl, rfl, rfl⟩ := hs
              obtain ⟨yv, hrep, hrun⟩ := main hc.1 hc.2.1 hc.2.2.1 hc.2.2.2.1 hc.2.2.2.2
              exact Res.pure hsg (run_value _ _ _ hrun) hrep
          · simp at hs
    · simp at hs
  · simp at hs
end
end Go.DW

/- Every operation of the intermediate form is sound. -/
namespace Go.DW
section
variable {P : Program} {Fr : Nat → Prop} {ρ : Rho} {w w' : World} {sg : Sg} {dst : Nat} {new : Bool} {ok : Nat → Prop}

theorem cXs_rep2 {a : Act} {e : Env} (he : EnvRep w ok ρ a e) {x y : Operand} {xs : List X} {vs : List V} (h : cXs [x, y] = some xs) (hv : evs e xs = some vs) : VReps w ok ρ vs [a.eval x, a.eval y] := by
  simpa using cXs_rep he h hv

theorem cX_rep1 {a : Act} {e : Env} (he : EnvRep w ok ρ a e) {x : Operand} {y : X} {vs : List V} (h : cX x = some y) (hv : evs e [y] = some vs) : VReps w ok ρ vs [a.eval x] := by
  have h2 : cXs [x] = some [y] := by simp [cXs, h]
  simpa using cXs_rep he h2 hv

theorem map_one (f : Operand → Value) (x : Operand) : Array.map f #[x] = #[f x] := by simp
theorem map_two (f : Operand → Value) (x y : Operand) : Array.map f #[x, y] = #[f x, f y] := by simp

theorem op_sound {o : Oper} {env : Env} {a : Act} {k : K} {xs : List X} {vals : List V} {alt : Nat} {c : Prop} {v : V} {R : List Nat} {Δ : Sg}
    (hcomp : compileOp P o.op = some (k, xs)) (henv : EnvRep w (okOf w Fr ρ) ρ a env) (hvals : evs env xs = some vals) (hsg : SgRel w Fr ρ sg) (hsem : sem alt dst k vals sg = some (c, v, R, Δ)) (hc : c)
    (hfresh : k.new = true → Fresh ρ sg dst ∧ V.men.mens dst vals = false) : Res Fr ρ w sg dst k.new v Δ ((execOp a.eval o).run P w) := by
  cases hop : o.op with
  | move x =>
    simp only [hop, compileOp, Option.map_eq_some_iff, Prod.mk.injEq] at hcomp
    obtain ⟨y, hy, rfl, rfl⟩ := hcomp
    simp only [execOp, hop]
    obtain ⟨u, hu, hr⟩ := snd_mv (new := false) (dst := dst) hsem (cX_rep1 henv hy hvals) hsg
    simp at hu; subst hu
    exact hr _ rfl
  | assign x =>
    simp only [hop, compileOp, Option.map_eq_some_iff, Prod.mk.injEq] at hcomp
    obtain ⟨y, hy, rfl, rfl⟩ := hcomp
    simp only [execOp, hop]
    obtain ⟨u, hu, hr⟩ := snd_mv (new := false) (dst := dst) hsem (cX_rep1 henv hy hvals) hsg
    simp at hu; subst hu
    exact hr _ rfl
  | pick x y z =>
    simp only [hop, compileOp, Option.map_eq_some_iff, Prod.mk.injEq] at hcomp
    obtain ⟨ys, hy, rfl, rfl⟩ := hcomp
    simp only [execOp, hop]
    obtain ⟨b, x', y', hu, hr⟩ := snd_pick (new := false) (dst := dst) hsem (cXs_rep henv hy hvals) hsg
    simp at hu
    obtain ⟨h1, rfl, rfl⟩ := hu
    exact hr _ (by simp [h1, asBool])
  | alloc t =>
    simp only [hop, compileOp] at hcomp
    split at hcomp
    · rename_i z s hz hs
      split at hcomp
      · rename_i hl
        simp only [Option.some.injEq, Prod.mk.injEq] at hcomp
        obtain ⟨rfl, rfl⟩ := hcomp
        simp only [execOp, hop]
        simp [evs, X.ev] at hvals; subst hvals
        obtain ⟨hf, hm⟩ := hfresh rfl
        exact snd_op_alloc t hz hsem hc (mens_all hm z (by simp)) hsg hf
      · simp at hcomp
    · simp at hcomp
  | box t x =>
    simp only [hop, compileOp] at hcomp
    split at hcomp
    · rename_i s y hs hy
      simp only [Option.some.injEq, Prod.mk.injEq] at hcomp
      obtain ⟨rfl, rfl⟩ := hcomp
      simp only [execOp, hop]
      obtain ⟨hf, hm⟩ := hfresh rfl
      obtain ⟨u, hu, hr⟩ := snd_op_box t hsem hc (cX_rep1 henv hy hvals) hm hsg hf
      simp at hu; subst hu
      exact hr
    · simp at hcomp
  | build t parts =>
    simp only [hop, compileOp] at hcomp
    split at hcomp
    · rename_i fs z ys ht hz hys
      split at hcomp
      · rename_i pl hpl
        simp only [Option.map_eq_some_iff, Prod.mk.injEq] at hcomp
        obtain ⟨ps, hps, rfl, rfl⟩ := hcomp
        simp only [execOp, hop]
        exact snd_build_struct t ht hz hpl hps hsem hc (cXs_rep henv hys hvals) hsg rfl
      · simp at hcomp
    · rename_i n e z ys ht hz hys
      split at hcomp
      · rename_i s hs
        simp only [Option.some.injEq, Prod.mk.injEq] at hcomp
        obtain ⟨rfl, rfl⟩ := hcomp
        simp only [execOp, hop]
        exact snd_build_array t e ht hz hs hsem hc (cXs_rep henv hys hvals) hsg rfl
      · simp at hcomp
    · simp at hcomp
  | buildSlice t n parts =>
    simp only [hop, compileOp] at hcomp
    split at hcomp
    · rename_i e ht
      split at hcomp
      · rename_i s z ys hs hz hys
        split at hcomp
        · rename_i hh
          simp only [Option.some.injEq, Prod.mk.injEq] at hcomp
          obtain ⟨rfl, rfl⟩ := hcomp
          simp only [execOp, hop]
          obtain ⟨hf, hm⟩ := hfresh rfl
          exact snd_bslice t e ht hs hz hh.1 hh.2.1 hh.2.2 hsem hc (cXs_rep henv hys hvals) hm hsg hf rfl
        · simp at hcomp
      · simp at hcomp
    · simp at hcomp
  | load t x =>
    simp only [hop, compileOp] at hcomp
    split at hcomp
    · rename_i ag s y ha hs hy
      split at hcomp
      · rename_i hh
        simp only [Option.some.injEq, Prod.mk.injEq] at hcomp
        obtain ⟨rfl, rfl⟩ := hcomp
        simp only [execOp, hop]
        obtain ⟨u, hu, hr⟩ := snd_load (new := false) (dst := dst) t ha hs (fun h => by subst h; simpa using hh) hsem hc (cX_rep1 henv hy hvals) hsg
        simp at hu; subst hu
        exact hr
      · simp at hcomp
    · simp at hcomp
  | store t x y =>
    simp only [hop, compileOp] at hcomp
    split at hcomp
    · rename_i s ys hs hy
      simp only [Option.some.injEq, Prod.mk.injEq] at hcomp
      obtain ⟨rfl, rfl⟩ := hcomp
      simp only [execOp, hop]
      obtain ⟨u, u', hu, hr⟩ := snd_store (new := false) (dst := dst) t hs hsem hc (cXs_rep2 henv hy hvals) hsg
      simp at hu
      obtain ⟨rfl, rfl⟩ := hu
      exact hr
    · simp at hcomp
  | nilCheck x =>
    simp only [hop, compileOp, Option.map_eq_some_iff, Prod.mk.injEq] at hcomp
    obtain ⟨y, hy, rfl, rfl⟩ := hcomp
    obtain ⟨u, hu, hcase, hr⟩ := snd_nilck (new := false) (dst := dst) hsem (cX_rep1 henv hy hvals) hsg
    simp at hu; subst hu
    refine hr _ ?_
    simp only [execOp, hop]
    rcases hcase with ⟨p, hp⟩ | ⟨f, cs, hp⟩ <;> rw [hp] <;> rfl
  | binOp op t x y yt =>
    simp only [hop, compileOp] at hcomp
    split at hcomp
    · rename_i ys k' hy ht
      simp only [Option.some.injEq, Prod.mk.injEq] at hcomp
      obtain ⟨rfl, rfl⟩ := hcomp
      simp only [execOp, hop]
      obtain ⟨u, u', hu, hr⟩ := snd_bin (new := false) (dst := dst) t hsem hc (cXs_rep2 henv hy hvals) hsg
      simp at hu
      obtain ⟨rfl, rfl⟩ := hu
      exact hr x y
    · rename_i ys hy ht
      split at hcomp
      · simp only [Option.some.injEq, Prod.mk.injEq] at hcomp
        obtain ⟨rfl, rfl⟩ := hcomp
        simp only [execOp, hop]
        obtain ⟨u, u', hu, hr⟩ := snd_beq (str := false) (new := false) (dst := dst) t (.inl ⟨rfl, rfl⟩) (fun _ => ht) hsem (cXs_rep2 henv hy hvals) hsg
        simp at hu
        obtain ⟨rfl, rfl⟩ := hu
        exact hr x y
      · simp only [Option.some.injEq, Prod.mk.injEq] at hcomp
        obtain ⟨rfl, rfl⟩ := hcomp
        simp only [execOp, hop]
        obtain ⟨u, u', hu, hr⟩ := snd_beq (str := false) (new := false) (dst := dst) t (.inr ⟨rfl, rfl⟩) (fun _ => ht) hsem (cXs_rep2 henv hy hvals) hsg
        simp at hu
        obtain ⟨rfl, rfl⟩ := hu
        exact hr x y
      · simp at hcomp
    · rename_i ys hy ht
      split at hcomp
      · simp only [Option.some.injEq, Prod.mk.injEq] at hcomp
        obtain ⟨rfl, rfl⟩ := hcomp
        simp only [execOp, hop]
        obtain ⟨u, u', hu, hr⟩ := snd_beq (P := P) (str := true) (new := false) (dst := dst) t (.inl ⟨rfl, rfl⟩) (fun h => by cases h) hsem (cXs_rep2 henv hy hvals) hsg
        simp at hu
        obtain ⟨rfl, rfl⟩ := hu
        exact hr x y
      · simp only [Option.some.injEq, Prod.mk.injEq] at hcomp
        obtain ⟨rfl, rfl⟩ := hcomp
        simp only [execOp, hop]
        obtain ⟨u, u', hu, hr⟩ := snd_beq (P := P) (str := true) (new := false) (dst := dst) t (.inr ⟨rfl, rfl⟩) (fun h => by cases h) hsem (cXs_rep2 henv hy hvals) hsg
        simp at hu
        obtain ⟨rfl, rfl⟩ := hu
        exact hr x y
      · simp at hcomp
    · rename_i ys fs hy ht
      split at hcomp
      · rename_i hh
        simp only [Bool.and_eq_true, Bool.not_eq_true'] at hh
        split at hcomp
        · rename_i ts hts
          simp only [Option.some.injEq, Prod.mk.injEq] at hcomp
          obtain ⟨rfl, rfl⟩ := hcomp
          simp only [execOp, hop]
          obtain ⟨u, u', hu, hr⟩ := snd_seq (new := false) (dst := dst) t ht hh.1 hh.2 hts (.inl ⟨rfl, rfl⟩) hsem hc (cXs_rep2 henv hy hvals) hsg
          simp at hu
          obtain ⟨rfl, rfl⟩ := hu
          exact hr x y
        · rename_i ts hts
          simp only [Option.some.injEq, Prod.mk.injEq] at hcomp
          obtain ⟨rfl, rfl⟩ := hcomp
          simp only [execOp, hop]
          obtain ⟨u, u', hu, hr⟩ := snd_seq (new := false) (dst := dst) t ht hh.1 hh.2 hts (.inr ⟨rfl, rfl⟩) hsem hc (cXs_rep2 henv hy hvals) hsg
          simp at hu
          obtain ⟨rfl, rfl⟩ := hu
          exact hr x y
        · simp at hcomp
      · simp at hcomp
    · simp at hcomp
  | unOp op t x =>
    cases op <;> simp only [hop, compileOp, reduceCtorEq] at hcomp
    simp only [Option.map_eq_some_iff, Prod.mk.injEq] at hcomp
    obtain ⟨y, hy, rfl, rfl⟩ := hcomp
    simp only [execOp, hop]
    obtain ⟨u, hu, hr⟩ := snd_not (P := P) (new := false) (dst := dst) hsem (cX_rep1 henv hy hvals) hsg
    simp at hu; subst hu
    exact hr
  | convert s d x =>
    simp only [hop, compileOp] at hcomp
    split at hcomp
    · rename_i y k1 k2 hy h1 h2
      simp only [Option.some.injEq, Prod.mk.injEq] at hcomp
      obtain ⟨rfl, rfl⟩ := hcomp
      simp only [execOp, hop]
      obtain ⟨u, hu, hr⟩ := snd_conv (new := false) (dst := dst) s d h1 h2 hsem (cX_rep1 henv hy hvals) hsg
      simp at hu; subst hu
      exact hr
    · rename_i y e hy h1 h2
      split at hcomp
      · rename_i he
        simp only [Option.some.injEq, Prod.mk.injEq] at hcomp
        obtain ⟨rfl, rfl⟩ := hcomp
        have he := isU8_spec he
        simp only [execOp, hop]
        obtain ⟨u, hu, hr⟩ := snd_b2s (new := false) (dst := dst) s d e h1 he h2 hsem hc (cX_rep1 henv hy hvals) hsg
        simp at hu; subst hu
        exact hr
      · simp at hcomp
    · rename_i y e1 e hy h1 h2
      split at hcomp
      · rename_i he
        obtain ⟨rfl, he⟩ := he
        simp only [Option.some.injEq, Prod.mk.injEq] at hcomp
        obtain ⟨rfl, rfl⟩ := hcomp
        have he := isU8_spec he
        simp only [execOp, hop]
        obtain ⟨u, hu, hr⟩ := snd_mark (new := false) (dst := dst) h2 he hsem hc (cX_rep1 henv hy hvals) hsg
        simp at hu; subst hu
        exact hr
      · simp at hcomp
    · simp at hcomp
  | makeFunc fn first captured =>
    cases fn <;> simp only [hop, compileOp, reduceCtorEq] at hcomp
    rename_i f
    split at hcomp
    · rename_i hf
      simp only [Option.map_eq_some_iff, Prod.mk.injEq] at hcomp
      obtain ⟨ys, hy, rfl, rfl⟩ := hcomp
      have hfirst : first.map a.eval = #[] := by
        have : first = #[] := Array.size_eq_zero_iff.1 hf
        subst this; simp
      simp only [execOp, hop, hfirst]
      simp only [sem, Option.some.injEq, Prod.mk.injEq] at hsem
      obtain ⟨_, rfl, _, rfl⟩ := hsem
      have := snd_fn (P := P) (new := false) (dst := dst) f (cXs_rep henv hy hvals) hsg
      have e : (captured.toList.map a.eval).toArray = captured.map a.eval := by apply Array.ext'; simp
      rw [e] at this
      exact this
    · simp at hcomp
  | makeSlice t l cc =>
    simp only [hop, compileOp] at hcomp
    split at hcomp
    · rename_i e ht
      split at hcomp
      · rename_i s b z ys hs hb hz hy
        split at hcomp
        · rename_i hh
          simp only [Option.some.injEq, Prod.mk.injEq] at hcomp
          obtain ⟨rfl, rfl⟩ := hcomp
          simp only [execOp, hop]
          obtain ⟨hf, hm⟩ := hfresh rfl
          obtain ⟨u, u', hu, hr⟩ := snd_mks t e ht hs hb hz hh.2 hsem hc (cXs_rep2 henv hy hvals) hsg hf
          simp at hu
          obtain ⟨rfl, rfl⟩ := hu
          exact hr
        · simp at hcomp
      · simp at hcomp
    · simp at hcomp
  | slice t x lo hi mx =>
    simp only [hop, compileOp] at hcomp
    split at hcomp
    · rename_i e ht
      split at hcomp
      · split at hcomp
        · rename_i s ys hs hy
          simp only [Option.some.injEq, Prod.mk.injEq] at hcomp
          obtain ⟨rfl, rfl⟩ := hcomp
          simp only [execOp, hop, Option.map_none]
          exact snd_slc (new := false) (dst := dst) t e ht hs hsem hc (cXs_rep henv hy hvals) hsg rfl
        · simp at hcomp
      · rename_i m
        split at hcomp
        · rename_i h
          split at hcomp
          · rename_i s ys hs hy
            simp only [Option.some.injEq, Prod.mk.injEq] at hcomp
            obtain ⟨rfl, rfl⟩ := hcomp
            simp only [execOp, hop, Option.map_none, Option.map_some]
            exact snd_slc0 (new := false) (dst := dst) t e ht hs hsem (cXs_rep henv hy hvals) hsg (by simp)
          · simp at hcomp
        · simp at hcomp
    · rename_i ht
      split at hcomp
      · rename_i ys hy
        simp only [Option.some.injEq, Prod.mk.injEq] at hcomp
        obtain ⟨rfl, rfl⟩ := hcomp
        simp only [execOp, hop, Option.map_none]
        exact snd_sls (new := false) (dst := dst) t ht hsem hc (cXs_rep henv hy hvals) hsg rfl
      · simp at hcomp
    · simp at hcomp
  | fieldAddr t x f =>
    simp only [hop, compileOp] at hcomp
    split at hcomp
    · rename_i fs y ht hy
      split at hcomp
      · rename_i fd hf
        split at hcomp
        · rename_i n hn
          simp only [Option.some.injEq, Prod.mk.injEq] at hcomp
          obtain ⟨rfl, rfl⟩ := hcomp
          simp only [execOp, hop]
          obtain ⟨u, hu, hr⟩ := snd_fad (new := false) (dst := dst) t ht hf hn hsem (cX_rep1 henv hy hvals) hsg
          simp at hu; subst hu
          exact hr
        · simp at hcomp
      · simp at hcomp
    · simp at hcomp
  | indexAddr t x i =>
    simp only [hop, compileOp] at hcomp
    split at hcomp
    · rename_i e ys ht hy
      simp only [Option.map_eq_some_iff, Prod.mk.injEq] at hcomp
      obtain ⟨s, hs, rfl, rfl⟩ := hcomp
      simp only [execOp, hop]
      obtain ⟨u, u', hu, hr⟩ := snd_iad (new := false) (dst := dst) t e ht hs hsem hc (cXs_rep2 henv hy hvals) hsg
      simp at hu
      obtain ⟨rfl, rfl⟩ := hu
      exact hr
    · rename_i n e ys ht hy
      simp only [Option.map_eq_some_iff, Prod.mk.injEq] at hcomp
      obtain ⟨s, hs, rfl, rfl⟩ := hcomp
      simp only [execOp, hop]
      obtain ⟨u, u', hu, hr⟩ := snd_iaa (new := false) (dst := dst) t e ht hs hsem hc (cXs_rep2 henv hy hvals) hsg
      simp at hu
      obtain ⟨rfl, rfl⟩ := hu
      exact hr
    · simp at hcomp
  | index t x i =>
    simp only [hop, compileOp] at hcomp
    split at hcomp
    · rename_i ys ht hy
      simp only [Option.some.injEq, Prod.mk.injEq] at hcomp
      obtain ⟨rfl, rfl⟩ := hcomp
      simp only [execOp, hop]
      obtain ⟨u, u', hu, hr⟩ := snd_idx (new := false) (dst := dst) t ht hsem hc (cXs_rep2 henv hy hvals) hsg
      simp at hu
      obtain ⟨rfl, rfl⟩ := hu
      exact hr
    · rename_i n e ys ht hy
      split at hcomp
      · rename_i s ag hs ha
        split at hcomp
        · rename_i hh
          simp only [Option.some.injEq, Prod.mk.injEq] at hcomp
          obtain ⟨rfl, rfl⟩ := hcomp
          simp only [execOp, hop]
          obtain ⟨u, u', hu, hr⟩ := snd_idxa (new := false) (dst := dst) t e ht hs ha (fun h => by subst h; simpa using hh) hsem hc (cXs_rep2 henv hy hvals) hsg
          simp at hu
          obtain ⟨rfl, rfl⟩ := hu
          exact hr
        · simp at hcomp
      · simp at hcomp
    · simp at hcomp
  | sliceToArrayPointer t x =>
    simp only [hop, compileOp] at hcomp
    split at hcomp
    · rename_i n e y ht hy
      simp only [Option.some.injEq, Prod.mk.injEq] at hcomp
      obtain ⟨rfl, rfl⟩ := hcomp
      simp only [execOp, hop]
      obtain ⟨u, hu, hr⟩ := snd_arp (new := false) (dst := dst) t e ht hsem hc (cX_rep1 henv hy hvals) hsg
      simp at hu; subst hu
      exact hr
    · simp at hcomp
  | makeMap t hint =>
    cases hint with
    | none =>
      simp only [hop, compileOp, Option.some.injEq, Prod.mk.injEq] at hcomp
      obtain ⟨rfl, rfl⟩ := hcomp
      simp only [execOp, hop, Option.map_none]
      obtain ⟨hf, hm⟩ := hfresh rfl
      exact snd_mkmap t hsem hsg hf
    | some r => simp [hop, compileOp] at hcomp
  | insert t m k x =>
    simp only [hop, compileOp] at hcomp
    split at hcomp
    · rename_i kt et ht
      split at hcomp
      · rename_i kd ys hkt hy
        simp only [Option.some.injEq, Prod.mk.injEq] at hcomp
        obtain ⟨rfl, rfl⟩ := hcomp
        simp only [execOp, hop]
        obtain ⟨x', y', z', hu, hr⟩ := snd_mins (new := false) (dst := dst) t kt et ht hkt hsem hc (cXs_rep henv hy hvals) hsg
        simp at hu
        obtain ⟨rfl, rfl, rfl⟩ := hu
        exact hr
      · simp at hcomp
    · simp at hcomp
  | lookup t x ix cok =>
    simp only [hop, compileOp] at hcomp
    split at hcomp
    · rename_i kt et ht
      split at hcomp
      · rename_i kd z ys hkt hz hy
        simp only [Option.some.injEq, Prod.mk.injEq] at hcomp
        obtain ⟨rfl, rfl⟩ := hcomp
        simp only [execOp, hop]
        obtain ⟨x', y', hu, hr⟩ := snd_mlook (new := false) (dst := dst) t kt et ht hkt hz hsem hc (cXs_rep henv hy hvals) hsg
        simp at hu
        obtain ⟨rfl, rfl⟩ := hu
        exact hr
      · simp at hcomp
    · simp at hcomp
  | extract x i =>
    simp only [hop, compileOp, Option.map_eq_some_iff, Prod.mk.injEq] at hcomp
    obtain ⟨y, hy, rfl, rfl⟩ := hcomp
    simp only [execOp, hop]
    obtain ⟨u, hu, hr⟩ := snd_ext (P := P) (new := false) (dst := dst) hsem (cX_rep1 henv hy hvals) hsg
    simp at hu; subst hu
    exact hr
  | call cl =>
    obtain ⟨callee, args, argTypes⟩ := cl
    simp only [hop, compileOp] at hcomp
    cases callee with
    | value f =>
      simp only [Option.map_eq_some_iff, Prod.mk.injEq] at hcomp
      obtain ⟨y, hy, rfl, rfl⟩ := hcomp
      simp [sem] at hsem
    | invoke r m => simp at hcomp
    | builtin b =>
      have hexec : ∀ (s : Sem Value), builtin b argTypes o.type (args.map fun | .const _ => true | _ => false) (args.map a.eval) = (do pure (Next.value (← s))) → execOp a.eval o = (do pure (Next.value (← s))) := by
        intro s hs
        simp only [execOp, hop, resolve, pure_bind, invoke]
        exact hs
      cases b <;> try (simp at hcomp; done)
      case append =>
        dsimp only at hcomp
        split at hcomp
        · rename_i x y t u hargs hats
          have e1 : args = #[x, y] := by apply Array.ext'; simpa using hargs
          have e2 : argTypes = #[t, u] := by apply Array.ext'; simpa using hats
          subst e1 e2
          split at hcomp
          · rename_i e e' ys ht hu hy
            split at hcomp
            · rename_i s bb z hs hb hz
              split at hcomp
              · rename_i hh
                simp only [Option.some.injEq, Prod.mk.injEq] at hcomp
                obtain ⟨rfl, rfl⟩ := hcomp
                rw [hexec _ rfl, map_two]
                obtain ⟨hf, hm⟩ := hfresh rfl
                obtain ⟨q, q', hu', hr⟩ := snd_app (ty := o.type) ht hu hs hb hz hh.2.1 hh.2.2.1 hh.2.2.2 hsem hc (cXs_rep2 henv hy hvals) hsg hf
                simp at hu'
                obtain ⟨rfl, rfl⟩ := hu'
                exact hr
              · simp at hcomp
            · simp at hcomp
          · rename_i e ys ht hu hy
            split at hcomp
            · rename_i z he hs hb hz
              split at hcomp
              · rename_i hh
                simp only [Option.some.injEq, Prod.mk.injEq] at hcomp
                obtain ⟨rfl, rfl⟩ := hcomp
                rw [hexec _ rfl, map_two]
                obtain ⟨hf, hm⟩ := hfresh rfl
                obtain ⟨q, q', hu', hr⟩ := snd_apps (ty := o.type) ht hu hs hb hz hh.1 hh.2 hsem hc (cXs_rep2 henv hy hvals) hsg hf
                simp at hu'
                obtain ⟨rfl, rfl⟩ := hu'
                exact hr
              · simp at hcomp
            · simp at hcomp
          · simp at hcomp
        · simp at hcomp
      case len =>
        dsimp only at hcomp
        split at hcomp
        · rename_i x t hargs hats
          have e1 : args = #[x] := by apply Array.ext'; simpa using hargs
          subst e1
          have e3 : ∀ y : Value, Builtin.len_ argTypes o.type #[y] = Builtin.len_ #[t] o.type #[y] := by
            intro y
            simp only [Builtin.len_, hats]
            rfl
          split at hcomp
          · rename_i e y ht hy
            simp only [Option.some.injEq, Prod.mk.injEq] at hcomp
            obtain ⟨rfl, rfl⟩ := hcomp
            rw [hexec _ rfl, map_one]
            obtain ⟨q, hu', hr⟩ := snd_len (new := false) (dst := dst) t o.type e ht hsem (cX_rep1 henv hy hvals) hsg
            simp at hu'; subst hu'
            rw [← e3] at hr
            exact hr
          · rename_i y ht hy
            simp only [Option.some.injEq, Prod.mk.injEq] at hcomp
            obtain ⟨rfl, rfl⟩ := hcomp
            rw [hexec _ rfl, map_one]
            obtain ⟨q, hu', hr⟩ := snd_lens (new := false) (dst := dst) t o.type ht hsem (cX_rep1 henv hy hvals) hsg
            simp at hu'; subst hu'
            rw [← e3] at hr
            exact hr
          · simp at hcomp
        · simp at hcomp
      case max =>
        dsimp only at hcomp
        split at hcomp
        · rename_i x y hargs
          have e1 : args = #[x, y] := by apply Array.ext'; simpa using hargs
          subst e1
          simp only [Option.map_eq_some_iff, Prod.mk.injEq] at hcomp
          obtain ⟨ys, hy, rfl, rfl⟩ := hcomp
          rw [hexec _ rfl, map_two]
          obtain ⟨q, q', hu', hr⟩ := snd_mima (P := P) (new := false) (dst := dst) argTypes o.type hsem (cXs_rep2 henv hy hvals) hsg
          simp at hu'
          obtain ⟨rfl, rfl⟩ := hu'
          simpa [K.new] using hr
        · simp at hcomp
      case min =>
        dsimp only at hcomp
        split at hcomp
        · rename_i x y hargs
          have e1 : args = #[x, y] := by apply Array.ext'; simpa using hargs
          subst e1
          simp only [Option.map_eq_some_iff, Prod.mk.injEq] at hcomp
          obtain ⟨ys, hy, rfl, rfl⟩ := hcomp
          rw [hexec _ rfl, map_two]
          obtain ⟨q, q', hu', hr⟩ := snd_mima (P := P) (new := false) (dst := dst) argTypes o.type hsem (cXs_rep2 henv hy hvals) hsg
          simp at hu'
          obtain ⟨rfl, rfl⟩ := hu'
          simpa [K.new] using hr
        · simp at hcomp
  | _ => simp [hop, compileOp] at hcomp
end
end Go.DW

/- A region, in the text's order or in any order. -/
namespace Go.DW

/-! ### Lists of writes -/
def aget {α : Type} : List (Nat × α) → Nat → Option α
  | [], _ => none
  | (k', v) :: l, k => if k = k' then some v else aget l k

theorem aget_append {α : Type} (k : Nat) : ∀ (a b : List (Nat × α)), aget (a ++ b) k = (aget a k).or (aget b k)
  | [], b => by simp [aget]
  | (k', v) :: a, b => by
    simp only [List.cons_append, aget]
    split
    · simp
    · exact aget_append k a b

theorem Env.get_eq : ∀ (e : Env) (t : Nat), Env.get e t = aget e t
  | [], _ => rfl
  | (t', v) :: e, t => by
    simp only [Env.get, aget]
    cases h : Nat.beq t t'
    · have : t ≠ t' := Nat.ne_of_beq_eq_false h
      simp [this, Env.get_eq e t]
    · have : t = t' := Nat.eq_of_beq_eq_true h
      simp [this]

theorem Sg.get_eq : ∀ (sg : Sg) (r : Nat), Sg.get sg r = (aget sg r).join
  | [], _ => rfl
  | (r', b) :: sg, r => by
    rw [Sg.get_cons]
    simp only [aget]
    split
    · simp
    · exact Sg.get_eq sg r

def foldW {α : Type} (D : Nat → Bool) : List (List (Nat × α)) → Nat → List (Nat × α) → List (Nat × α)
  | [], _, acc => acc
  | w :: ws, n, acc => foldW D ws (n + 1) (if D n then w ++ acc else acc)

section
variable {α : Type}

/-- Two folds agree at a key, if the writes to the key are done by both or by none. -/
theorem foldW_agree {D D' : Nat → Bool} {k : Nat} : ∀ (ws : List (List (Nat × α))) (n : Nat) (a b : List (Nat × α)), aget a k = aget b k →
    (∀ (j : Nat) w, ws[j]? = some w → aget w k ≠ none → D (n + j) = D' (n + j)) → aget (foldW D ws n a) k = aget (foldW D' ws n b) k
  | [], _, _, _, h, _ => h
  | w :: ws, n, a, b, h, hw => by
    simp only [foldW]
    refine foldW_agree ws (n + 1) _ _ ?_ (fun j w' hj hn => by have := hw (j + 1) w' (by simpa using hj) hn; rwa [show n + (j + 1) = n + 1 + j by omega] at this)
    have h0 := hw 0 w (by simp)
    simp only [Nat.add_zero] at h0
    rcases Classical.em (aget w k = none) with hn | hn
    · have e1 : aget (if D n then w ++ a else a) k = aget a k := by split <;> simp [aget_append, hn]
      have e2 : aget (if D' n then w ++ b else b) k = aget b k := by split <;> simp [aget_append, hn]
      rw [e1, e2, h]
    · rw [← h0 hn]
      split
      · simp [aget_append, h]
      · exact h

theorem foldW_none {D : Nat → Bool} {k : Nat} : ∀ (ws : List (List (Nat × α))) (n : Nat) (a : List (Nat × α)), (∀ (j : Nat) w, ws[j]? = some w → D (n + j) = true → aget w k = none) → aget (foldW D ws n a) k = aget a k
  | [], _, _, _ => rfl
  | w :: ws, n, a, h => by
    simp only [foldW]
    rw [foldW_none ws (n + 1) _ (fun j w' hj hd => h (j + 1) w' (by simpa using hj) (by rwa [show n + (j + 1) = n + 1 + j by omega]))]
    split
    · rename_i hd
      rw [aget_append, h 0 w (by simp) (by simpa using hd)]; simp
    · rfl

theorem foldW_append {D : Nat → Bool} : ∀ (ws vs : List (List (Nat × α))) (n : Nat) (a : List (Nat × α)), foldW D (ws ++ vs) n a = foldW D vs (n + ws.length) (foldW D ws n a)
  | [], _, _, _ => by simp [foldW]
  | w :: ws, vs, n, a => by
    simp only [List.cons_append, foldW, List.length_cons]
    rw [foldW_append ws vs (n + 1), show n + 1 + ws.length = n + (ws.length + 1) by omega]

theorem mem_foldW {D : Nat → Bool} {x : Nat × α} : ∀ (ws : List (List (Nat × α))) (n : Nat) (a : List (Nat × α)), x ∈ foldW D ws n a → x ∈ a ∨ ∃ j w, ws[j]? = some w ∧ D (n + j) = true ∧ x ∈ w
  | [], _, _, h => .inl h
  | w :: ws, n, a, h => by
    simp only [foldW] at h
    rcases mem_foldW ws (n + 1) _ h with h | ⟨j, w', hj, hd, hx⟩
    · split at h
      · rename_i hd
        rcases List.mem_append.1 h with h | h
        · exact .inr ⟨0, w, by simp, by simpa using hd, h⟩
        · exact .inl h
      · exact .inl h
    · exact .inr ⟨j + 1, w', by simpa using hj, by rwa [show n + (j + 1) = n + 1 + j by omega], hx⟩

/-- What the entry i sees, if all of those before it that write to the key are done, and none of those behind it. -/
theorem foldW_sees {D : Nat → Bool} {k i : Nat} {ws : List (List (Nat × α))} {a : List (Nat × α)} (hi : i ≤ ws.length)
    (h1 : ∀ (j : Nat) w, ws[j]? = some w → aget w k ≠ none → j < i → D j = true) (h2 : ∀ (j : Nat) w, ws[j]? = some w → aget w k ≠ none → i ≤ j → D j = false) :
    aget (foldW D ws 0 a) k = aget (foldW (fun _ => true) (ws.take i) 0 a) k := by
  have e : ws = ws.take i ++ ws.drop i := (List.take_append_drop i ws).symm
  conv => lhs; rw [e]
  rw [foldW_append, foldW_none]
  · refine foldW_agree _ _ _ _ rfl (fun j w hj hn => ?_)
    rw [List.getElem?_take] at hj
    split at hj
    · rename_i hlt
      simpa using h1 j w hj hn hlt
    · simp at hj
  · intro j w hj hd
    rcases Classical.em (aget w k = none) with h | h
    · exact h
    · rw [List.getElem?_drop] at hj
      have hl : (ws.take i).length = i := by simp; omega
      rw [hl] at hd
      have := h2 (i + j) w hj h (by omega)
      rw [Nat.zero_add, this] at hd; cases hd

/-- One entry more. -/
theorem foldW_more {D : Nat → Bool} {k i : Nat} {ws : List (List (Nat × α))} {w : List (Nat × α)} {a : List (Nat × α)} (hi : ws[i]? = some w) (hd : D i = false)
    (h2 : aget w k ≠ none → ∀ (j : Nat) w', ws[j]? = some w' → aget w' k ≠ none → i < j → D j = false) :
    aget (foldW (fun j => D j || j == i) ws 0 a) k = aget (w ++ foldW D ws 0 a) k := by
  rw [aget_append]
  rcases Classical.em (aget w k = none) with hn | hn
  · rw [hn, Option.none_or]
    refine foldW_agree _ _ _ _ rfl (fun j w' hj hn' => ?_)
    rcases Nat.decEq j i with h | rfl
    · simp [h]
    · rw [hi] at hj; cases hj; exact absurd hn hn'
  · have hil := (List.getElem?_eq_some_iff.1 hi).1
    have e : ws = ws.take i ++ w :: ws.drop (i + 1) := by
      have := (List.getElem?_eq_some_iff.1 hi).2
      rw [← this, List.getElem_cons_drop, List.take_append_drop]
    conv => lhs; rw [e]
    rw [foldW_append]
    simp only [foldW]
    have hl : (ws.take i).length = i := by simp; omega
    rw [hl, foldW_none]
    · simp only [Nat.zero_add, beq_self_eq_true, Bool.or_true, if_true, aget_append]
      cases hw : aget w k with
      | none => exact absurd hw hn
      | some v => simp
    · intro j w' hj hd'
      rcases Classical.em (aget w' k = none) with h | h
      · exact h
      · rw [List.getElem?_drop] at hj
        have := h2 hn (i + 1 + j) w' hj h (by omega)
        have e2 : 0 + i + 1 + j = i + 1 + j := by omega
        rw [e2] at hd'
        simp [this] at hd'
        omega
end

/-! ### States -/
def putE (dst : Option Nat) (v : V) (e : Env) : Env := match dst with
  | some d => (d, v) :: e
  | none => e

def guardV (e : Env) : Option (Nat × Bool) → Option Bool
  | none => some true
  | some (g, want) => match Env.get e g with
    | some (.p (.b x)) => some (x == want)
    | some (.tup []) => some false
    | _ => none

/-- The values and the owned memory that a run of a function has. -/
structure Rel (Fr : Nat → Prop) (ρ0 : Rho) (w0 : World) (nt : Nat) (S : St) (a : Act) (w : World) : Prop where
  ex : ∃ ρ, EnvRep w (okOf w Fr ρ) ρ a S.env ∧ SgRel w Fr ρ S.sg ∧ Evo w0 ρ0 w ρ ∧ (∀ r s L, ρ r s = some L → ρ0 r s = some L ∨ r < 1000)
  defers : a.defers = []
  size : a.tmps.size = nt

theorem EnvRep.of_get {w : World} {ok : Nat → Prop} {ρ : Rho} {a : Act} {e e' : Env} (h : EnvRep w ok ρ a e) (hg : ∀ t v, Env.get e' t = some v → Env.get e t = some v) : EnvRep w ok ρ a e' :=
  fun t v ht => h t v (hg t v ht)

theorem SgRel.of_get {w : World} {Fr : Nat → Prop} {ρ : Rho} {sg sg' : Sg} (h : SgRel w Fr ρ sg) (hg : ∀ r, Sg.get sg' r = Sg.get sg r) : SgRel w Fr ρ sg' :=
  ⟨fun r b hb => h.box r b (by rw [← hg]; exact hb), fun r s L hL => by rw [hg]; exact h.dom r s L hL, h.inj, h.own, h.fr⟩

theorem Rel.of_get {Fr : Nat → Prop} {ρ0 : Rho} {w0 : World} {nt : Nat} {S S' : St} {a : Act} {w : World} (h : Rel Fr ρ0 w0 nt S a w) (he : ∀ t v, Env.get S'.env t = some v → Env.get S.env t = some v) (hg : ∀ r, Sg.get S'.sg r = Sg.get S.sg r) : Rel Fr ρ0 w0 nt S' a w := by
  obtain ⟨ρ, h1, h2, h3, h4⟩ := h.ex
  exact ⟨⟨ρ, h1.of_get he, h2.of_get hg, h3, h4⟩, h.defers, h.size⟩

/-- What an operation does in every state that has its operands and the memory that it reads. -/
def LA (P : Program) (o : Oper) (xs : List X) (vals : List V) (sg0 : Sg) (R N : List Nat) (v : V) (Δ : Sg) : Prop :=
  ∀ (Fr : Nat → Prop) (ρ : Rho) (w : World) (sg : Sg) (a : Act) (env : Env), EnvRep w (okOf w Fr ρ) ρ a env → evs env xs = some vals → SgRel w Fr ρ sg → (∀ r ∈ R, Sg.get sg r = Sg.get sg0 r) → (∀ k ∈ N, Fresh ρ sg k) →
    ∀ (next : Act → World → Prop) (Q : Exit → Act → World → Prop), (∀ u w' ρ', Evo w ρ w' ρ' → VRep w' (okOf w' Fr ρ') ρ' v u → SgRel w' Fr ρ' (Δ ++ sg) → (∀ r s L, ρ' r s = some L → ρ r s = some L ∨ r ∈ N) → next (a.put o.dst u) w') → o.wp P a w next Q

/-- One operation of a trace. -/
structure TE where
  yes : Bool
  vals : List V
  v : V
  R : List Nat
  N : List Nat
  Δ : Sg

def stepSt (o : IOper) (t : TE) (S : St) : St := ⟨putE o.dst t.v S.env, t.Δ ++ S.sg⟩

structure FreshIn (k : Nat) (S : St) : Prop where
  lt : k < 1000
  dom : Sg.get S.sg k = none
  env : ∀ e ∈ S.env, e.2.men k = false
  sg : ∀ e ∈ S.sg, ∀ b, e.2 = some b → b.men k = false

inductive Valid1 (P : Program) (o' : Oper) (o : IOper) (t : TE) (S : St) : Prop where
  | yes (h : t.yes = true) (hg : guardV S.env o.guard = some true) (hv : evs S.env o.args = some t.vals) (hl : LA P o' o.args t.vals S.sg t.R t.N t.v t.Δ) (hf : ∀ k ∈ t.N, FreshIn k S)
  | no (h : t.yes = false) (hg : guardV S.env o.guard = some false) (hv : t.v = .tup []) (hR : t.R = []) (hN : t.N = []) (hΔ : t.Δ = [])

/-- How an operation and its intermediate form hang together. -/
structure Comp (nt : Nat) (ops : Array Oper) (o' : Oper) (o : IOper) : Prop where
  dst : o'.dst = o.dst
  lt : ∀ d, o.dst = some d → d < 1000 ∧ d < nt
  guard : (o'.guard = none ∧ o.guard = none) ∨ ∃ j want g, o'.guard = some (j, want) ∧ o.guard = some (g, want) ∧ (ops[j]?).bind (·.dst) = some g ∧ g < 1000

theorem look_put_same {a : Act} {d : Nat} {u : Value} (h1 : d < 1000) (h2 : d < a.tmps.size) : look (a.put (some d) u) d = some u := by
  have : d < 1000000 := by omega
  simp [look, this, Act.put, h2]

theorem look_put_other {a : Act} {d t : Nat} {u : Value} (h : t ≠ d) : look (a.put (some d) u) t = look a t := by
  unfold look
  split
  · simp only [Act.put]
    rw [Array.getElem?_setIfInBounds_ne (by omega)]
  · rfl

theorem wanted_of {nt : Nat} {ops : Array Oper} {o' : Oper} {o : IOper} (hc : Comp nt ops o' o) {w : World} {ok : Nat → Prop} {ρ : Rho} {a : Act} {e : Env} (he : EnvRep w ok ρ a e) {x : Bool} (hg : guardV e o.guard = some x) :
    Region.wanted o' (yielded ops a.tmps) = x := by
  rcases hc.guard with ⟨h1, h2⟩ | ⟨j, want, g, h1, h2, h3, h4⟩
  · rw [h2] at hg
    simp only [guardV, Option.some.injEq] at hg
    simp [Region.wanted, h1, hg]
  · rw [h2] at hg
    simp only [guardV] at hg
    split at hg
    · rename_i y hy
      obtain ⟨u, hu, hr⟩ := he g _ hy
      cases hr.inv_b
      have hlt : g < 1000000 := by omega
      simp only [look, hlt, if_true] at hu
      simp only [Region.wanted, h1, yielded, h3, Option.bind_some, hu]
      simpa using hg
    · rename_i hy
      obtain ⟨u, hu, hr⟩ := he g _ hy
      cases hr with
      | tup hl =>
        cases hl
        have hlt : g < 1000000 := by omega
        simp only [look, hlt, if_true] at hu
        simp only [Region.wanted, h1, yielded, h3, Option.bind_some, hu]
        simp only [Option.some.injEq] at hg
        subst hg
        rfl
    · cases hg

/-- A step of a trace, whatever follows. -/
theorem step_sound {P : Program} {Fr : Nat → Prop} {ρ0 : Rho} {w0 : World} {nt : Nat} {ops : Array Oper} {o' : Oper} {o : IOper} {t : TE} {S : St} {a : Act} {w : World} (hc : Comp nt ops o' o) (hval : Valid1 P o' o t S) (hrel : Rel Fr ρ0 w0 nt S a w)
    {K : Act → World → Prop} {Q : Exit → Act → World → Prop} (hK : ∀ a' w', Rel Fr ρ0 w0 nt (stepSt o t S) a' w' → K a' w') :
    if Region.wanted o' (yielded ops a.tmps) then o'.wp P a w K Q ∨ (o'.asks P a w ∧ LetsOut Q) else K (a.put o'.dst undef) w := by
  obtain ⟨ρ, h1, h2, h3, h4⟩ := hrel.ex
  have envStep : ∀ (w' : World) (ρ' : Rho) (u : Value), Evo w ρ w' ρ' → (∀ r s L, ρ' r s = some L → ρ r s = some L ∨ r ∈ t.N) → (∀ k ∈ t.N, FreshIn k S) → VRep w' (okOf w' Fr ρ') ρ' t.v u → EnvRep w' (okOf w' Fr ρ') ρ' (a.put o'.dst u) (putE o.dst t.v S.env) := by
    intro w' ρ' u hevo hgrow hfr hu s v hs
    have keep : ∀ v', Env.get S.env s = some v' → ∃ x, look a s = some x ∧ VRep w' (okOf w' Fr ρ') ρ' v' x := by
      intro v' hv'
      obtain ⟨x, hx, hr⟩ := h1 s v' hv'
      refine ⟨x, hx, hr.mono (fun b hb => hevo.ok Fr b hb) (fun r s' L hm hL => ?_)⟩
      rcases hgrow r s' L hL with h | h
      · exact h
      · have hmem : (s, v') ∈ S.env := by
          rw [Env.get_eq] at hv'
          have aux : ∀ (e : Env), aget e s = some v' → (s, v') ∈ e := by
            intro e
            induction e with
            | nil => intro h; simp [aget] at h
            | cons p e ih =>
              intro h
              obtain ⟨k', y⟩ := p
              simp only [aget] at h
              split at h
              · rename_i e1; cases h; subst e1; simp
              · exact List.mem_cons_of_mem _ (ih h)
          exact aux _ hv'
        have := (hfr r h).env _ hmem
        rw [this] at hm; cases hm
    rw [hc.dst]
    cases hd : o.dst with
    | none =>
      rw [hd] at hs
      simp only [putE] at hs
      obtain ⟨x, hx, hr⟩ := keep v hs
      exact ⟨x, by simpa [Act.put] using hx, hr⟩
    | some d =>
      obtain ⟨q1, q2⟩ := hc.lt d hd
      rw [hd] at hs
      simp only [putE, Env.get] at hs
      split at hs
      · rename_i hb
        have : s = d := Nat.eq_of_beq_eq_true hb
        subst this
        cases hs
        exact ⟨u, look_put_same q1 (by rw [hrel.size]; exact q2), hu⟩
      · rename_i hb
        have hne : s ≠ d := Nat.ne_of_beq_eq_false hb
        obtain ⟨x, hx, hr⟩ := keep v hs
        exact ⟨x, by rw [look_put_other hne]; exact hx, hr⟩
  have szput : ∀ (dst : Option Tmp) (u : Value), (a.put dst u).tmps.size = nt := by
    intro dst u; cases dst <;> simp [Act.put, hrel.size]
  have dfput : ∀ (dst : Option Tmp) (u : Value), (a.put dst u).defers = [] := by
    intro dst u; cases dst <;> simp [Act.put, hrel.defers]
  cases hval with
  | yes ht hg hv hl hf =>
    rw [wanted_of hc h1 hg, if_pos rfl]
    refine .inl (hl Fr ρ w S.sg a S.env h1 hv h2 (fun _ _ => rfl) (fun k hk => ⟨fun s => ?_, fun r b hb => ?_⟩) K Q (fun u w' ρ' e1 e2 e3 e4 => hK _ _ ⟨⟨ρ', envStep w' ρ' u e1 e4 hf e2, e3, h3.trans e1, fun r s L hL => ?_⟩, dfput _ _, szput _ _⟩))
    · cases hh : ρ k s with
      | none => rfl
      | some L =>
        obtain ⟨b, hb⟩ := h2.dom k s L hh
        rw [(hf k hk).dom] at hb; cases hb
    · have : ∀ (sg : Sg), Sg.get sg r = some b → ∃ e ∈ sg, e.2 = some b := by
        intro sg
        induction sg with
        | nil => intro h; simp [Sg.get] at h
        | cons p sg ih =>
          intro h
          obtain ⟨k', y⟩ := p
          rw [Sg.get_cons] at h
          split at h
          · exact ⟨(k', y), by simp, h⟩
          · obtain ⟨e, he, h⟩ := ih h
            exact ⟨e, List.mem_cons_of_mem _ he, h⟩
      obtain ⟨e, he, h⟩ := this _ hb
      exact (hf k hk).sg e he b h
    · rcases e4 r s L hL with h | h
      · exact h4 r s L h
      · exact .inr (hf r h).lt
  | no ht hg hv hR hN hΔ =>
    rw [wanted_of hc h1 hg]
    simp only [Bool.false_eq_true, if_false]
    refine hK _ _ ⟨⟨ρ, ?_, ?_, h3, h4⟩, dfput _ _, szput _ _⟩
    · exact envStep w ρ undef (Evo.refl _ _) (fun _ _ _ h => .inl h) (by rw [hN]; simp) (by rw [hv]; exact .tup .nil)
    · simp only [stepSt, hΔ, List.nil_append]; exact h2

end Go.DW

/- A region's trace in the text's order serves every order. -/
namespace Go.DW

def ids (Δ : Sg) : List Nat := Δ.map (·.1)

def xslots : List X → List Nat
  | [] => []
  | .t n :: l => n :: xslots l
  | .c _ :: l => xslots l

def IOper.slots (o : IOper) : List Nat := o.dst.toList ++ xslots o.args ++ (o.guard.map (·.1)).toList

def TE.noMen (t : TE) (k : Nat) : Bool := !t.v.men k && t.Δ.all fun e => match e.2 with
  | some b => !b.men k
  | none => true

def disj (a b : List Nat) : Bool := a.all fun k => !b.contains k

/-- Two operations of a region may come in either order. -/
def pairOk (oi : IOper) (ti : TE) (oj : IOper) (tj : TE) : Bool :=
  disj oi.dst.toList oj.slots && disj oj.dst.toList oi.slots && disj (ids ti.Δ) (tj.R ++ ids tj.Δ ++ tj.N) && disj (ids tj.Δ) (ti.R ++ ids ti.Δ ++ ti.N) &&
    ti.N.all (fun k => tj.noMen k) && tj.N.all (fun k => ti.noMen k)

def confOk (unord : List (Nat × Nat)) (l : List IOper) (ts : List TE) : Bool :=
  unord.all fun p => match l[p.1]?, ts[p.1]?, l[p.2]?, ts[p.2]? with
    | some oi, some ti, some oj, some tj => pairOk oi ti oj tj
    | _, _, _, _ => false

inductive TraceV (P : Program) : List Oper → List IOper → List TE → St → St → Prop where
  | nil (S : St) : TraceV P [] [] [] S S
  | cons {o' : Oper} {o : IOper} {t : TE} {os : List Oper} {l : List IOper} {ts : List TE} {S S' : St} (h : Valid1 P o' o t S) (hs : TraceV P os l ts (stepSt o t S) S') : TraceV P (o' :: os) (o :: l) (t :: ts) S S'

inductive Comps (nt : Nat) (ops : Array Oper) : List Oper → List IOper → Prop where
  | nil : Comps nt ops [] []
  | cons {o' : Oper} {o : IOper} {os : List Oper} {l : List IOper} (h : Comp nt ops o' o) (hs : Comps nt ops os l) : Comps nt ops (o' :: os) (o :: l)

section
variable {P : Program} {Fr : Nat → Prop} {ρ0 : Rho} {w0 : World} {nt : Nat} {ops : Array Oper} {Q : Exit → Act → World → Prop}

/-- The text's order. -/
theorem seq_sound : ∀ {os : List Oper} {l : List IOper} {ts : List TE} {S S' : St} (n : Nat) {a : Act} {w : World}, TraceV P os l ts S S' → Comps nt ops os l → (∀ j, os[j]? = ops[n + j]?) → Rel Fr ρ0 w0 nt S a w →
    (∀ a w, Rel Fr ρ0 w0 nt S' a w → Q .normal a w) → wpOps P ops Q (List.range' n os.length) a w
  | _, _, _, _, _, n, a, w, .nil S, _, _, hrel, hQ => by simpa [wpOps] using hQ a w hrel
  | _, _, _, _, _, n, a, w, .cons h hs, .cons hc hcs, ho, hrel, hQ => by
    rename_i o' o t os l ts
    simp only [List.length_cons, List.range'_succ]
    rw [wpOps_cons]
    have h0 : ops[n]? = some o' := by simpa using (ho 0).symm
    simp only [wpOp, h0]
    exact step_sound hc h hrel (fun a' w' hr => seq_sound (n + 1) hs hcs (fun j => by have := ho (j + 1); rw [show n + 1 + j = n + (j + 1) by omega]; simpa using this) hr hQ)

/-! ### Any order -/
def ewr (l : List IOper) (ts : List TE) : List (List (Nat × V)) := l.zipWith (fun o t => match o.dst with | some d => [(d, t.v)] | none => []) ts
def gwr (ts : List TE) : List Sg := ts.map (·.Δ)

def StD (l : List IOper) (ts : List TE) (D : Nat → Bool) (S : St) : St := ⟨foldW D (ewr l ts) 0 S.env, foldW D (gwr ts) 0 S.sg⟩

theorem putE_eq (dst : Option Nat) (v : V) (e : Env) : putE dst v e = (match dst with | some d => [(d, v)] | none => []) ++ e := by cases dst <;> rfl

theorem TraceV.len : ∀ {os : List Oper} {l : List IOper} {ts : List TE} {S S' : St}, TraceV P os l ts S S' → l.length = os.length ∧ ts.length = os.length
  | _, _, _, _, _, .nil _ => ⟨rfl, rfl⟩
  | _, _, _, _, _, .cons _ hs => by have := hs.len; simp [this.1, this.2]

/-- The lexical states of a trace. -/
theorem TraceV.at : ∀ {os : List Oper} {l : List IOper} {ts : List TE} {S S' : St}, TraceV P os l ts S S' → ∀ {i : Nat} {o' : Oper} {o : IOper} {t : TE}, os[i]? = some o' → l[i]? = some o → ts[i]? = some t →
    Valid1 P o' o t ⟨foldW (fun _ => true) ((ewr l ts).take i) 0 S.env, foldW (fun _ => true) ((gwr ts).take i) 0 S.sg⟩
  | _, _, _, _, _, .nil _, i, _, _, _, h, _, _ => by simp at h
  | _, _, _, _, _, .cons h hs, 0, o', o, t, h1, h2, h3 => by
    simp at h1 h2 h3
    subst h1 h2 h3
    simpa [foldW] using h
  | _, _, _, _, _, .cons h hs, i + 1, o', o, t, h1, h2, h3 => by
    simp at h1 h2 h3
    have := hs.at h1 h2 h3
    have shift : ∀ {α : Type} (ws : List (List (Nat × α))) (n m : Nat) (a : List (Nat × α)), foldW (fun _ => true) ws n a = foldW (fun _ => true) ws m a := by
      intro α ws
      induction ws with
      | nil => intros; rfl
      | cons w ws ih => intro n m a; simp only [foldW]; exact ih _ _ _
    simp only [ewr, gwr, List.zipWith_cons_cons, List.map_cons, List.take_succ_cons, foldW, if_true]
    rw [shift _ (0 + 1) 0, shift _ (0 + 1) 0]
    simpa [stepSt, putE_eq, ewr, gwr] using this

theorem TraceV.final : ∀ {os : List Oper} {l : List IOper} {ts : List TE} {S S' : St}, TraceV P os l ts S S' → S' = StD l ts (fun _ => true) S
  | _, _, _, S, _, .nil _ => rfl
  | _, _, _, S, S', .cons h hs => by
    have := hs.final
    have shift : ∀ {α : Type} (ws : List (List (Nat × α))) (n m : Nat) (a : List (Nat × α)), foldW (fun _ => true) ws n a = foldW (fun _ => true) ws m a := by
      intro α ws
      induction ws with
      | nil => intros; rfl
      | cons w ws ih => intro n m a; simp only [foldW]; exact ih _ _ _
    rw [this]
    simp only [StD, stepSt, ewr, gwr, List.zipWith_cons_cons, List.map_cons, foldW, if_true, putE_eq]
    rw [shift _ (0 + 1) 0, shift _ (0 + 1) 0]

def downClosed (ops : Array Oper) (D : Nat → Bool) : Prop := ∀ j o, ops[j]? = some o → D j = true → ∀ e ∈ o.after, Region.binds .any e = true → D e.on = true

theorem before_sub (ops : Array Oper) (D : Nat → Bool) (hD : downClosed ops D) : ∀ j o, ops[j]? = some o → (∀ e ∈ o.after, Region.binds .any e = true → D e.on = true) → ∀ i, ((Region.before ops).getD j 0).testBit i = true → D i = true := by
  have inv : ∀ (l : List Oper) (acc : Array Nat), (∀ j, j < acc.size → ∀ o, ops[j]? = some o → (∀ e ∈ o.after, Region.binds .any e = true → D e.on = true) → ∀ i, (acc.getD j 0).testBit i = true → D i = true) →
      (∀ k, l[k]? = ops[acc.size + k]?) →
      (∀ j o, ops[j]? = some o → (∀ e ∈ o.after, Region.binds .any e = true → D e.on = true) → ∀ i, ((l.foldl (fun acc o => acc.push (o.after.foldl (fun s e => if Region.binds .any e then s ||| 2 ^ e.on ||| acc.getD e.on 0 else s) 0)) acc).getD j 0).testBit i = true → D i = true) := by
    intro l
    induction l with
    | nil =>
      intro acc hacc hl j o ho hafter i hb
      simp only [List.foldl_nil] at hb
      rcases Nat.lt_or_ge j acc.size with hj | hj
      · exact hacc j hj o ho hafter i hb
      · rw [Array.getD_eq_getD_getElem?, Array.getElem?_eq_none hj] at hb
        simp at hb
    | cons x l ih =>
      intro acc hacc hl
      simp only [List.foldl_cons]
      refine ih _ (fun j hj o ho hafter i hb => ?_) (fun k => ?_)
      · rw [Array.size_push] at hj
        rcases Nat.lt_or_ge j acc.size with hlt | hge
        · rw [Array.getD_eq_getD_getElem?, Array.getElem?_push_lt hlt, ← Array.getElem?_eq_getElem hlt, ← Array.getD_eq_getD_getElem?] at hb
          exact hacc j hlt o ho hafter i hb
        · have hj' : j = acc.size := by omega
          subst hj'
          rw [Array.getD_eq_getD_getElem?, Array.getElem?_push_size] at hb
          simp only [Option.getD_some] at hb
          have hx : x = o := by
            have := hl 0
            simp at this
            rw [ho] at this; exact (Option.some.inj this.symm).symm
          subst hx
          rw [← Array.foldl_toList] at hb
          have hafter' : ∀ e ∈ x.after.toList, Region.binds .any e = true → D e.on = true := fun e he => hafter e (by simpa using he)
          have hsz : acc.size < ops.size := (Array.getElem?_eq_some_iff.1 ho).1
          clear hafter ih hl ho hj
          have key : ∀ (es : List Edge) (s : Nat), (∀ e ∈ es, Region.binds .any e = true → D e.on = true) → (s.testBit i = true → D i = true) →
              (es.foldl (fun s e => if Region.binds .any e then s ||| 2 ^ e.on ||| acc.getD e.on 0 else s) s).testBit i = true → D i = true := by
            intro es
            induction es with
            | nil => intro s _ hs h; exact hs h
            | cons e es ih2 =>
              intro s hes hs h
              simp only [List.foldl_cons] at h
              refine ih2 _ (fun e' he' => hes e' (by simp [he'])) (fun hb2 => ?_) h
              split at hb2
              · rename_i hbind
                have hDe := hes e (by simp) hbind
                simp only [Nat.testBit_or, Bool.or_eq_true] at hb2
                rcases hb2 with (h1 | h1) | h1
                · exact hs h1
                · rw [Nat.testBit_two_pow] at h1
                  have : e.on = i := by simpa using h1
                  rw [← this]; exact hDe
                · rcases Nat.lt_or_ge e.on acc.size with hlt2 | hge2
                  · have ho2 : ops[e.on]? = some ops[e.on] := Array.getElem?_eq_getElem (by omega)
                    exact hacc e.on hlt2 _ ho2 (hD e.on _ ho2 hDe) i h1
                  · rw [Array.getD_eq_getD_getElem?, Array.getElem?_eq_none hge2] at h1
                    simp at h1
              · exact hs hb2
          exact key x.after.toList 0 hafter' (by simp) hb
      · have := hl (k + 1)
        simp only [List.getElem?_cons_succ] at this
        rw [this, Array.size_push]
        congr 1; omega
  intro j o ho hafter i hb
  refine inv ops.toList #[] (by simp) (by simp) j o ho hafter i ?_
  rw [Region.before, ← Array.foldl_toList] at hb
  exact hb

theorem evs_congr {e e' : Env} : ∀ {l : List X}, (∀ t ∈ xslots l, Env.get e' t = Env.get e t) → evs e' l = evs e l
  | [], _ => rfl
  | .t n :: l, h => by
    have h1 := h n (by simp [xslots])
    have h2 := evs_congr (e := e) (e' := e') (l := l) (fun t ht => h t (by simp [xslots, ht]))
    simp only [evs, X.ev, h1, h2]
  | .c v :: l, h => by
    have h2 := evs_congr (e := e) (e' := e') (l := l) (fun t ht => h t (by simpa [xslots] using ht))
    simp only [evs, X.ev, h2]

theorem guardV_congr {e e' : Env} {g : Option (Nat × Bool)} (h : ∀ t ∈ (g.map (·.1)).toList, Env.get e' t = Env.get e t) : guardV e' g = guardV e g := by
  cases g with
  | none => rfl
  | some p =>
    obtain ⟨t, want⟩ := p
    have := h t (by simp)
    simp only [guardV, this]

theorem disj_spec {a b : List Nat} (h : disj a b = true) {k : Nat} (ha : k ∈ a) (hb : k ∈ b) : False := by
  have := List.all_eq_true.1 h k ha
  simp [hb] at this

theorem aget_ids {Δ : Sg} {k : Nat} (h : aget Δ k ≠ none) : k ∈ ids Δ := by
  induction Δ with
  | nil => simp [aget] at h
  | cons p Δ ih =>
    obtain ⟨k', b⟩ := p
    simp only [aget] at h
    split at h
    · rename_i e; simp [ids, e]
    · have := ih h; simp only [ids, List.map_cons, List.mem_cons] at this ⊢; exact .inr this

/-- What is known of two operations of a region, one of which may come before the other. -/
theorem any_sound (hm : P.follows .mixedOrders = true) {l : List IOper} {ts : List TE} {S S' : St} (htr : TraceV P ops.toList l ts S S') (hcs : Comps nt ops ops.toList l) (hconf : confOk (unordOf ops) l ts = true)
    (hacy : ∀ j o, ops[j]? = some o → ∀ e ∈ o.after, Region.binds .any e = true → e.on < j)
    (hQ : ∀ a w, Rel Fr ρ0 w0 nt S' a w → Q .normal a w) {id : Nat} {a : Act} {w : World} (hrel : Rel Fr ρ0 w0 nt S a w) : (Code.region id ops true).wp P Q a w := by
  obtain ⟨hl1, hl2⟩ := htr.len
  have hget : ∀ i, i < ops.size → ∃ o' o t, ops.toList[i]? = some o' ∧ l[i]? = some o ∧ ts[i]? = some t := fun i hi =>
    ⟨_, _, _, List.getElem?_eq_getElem (by simpa using hi), List.getElem?_eq_getElem (by rw [hl1]; simpa using hi), List.getElem?_eq_getElem (by rw [hl2]; simpa using hi)⟩
  have hcomp : ∀ {i : Nat} {o' : Oper} {o : IOper}, ops.toList[i]? = some o' → l[i]? = some o → Comp nt ops o' o := by
    have aux : ∀ {os : List Oper} {l : List IOper}, Comps nt ops os l → ∀ {i : Nat} {o' : Oper} {o : IOper}, os[i]? = some o' → l[i]? = some o → Comp nt ops o' o := by
      intro os l h
      induction h with
      | nil => intro i o' o h; simp at h
      | cons h hs ih =>
        intro i o' o h1 h2
        cases i with
        | zero => simp at h1 h2; subst h1 h2; exact h
        | succ i => exact ih (by simpa using h1) (by simpa using h2)
    intro i o' o h1 h2
    exact aux hcs h1 h2
  have hpair : ∀ {i j : Nat} {oi oj : IOper} {ti tj : TE}, i < j → j < ops.size → l[i]? = some oi → ts[i]? = some ti → l[j]? = some oj → ts[j]? = some tj → ((Region.before ops).getD j 0).testBit i = true ∨ pairOk oi ti oj tj = true := by
    intro i j oi oj ti tj hij hj h1 h2 h3 h4
    cases hb : ((Region.before ops).getD j 0).testBit i with
    | true => exact .inl rfl
    | false =>
      right
      have hmem : (i, j) ∈ unordOf ops := by
        simp only [unordOf, List.mem_flatMap, List.mem_range, List.mem_filterMap]
        exact ⟨j, hj, i, hij, by simp only [hb, Bool.false_eq_true, if_false]⟩
      have := List.all_eq_true.1 hconf _ hmem
      simpa [h1, h2, h3, h4] using this
  -- what is ordered, as the set of what is done goes
  have hord : ∀ {D : Nat → Bool}, downClosed ops D → ∀ {i j : Nat} {oi oj : IOper} {ti tj : TE} {oi' : Oper}, ops[i]? = some oi' → (∀ e ∈ oi'.after, Region.binds .any e = true → D e.on = true) → D i = false → l[i]? = some oi → ts[i]? = some ti → l[j]? = some oj → ts[j]? = some tj → j ≠ i → j < ops.size →
      (pairOk oi ti oj tj = true ∨ pairOk oj tj oi ti = true) ∨ (j < i ∧ D j = true) ∨ (i < j ∧ D j = false) := by
    intro D hD i j oi oj ti tj oi' ho hready hDi h1 h2 h3 h4 hne hj
    have hi := (Array.getElem?_eq_some_iff.1 ho).1
    rcases Nat.lt_or_ge j i with hlt | hge
    · rcases hpair hlt hi h3 h4 h1 h2 with hb | hp
      · exact .inr (.inl ⟨hlt, before_sub ops D hD i oi' ho hready j hb⟩)
      · exact .inl (.inr hp)
    · have hlt : i < j := by omega
      rcases hpair hlt hj h1 h2 h3 h4 with hb | hp
      · refine .inr (.inr ⟨hlt, ?_⟩)
        cases hDj : D j with
        | false => rfl
        | true =>
          have hoj : ops[j]? = some ops[j] := Array.getElem?_eq_getElem hj
          have := before_sub ops D hD j _ hoj (hD j _ hoj hDj) i hb
          rw [this] at hDi; cases hDi
      · exact .inl (.inl hp)
  have hewlen : (ewr l ts).length = ops.size := by simp [ewr, hl1, hl2]
  have hgwlen : (gwr ts).length = ops.size := by simp [gwr, hl2]
  have hew : ∀ {j : Nat} {w' : List (Nat × V)}, (ewr l ts)[j]? = some w' → ∃ oj tj, l[j]? = some oj ∧ ts[j]? = some tj ∧ w' = (match oj.dst with | some d => [(d, tj.v)] | none => []) ∧ j < ops.size := by
    intro j w' h
    simp only [ewr, List.getElem?_zipWith] at h
    split at h
    · rename_i oj tj e1 e2
      simp at h
      exact ⟨oj, tj, e1, e2, h.symm, by have := (List.getElem?_eq_some_iff.1 e1).1; rw [hl1] at this; simpa using this⟩
    · simp at h
  have hgw : ∀ {j : Nat} {w' : Sg}, (gwr ts)[j]? = some w' → ∃ oj tj, l[j]? = some oj ∧ ts[j]? = some tj ∧ w' = tj.Δ ∧ j < ops.size := by
    intro j w' h
    simp only [gwr, List.getElem?_map, Option.map_eq_some_iff] at h
    obtain ⟨tj, e2, rfl⟩ := h
    have hj : j < ops.size := by have := (List.getElem?_eq_some_iff.1 e2).1; rw [hl2] at this; simpa using this
    exact ⟨_, tj, List.getElem?_eq_getElem (by rw [hl1]; simpa using hj), e2, rfl, hj⟩
  have hadst : ∀ {oj : IOper} {tj : TE} {k : Nat}, aget (match oj.dst with | some d => [(d, tj.v)] | none => []) k ≠ none → oj.dst = some k := by
    intro oj tj k h
    cases hd : oj.dst with
    | none => rw [hd] at h; simp [aget] at h
    | some d =>
      rw [hd] at h
      simp only [aget] at h
      split at h
      · rename_i e; rw [e]
      · simp at h
  have main : ∀ (fuel : Nat) (listed : Array Bool) (a : Act) (w : World), listed.size = ops.size → downClosed ops (fun j => listed.getD j false) → ((List.range ops.size).filter fun j => !listed.getD j false).length ≤ fuel →
      Rel Fr ρ0 w0 nt (StD l ts (fun j => listed.getD j false) S) a w → wpAny P .any ops Q fuel listed a w := by
    intro fuel
    induction fuel with
    | zero =>
      intro listed a w hsz hD hcnt hr
      have hall : ∀ j, j < ops.size → listed.getD j false = true := by
        intro j hj
        cases hb : listed.getD j false with
        | true => rfl
        | false =>
          have : j ∈ (List.range ops.size).filter fun j => !listed.getD j false := by
            rw [List.mem_filter]; exact ⟨List.mem_range.2 hj, by rw [hb]; rfl⟩
          have := List.length_pos_of_mem this
          omega
      refine ⟨?_, ?_⟩
      · apply List.eq_nil_iff_forall_not_mem.2
        intro j hj
        obtain ⟨h1, o, ho, _⟩ := mem_ready.1 hj
        have hj' := (Array.getElem?_eq_some_iff.1 ho).1
        have := hall j hj'
        have hlt : j < listed.size := by omega
        simp [Array.getD, hlt] at this h1
        rw [this] at h1; cases h1
      · refine hQ a w (hr.of_get ?_ ?_)
        · intro t v hv
          rw [htr.final] at hv
          rw [Env.get_eq] at hv ⊢
          rw [← hv]
          exact foldW_agree _ _ _ _ rfl (fun j w' hj hn => by
            obtain ⟨_, _, _, _, _, hj'⟩ := hew hj
            simpa using hall j hj')
        · intro r
          rw [htr.final, Sg.get_eq, Sg.get_eq]
          congr 1
          exact foldW_agree _ _ _ _ rfl (fun j w' hj hn => by
            obtain ⟨_, _, _, _, _, hj'⟩ := hgw hj
            simpa using (hall j hj').symm)
    | succ fuel ih =>
      intro listed a w hsz hD hcnt hr
      refine ⟨fun hnil => ?_, fun i hi => ?_⟩
      · -- nothing is ready: all is done
        have hall : ∀ j, j < ops.size → listed.getD j false = true := by
          intro j
          induction j using Nat.strongRecOn with
          | _ j ihj =>
            intro hj
            cases hb : listed.getD j false with
            | true => rfl
            | false =>
              have hoj : ops[j]? = some ops[j] := Array.getElem?_eq_getElem hj
              have : j ∈ Region.ready .any ops listed := by
                rw [mem_ready]
                refine ⟨?_, _, hoj, fun e he hbind => ihj e.on (hacy j _ hoj e he hbind) (by have := hacy j _ hoj e he hbind; omega)⟩
                have hlt : j < listed.size := by omega
                simpa [Array.getD, hlt] using hb
              rw [hnil] at this; simp at this
        refine hQ a w (hr.of_get ?_ ?_)
        · intro t v hv
          rw [htr.final] at hv
          rw [Env.get_eq] at hv ⊢
          rw [← hv]
          exact foldW_agree _ _ _ _ rfl (fun j w' hj hn => by
            obtain ⟨_, _, _, _, _, hj'⟩ := hew hj
            simpa using hall j hj')
        · intro r
          rw [htr.final, Sg.get_eq, Sg.get_eq]
          congr 1
          exact foldW_agree _ _ _ _ rfl (fun j w' hj hn => by
            obtain ⟨_, _, _, _, _, hj'⟩ := hgw hj
            simpa using (hall j hj').symm)
      · obtain ⟨hun, oi', ho, hready⟩ := mem_ready.1 hi
        have hilt := (Array.getElem?_eq_some_iff.1 ho).1
        have hlt : i < listed.size := by omega
        have hDi : listed.getD i false = false := by simpa [Array.getD, hlt] using hun
        obtain ⟨o'', oi, ti, g1, g2, g3⟩ := hget i hilt
        have ho' : ops.toList[i]? = some oi' := by simpa using ho
        rw [ho'] at g1; cases g1
        have hord' := fun {j : Nat} {oj : IOper} {tj : TE} (h3 : l[j]? = some oj) (h4 : ts[j]? = some tj) (hne : j ≠ i) (hj : j < ops.size) => hord (D := fun j => listed.getD j false) hD ho hready hDi g2 g3 h3 h4 hne hj
        -- a slot that the operation names
        have hslot : ∀ k, k ∈ oi.slots → aget (foldW (fun j => listed.getD j false) (ewr l ts) 0 S.env) k = aget (foldW (fun _ => true) ((ewr l ts).take i) 0 S.env) k := by
          intro k hk
          refine foldW_sees (by rw [hewlen]; omega) (fun j w' hj hn hlt => ?_) (fun j w' hj hn hge => ?_)
          · obtain ⟨oj, tj, h3, h4, rfl, hj'⟩ := hew hj
            have hd := hadst hn
            rcases hord' h3 h4 (by omega) hj' with (hp | hp) | h | h
            · simp only [pairOk, Bool.and_eq_true] at hp
              exact (disj_spec hp.1.1.1.1.2 (by simp [hd]) hk).elim
            · simp only [pairOk, Bool.and_eq_true] at hp
              exact (disj_spec hp.1.1.1.1.1 (by simp [hd]) hk).elim
            · exact h.2
            · omega
          · obtain ⟨oj, tj, h3, h4, rfl, hj'⟩ := hew hj
            have hd := hadst hn
            rcases Nat.decEq j i with hne | rfl
            · rcases hord' h3 h4 hne hj' with (hp | hp) | h | h
              · simp only [pairOk, Bool.and_eq_true] at hp
                exact (disj_spec hp.1.1.1.1.2 (by simp [hd]) hk).elim
              · simp only [pairOk, Bool.and_eq_true] at hp
                exact (disj_spec hp.1.1.1.1.1 (by simp [hd]) hk).elim
              · omega
              · exact h.2
            · exact hDi
        -- owned memory that it reads or makes
        have hmem : ∀ k, k ∈ ti.R ++ ids ti.Δ ++ ti.N → aget (foldW (fun j => listed.getD j false) (gwr ts) 0 S.sg) k = aget (foldW (fun _ => true) ((gwr ts).take i) 0 S.sg) k := by
          intro k hk
          refine foldW_sees (by rw [hgwlen]; omega) (fun j w' hj hn hlt => ?_) (fun j w' hj hn hge => ?_)
          · obtain ⟨oj, tj, h3, h4, rfl, hj'⟩ := hgw hj
            have hd := aget_ids hn
            rcases hord' h3 h4 (by omega) hj' with (hp | hp) | h | h
            · simp only [pairOk, Bool.and_eq_true] at hp
              exact (disj_spec hp.1.1.2 hd hk).elim
            · simp only [pairOk, Bool.and_eq_true] at hp
              exact (disj_spec hp.1.1.1.2 hd hk).elim
            · exact h.2
            · omega
          · obtain ⟨oj, tj, h3, h4, rfl, hj'⟩ := hgw hj
            have hd := aget_ids hn
            rcases Nat.decEq j i with hne | rfl
            · rcases hord' h3 h4 hne hj' with (hp | hp) | h | h
              · simp only [pairOk, Bool.and_eq_true] at hp
                exact (disj_spec hp.1.1.2 hd hk).elim
              · simp only [pairOk, Bool.and_eq_true] at hp
                exact (disj_spec hp.1.1.1.2 hd hk).elim
              · omega
              · exact h.2
            · exact hDi
        have hmenj : ∀ {j : Nat} {oj : IOper} {tj : TE}, l[j]? = some oj → ts[j]? = some tj → j < ops.size → listed.getD j false = true → i ≤ j → ∀ k ∈ ti.N, tj.noMen k = true := by
          intro j oj tj h3 h4 hj' hDj hge k hk
          have hne : j ≠ i := by rintro rfl; rw [hDj] at hDi; cases hDi
          rcases hord' h3 h4 hne hj' with (hp | hp) | h | h
          · simp only [pairOk, Bool.and_eq_true] at hp
            exact List.all_eq_true.1 hp.1.2 k hk
          · simp only [pairOk, Bool.and_eq_true] at hp
            exact List.all_eq_true.1 hp.2 k hk
          · omega
          · rw [h.2] at hDj; cases hDj
        have hval0 := htr.at ho' g2 g3
        have hval : Valid1 P oi' oi ti (StD l ts (fun j => listed.getD j false) S) := by
          have hgeq : guardV (StD l ts (fun j => listed.getD j false) S).env oi.guard = guardV (foldW (fun _ => true) ((ewr l ts).take i) 0 S.env) oi.guard :=
            guardV_congr (fun t ht => by rw [Env.get_eq, Env.get_eq]; exact hslot t (by simp only [IOper.slots, List.mem_append]; exact .inr ht))
          cases hval0 with
          | yes hy hg hv hl hf =>
            refine .yes hy (hgeq.trans hg) ?_ ?_ (fun k hk => ?_)
            · rw [← hv]
              exact evs_congr (fun t ht => by rw [Env.get_eq, Env.get_eq]; exact hslot t (by simp only [IOper.slots, List.mem_append]; exact .inl (.inr ht)))
            · intro Fr ρ w sg a env h1 h2 h3 h4 h5
              refine hl Fr ρ w sg a env h1 h2 h3 (fun r hr => ?_) h5
              rw [h4 r hr, Sg.get_eq, Sg.get_eq]
              exact congrArg Option.join (hmem r (by simp [hr]))
            · have hfk := hf k hk
              refine ⟨hfk.lt, ?_, fun e he => ?_, fun e he b hb => ?_⟩
              · rw [← hfk.dom, Sg.get_eq, Sg.get_eq]
                exact congrArg Option.join (hmem k (by simp [hk]))
              · rcases mem_foldW _ _ _ he with h | ⟨j, w', hj, hDj, hx⟩
                · refine hfk.env e ?_
                  have : ∀ (ws : List (List (Nat × V))) (n : Nat) (acc : Env), e ∈ acc → e ∈ foldW (fun _ => true) ws n acc := by
                    intro ws
                    induction ws with
                    | nil => intro _ _ h; exact h
                    | cons w ws ih => intro n acc h; simp only [foldW]; exact ih _ _ (by simp [h])
                  exact this _ _ _ h
                · simp only [Nat.zero_add] at hDj
                  rcases Nat.lt_or_ge j i with hlt' | hge'
                  · refine hfk.env e ?_
                    have : ∀ (ws : List (List (Nat × V))) (n : Nat) (acc : Env) (j : Nat), ws[j]? = some w' → e ∈ foldW (fun _ => true) ws n acc := by
                      intro ws
                      induction ws with
                      | nil => intro _ _ j h; simp at h
                      | cons w ws ih =>
                        intro n acc j h
                        simp only [foldW, if_true]
                        cases j with
                        | zero =>
                          simp at h; subst h
                          have keep : ∀ (ws : List (List (Nat × V))) (n : Nat) (acc : Env), e ∈ acc → e ∈ foldW (fun _ => true) ws n acc := by
                            intro ws
                            induction ws with
                            | nil => intro _ _ h; exact h
                            | cons w ws ih => intro n acc h; simp only [foldW]; exact ih _ _ (by simp [h])
                          exact keep _ _ _ (by simp [hx])
                        | succ j => exact ih _ _ j (by simpa using h)
                    exact this _ _ _ j (by rw [List.getElem?_take, if_pos hlt']; exact hj)
                  · obtain ⟨oj, tj, h3, h4, rfl, hj'⟩ := hew hj
                    have := hmenj h3 h4 hj' hDj hge' k hk
                    simp only [TE.noMen, Bool.and_eq_true, Bool.not_eq_true'] at this
                    cases hd : oj.dst with
                    | none => rw [hd] at hx; simp at hx
                    | some d => rw [hd] at hx; simp at hx; rw [hx]; exact this.1
              · rcases mem_foldW _ _ _ he with h | ⟨j, w', hj, hDj, hx⟩
                · refine hfk.sg e ?_ b hb
                  have : ∀ (ws : List Sg) (n : Nat) (acc : Sg), e ∈ acc → e ∈ foldW (fun _ => true) ws n acc := by
                    intro ws
                    induction ws with
                    | nil => intro _ _ h; exact h
                    | cons w ws ih => intro n acc h; simp only [foldW]; exact ih _ _ (by simp [h])
                  exact this _ _ _ h
                · simp only [Nat.zero_add] at hDj
                  rcases Nat.lt_or_ge j i with hlt' | hge'
                  · refine hfk.sg e ?_ b hb
                    have : ∀ (ws : List Sg) (n : Nat) (acc : Sg) (j : Nat), ws[j]? = some w' → e ∈ foldW (fun _ => true) ws n acc := by
                      intro ws
                      induction ws with
                      | nil => intro _ _ j h; simp at h
                      | cons w ws ih =>
                        intro n acc j h
                        simp only [foldW, if_true]
                        cases j with
                        | zero =>
                          simp at h; subst h
                          have keep : ∀ (ws : List Sg) (n : Nat) (acc : Sg), e ∈ acc → e ∈ foldW (fun _ => true) ws n acc := by
                            intro ws
                            induction ws with
                            | nil => intro _ _ h; exact h
                            | cons w ws ih => intro n acc h; simp only [foldW]; exact ih _ _ (by simp [h])
                          exact keep _ _ _ (by simp [hx])
                        | succ j => exact ih _ _ j (by simpa using h)
                    exact this _ _ _ j (by rw [List.getElem?_take, if_pos hlt']; exact hj)
                  · obtain ⟨oj, tj, h3, h4, rfl, hj'⟩ := hgw hj
                    have := hmenj h3 h4 hj' hDj hge' k hk
                    simp only [TE.noMen, Bool.and_eq_true] at this
                    have := List.all_eq_true.1 this.2 e hx
                    rw [hb] at this
                    simpa using this
          | no hy hg hv hR hN hΔ => exact .no hy (hgeq.trans hg) hv hR hN hΔ
        simp only [wpOp, ho]
        refine step_sound (hcomp ho' g2) hval hr (fun a' w' hr' => ih _ a' w' (by simpa using hsz) ?_ ?_ ?_)
        · -- down closed
          intro j o hoj hDj e he hbind
          rcases Nat.decEq j i with hne | rfl
          · have : listed.getD j false = true := by
              have hDj' : (listed.setIfInBounds i true).getD j false = true := hDj
              rw [getD_set_ne false (fun h => hne h.symm)] at hDj'; exact hDj'
            have := hD j o hoj this e he hbind
            exact getD_set_true this
          · rw [ho] at hoj; cases hoj
            exact getD_set_true (hready e he hbind)
        · -- one fewer
          have hcount : ∀ (n : Nat), ((List.range n).filter fun j => !(listed.setIfInBounds i true).getD j false).length + (if i < n then 1 else 0) = ((List.range n).filter fun j => !listed.getD j false).length := by
            intro n
            induction n with
            | zero => simp
            | succ n ihn =>
              rw [List.range_succ, List.filter_append, List.filter_append, List.length_append, List.length_append]
              rcases Nat.decEq n i with hne | rfl
              · have e1 : (listed.setIfInBounds i true).getD n false = listed.getD n false := getD_set_ne false (fun h => hne h.symm)
                have e2 : (if i < n + 1 then 1 else 0) = (if i < n then 1 else 0 : Nat) := by
                  by_cases h : i < n
                  · simp [h]; omega
                  · have : ¬ i < n + 1 := by omega
                    simp [h, this]
                simp only [List.filter_cons, List.filter_nil, e1, e2]
                omega
              · have e1 : (listed.setIfInBounds n true).getD n false = true := by simp [Array.getD, hlt]
                simp only [List.filter_cons, List.filter_nil, e1, hDi]
                simp at ihn ⊢
                omega
          have := hcount ops.size
          rw [if_pos hilt] at this
          omega
        · refine hr'.of_get ?_ ?_
          · intro t v hv
            rw [← hv]
            simp only [stepSt, StD, putE_eq, Env.get_eq]
            have hwi : (ewr l ts)[i]? = some (match oi.dst with | some d => [(d, ti.v)] | none => []) := by
              simp [ewr, List.getElem?_zipWith, g2, g3]
            have := foldW_more (D := fun j => listed.getD j false) (k := t) (a := S.env) hwi hDi (fun hn j w' hj hn' hlt' => by
              obtain ⟨oj, tj, h3, h4, rfl, hj'⟩ := hew hj
              have hd := hadst hn'
              have hdi := hadst hn
              rcases hord' h3 h4 (by omega) hj' with (hp | hp) | h | h
              · simp only [pairOk, Bool.and_eq_true] at hp
                exact (disj_spec hp.1.1.1.1.1 (k := t) (by simp [hdi]) (by simp [IOper.slots, hd])).elim
              · simp only [pairOk, Bool.and_eq_true] at hp
                exact (disj_spec hp.1.1.1.1.1 (k := t) (by simp [hd]) (by simp [IOper.slots, hdi])).elim
              · omega
              · exact h.2)
            rw [← this]
            refine foldW_agree _ _ _ _ rfl (fun j w' hj hn => ?_)
            obtain ⟨_, _, _, _, _, hj'⟩ := hew hj
            simp only [Nat.zero_add]
            rcases Nat.decEq j i with hne | rfl
            · rw [getD_set_ne false (fun h => hne h.symm)]; simp [hne]
            · simp [Array.getD, hlt]
          · intro r
            simp only [stepSt, StD, Sg.get_eq]
            congr 1
            have hwi : (gwr ts)[i]? = some ti.Δ := by simp [gwr, g3]
            have := foldW_more (D := fun j => listed.getD j false) (k := r) (a := S.sg) hwi hDi (fun hn j w' hj hn' hlt' => by
              obtain ⟨oj, tj, h3, h4, rfl, hj'⟩ := hgw hj
              have hd := aget_ids hn'
              have hdi := aget_ids hn
              rcases hord' h3 h4 (by omega) hj' with (hp | hp) | h | h
              · simp only [pairOk, Bool.and_eq_true] at hp
                exact (disj_spec hp.1.1.1.2 hdi (by simp [hd])).elim
              · simp only [pairOk, Bool.and_eq_true] at hp
                exact (disj_spec hp.1.1.1.2 hd (by simp [hdi])).elim
              · omega
              · exact h.2)
            rw [← this]
            refine foldW_agree _ _ _ _ rfl (fun j w' hj hn => ?_)
            obtain ⟨_, _, _, _, _, hj'⟩ := hgw hj
            simp only [Nat.zero_add]
            rcases Nat.decEq j i with hne | rfl
            · rw [getD_set_ne false (fun h => hne h.symm)]; simp [hne]
            · simp [Array.getD, hlt]
  have hdrew : Rel Fr ρ0 w0 nt S a { w with drawn := w.drawn + 1 } := by
    obtain ⟨ρ, h1, h2, h3, h4⟩ := hrel.ex
    obtain ⟨g1, g2⟩ := h2.grow (w' := w.drew) rfl rfl rfl (Nat.le_refl _) (fun _ _ => rfl)
    refine ⟨⟨ρ, fun t v hv => ?_, g2, h3.trans g1, h4⟩, hrel.defers, hrel.size⟩
    obtain ⟨u, hu, hr⟩ := h1 t v hv
    exact ⟨u, hu, hr.mono (fun b hb => g1.ok Fr b hb) (fun _ _ _ _ h => h)⟩
  refine wp_region_any hm (main ops.size (Array.replicate ops.size false) a _ (by simp) ?_ ?_ ?_)
  · intro j o ho hDj
    have hj := (Array.getElem?_eq_some_iff.1 ho).1
    simp [Array.getD, hj] at hDj
  · exact Nat.le_trans (List.length_filter_le _ _) (by simp)
  · refine hdrew.of_get ?_ ?_
    · intro t v hv
      rw [← hv]
      simp only [StD, Env.get_eq]
      symm
      refine foldW_none _ _ _ (fun j w' hj hd => ?_)
      obtain ⟨_, _, _, _, _, hj'⟩ := hew hj
      simp [Array.getD, hj'] at hd
    · intro r
      simp only [StD, Sg.get_eq]
      congr 1
      refine foldW_none _ _ _ (fun j w' hj hd => ?_)
      obtain ⟨_, _, _, _, _, hj'⟩ := hgw hj
      simp [Array.getD, hj'] at hd
end
end Go.DW

/- Contracts, calls, and the operations of a region one by one. -/
namespace Go.DW
section
variable {P : Program}

theorem elsOf_local {sg sg' : Sg} {v : V} {c : Prop} {l : List PV} {R : List Nat} (h : elsOf sg v = some (c, l, R)) (hR : ∀ r ∈ R, Sg.get sg' r = Sg.get sg r) : elsOf sg' v = some (c, l, R) := by
  unfold elsOf at h ⊢
  split at h
  · exact h
  · exact h
  · rename_i r i n
    split at h
    · rename_i es els hb
      have hr : r ∈ R := by
        split at h <;> (simp only [Option.some.injEq, Prod.mk.injEq] at h; rw [← h.2.2]; simp)
      rw [← hR r hr] at hb
      simp only [hb]
      exact h
    · simp at h
  · simp at h

theorem baseOf_local {es : Nat} {sg sg' : Sg} {v : V} {c : Prop} {l : List PV} {R : List Nat} (h : baseOf es sg v = some (c, l, R)) (hR : ∀ r ∈ R, Sg.get sg' r = Sg.get sg r) : baseOf es sg' v = some (c, l, R) := by
  unfold baseOf at h ⊢
  split at h
  · exact h
  · rename_i r i n
    split at h
    · rename_i es els hb
      have hr : r ∈ R := by
        split at h <;> (simp only [Option.some.injEq, Prod.mk.injEq] at h; rw [← h.2.2]; simp)
      rw [← hR r hr] at hb
      simp only [hb]
      exact h
    · simp at h
  · simp at h

theorem slcAt_local {es : Nat} {sg sg' : Sg} {v x : V} {a b : Int} {c : Prop} {R : List Nat} {Δ : Sg} (h : slcAt es x a b sg = some (c, v, R, Δ)) (hR : ∀ r ∈ R, Sg.get sg' r = Sg.get sg r) : slcAt es x a b sg' = some (c, v, R, Δ) := by
  unfold slcAt at h ⊢
  split at h
  · exact h
  · rename_i r i n
    split at h
    · rename_i es els hb
      have hr : r ∈ R := by
        split at h <;> (simp only [Option.some.injEq, Prod.mk.injEq] at h; rw [← h.2.2.1]; simp)
      rw [← hR r hr] at hb
      simp only [hb]
      exact h
    · simp at h
  · exact h
  · simp at h

theorem slcFrom_local {es : Nat} {sg sg' : Sg} {v x : V} {a : Int} {c : Prop} {R : List Nat} {Δ : Sg} (h : slcFrom es x a sg = some (c, v, R, Δ)) (hR : ∀ r ∈ R, Sg.get sg' r = Sg.get sg r) : slcFrom es x a sg' = some (c, v, R, Δ) := by
  unfold slcFrom at h ⊢
  split at h
  · exact h
  · rename_i r i n
    split at h
    · rename_i es els hb
      have hr : r ∈ R := by
        simp only [Option.some.injEq, Prod.mk.injEq] at h; rw [← h.2.2.1]; simp
      rw [← hR r hr] at hb
      simp only [hb]
      exact h
    · simp at h
  · exact h
  · simp at h

theorem sem_local {alt dst : Nat} {k : K} {vs : List V} {sg sg' : Sg} {c : Prop} {v : V} {R : List Nat} {Δ : Sg} (h : sem alt dst k vs sg = some (c, v, R, Δ)) (hR : ∀ r ∈ R, Sg.get sg' r = Sg.get sg r) : sem alt dst k vs sg' = some (c, v, R, Δ) := by
  cases k <;> simp only [sem] at h ⊢ <;> try exact h
  case load ag sz =>
    unfold semLoad at h ⊢
    split at h
    · exact h
    · rename_i r i j
      split at h
      · rename_i es els hb
        have hr : r ∈ R := by
          split at h
          · split at h <;> (simp only [Option.some.injEq, Prod.mk.injEq] at h; rw [← h.2.2.1]; simp)
          · simp only [Option.some.injEq, Prod.mk.injEq] at h; rw [← h.2.2.1]; simp
        rw [← hR r hr] at hb
        simp only [hb]
        exact h
      · rename_i es els hb
        have hr : r ∈ R := by
          split at h
          · simp only [Option.some.injEq, Prod.mk.injEq] at h; rw [← h.2.2.1]; simp
          · split at h
            · simp only [Option.some.injEq, Prod.mk.injEq] at h; rw [← h.2.2.1]; simp
            · simp at h
        rw [← hR r hr] at hb
        simp only [hb]
        exact h
      · simp at h
    · simp at h
  case store sz =>
    unfold semStore at h ⊢
    split at h
    · rename_i r i j y
      split at h
      · rename_i es els hb
        have hr : r ∈ R := by
          split at h
          · split at h <;> (simp only [Option.some.injEq, Prod.mk.injEq] at h; rw [← h.2.2.1]; simp)
          · simp at h
        rw [← hR r hr] at hb
        simp only [hb]
        exact h
      · rename_i es els hb
        have hr : r ∈ R := by
          simp only [Option.some.injEq, Prod.mk.injEq] at h; rw [← h.2.2.1]; simp
        rw [← hR r hr] at hb
        simp only [hb]
        exact h
      · simp at h
    · simp at h
  case nilck =>
    unfold semNilck at h ⊢
    split at h
    · rename_i r i j
      split at h
      · rename_i b hb
        have hr : r ∈ R := by
          simp only [Option.some.injEq, Prod.mk.injEq] at h; rw [← h.2.2.1]; simp
        rw [← hR r hr] at hb
        simp only [hb]
        exact h
      · simp at h
    · exact h
    · exact h
    · simp at h
  case b2s =>
    unfold semB2s at h ⊢
    split at h
    · split at h
      · rename_i c' l R' hel
        simp only [Option.some.injEq, Prod.mk.injEq] at h
        obtain ⟨h1, h2, rfl, h4⟩ := h
        simp only [elsOf_local hel hR, h1, h2, h4]
      · simp at h
    · simp at h
  case mark =>
    unfold semMark at h ⊢
    split at h
    · split at h
      · rename_i c' l R' hel
        simp only [Option.some.injEq, Prod.mk.injEq] at h
        obtain ⟨h1, h2, rfl, h4⟩ := h
        simp only [elsOf_local hel hR, h1, h2, h4]
      · simp at h
    · simp at h
  case slc es lo hi =>
    unfold semSlc at h ⊢
    split at h
    · split at h
      · exact slcAt_local h hR
      · exact slcFrom_local h hR
      · exact slcAt_local h hR
      · simp at h
    · simp at h
  case fad off =>
    unfold semFad at h ⊢
    split at h
    · rename_i r i j
      split at h
      · rename_i b hb
        have hr : r ∈ R := by
          simp only [Option.some.injEq, Prod.mk.injEq] at h; rw [← h.2.2.1]; simp
        rw [← hR r hr] at hb
        simp only [hb]
        exact h
      · simp at h
    · exact h
    · simp at h
  case iad es =>
    unfold semIad at h ⊢
    split at h
    · split at h
      · exact h
      · rename_i r i n
        split at h
        · rename_i es2 els hb
          have hr : r ∈ R := by
            simp only [Option.some.injEq, Prod.mk.injEq] at h; rw [← h.2.2.1]; simp
          rw [← hR r hr] at hb
          simp only [hb]
          exact h
        · rename_i es2 els hb
          have hr : r ∈ R := by
            simp only [Option.some.injEq, Prod.mk.injEq] at h; rw [← h.2.2.1]; simp
          rw [← hR r hr] at hb
          simp only [hb]
          exact h
        · simp at h
      · simp at h
    · simp at h
  case iaa es n =>
    unfold semIaa at h ⊢
    split at h
    · rename_i r i j k a
      split at h
      · rename_i b hb
        have hr : r ∈ R := by
          simp only [Option.some.injEq, Prod.mk.injEq] at h; rw [← h.2.2.1]; simp
        rw [← hR r hr] at hb
        simp only [hb]
        exact h
      · simp at h
    · exact h
    · simp at h
  case app es by_ =>
    unfold semApp at h ⊢
    split at h
    · split at h
      · rename_i c0 els R0 c1 l R1 hb hl
        simp only [Option.some.injEq, Prod.mk.injEq] at h
        obtain ⟨h1, h2, rfl, h4⟩ := h
        simp only [baseOf_local hb (fun r hr => hR r (by simp [hr])), elsOf_local hl (fun r hr => hR r (by simp [hr])), h1, h2, h4]
      · simp at h
    · simp at h
  case apps =>
    unfold semApps at h ⊢
    split at h
    · split at h
      · rename_i c0 els R0 hb
        simp only [Option.some.injEq, Prod.mk.injEq] at h
        obtain ⟨h1, h2, rfl, h4⟩ := h
        simp only [baseOf_local hb hR, h1, h2, h4]
      · simp at h
    · simp at h

  case mins kk =>
    unfold semMins at h ⊢
    split at h
    · split at h
      · rename_i r _ _ _ _ ents hb
        have hr : r ∈ R := by
          simp only [Option.some.injEq, Prod.mk.injEq] at h; rw [← h.2.2.1]; simp
        rw [← hR r hr] at hb
        simp only [hb]
        exact h
      · simp at h
    · simp at h
  case mlook kk cok z =>
    unfold semMlook at h ⊢
    split at h
    · split at h
      · rename_i r _ _ _ ents hb
        have hr : r ∈ R := by
          split at h
          · split at h <;> (simp only [Option.some.injEq, Prod.mk.injEq] at h; rw [← h.2.2.1]; simp)
          · split at h
            · split at h <;> (simp only [Option.some.injEq, Prod.mk.injEq] at h; rw [← h.2.2.1]; simp)
            · simp at h
        rw [← hR r hr] at hb
        simp only [hb]
        exact h
      · simp at h
    · simp at h

/-- The new names of an operation. -/
def newOf (k : K) (dst : Nat) : List Nat := if k.new then [dst] else []

theorem upon_res {o : Oper} {a : Act} {w : World} {Fr : Nat → Prop} {ρ : Rho} {sg : Sg} {dst : Nat} {k : K} {v : V} {Δ : Sg} (hr : Res Fr ρ w sg dst k.new v Δ ((execOp a.eval o).run P w)) {next : Act → World → Prop} {Q : Exit → Act → World → Prop}
    (hn : ∀ u w' ρ', Evo w ρ w' ρ' → VRep w' (okOf w' Fr ρ') ρ' v u → SgRel w' Fr ρ' (Δ ++ sg) → (∀ r s L, ρ' r s = some L → ρ r s = some L ∨ r ∈ newOf k dst) → next (a.put o.dst u) w') : o.wp P a w next Q := by
  obtain ⟨u, w', ρ', hrun, h1, h2, h3, h4⟩ := hr
  have h5 : ∀ r s L, ρ' r s = some L → ρ r s = some L ∨ r ∈ newOf k dst := fun r s L hL => by
    rcases h4 r s L hL with h | ⟨h, rfl⟩
    · exact .inl h
    · exact .inr (by simp [newOf, h])
  unfold Oper.wp
  rcases hrun with h | ⟨h, rfl⟩
  · rw [h]; exact hn u w' ρ' h1 h2 h3 h5
  · rw [h]; exact hn undef w' ρ' h1 h2 h3 h5

theorem la_op {o : Oper} {k : K} {xs : List X} {vals : List V} {alt dst : Nat} {sg0 : Sg} {c : Prop} {v : V} {R : List Nat} {Δ : Sg} (hcomp : compileOp P o.op = some (k, xs)) (hsem : sem alt dst k vals sg0 = some (c, v, R, Δ)) (hc : c) (hm : k.new = true → V.men.mens dst vals = false) :
    LA P o xs vals sg0 R (newOf k dst) v Δ := by
  intro Fr ρ w sg a env h1 h2 h3 h4 h5 next Q hn
  exact upon_res (op_sound hcomp h1 h2 h3 (sem_local hsem h4) hc (fun hk => ⟨h5 dst (by simp [newOf, hk]), hm hk⟩)) hn

/-! ### Contracts -/

/-- A contract: called with these values, and this owned memory, the function returns this value, and leaves this owned memory. 'gl': what package-level variables point to. -/
def DC (P : Program) (f : FuncId) (gl : Env) (args : List V) (sg : Sg) (v : V) (sg' : Sg) : Prop :=
  ∀ (Fr : Nat → Prop) (ρ : Rho) (w : World) (us : List Value), VReps w (okOf w Fr ρ) ρ args us → SgRel w Fr ρ sg →
    (∀ g x, Env.get gl g = some x → 1000000 ≤ g ∧ VRep w (okOf w Fr ρ) ρ x (.pointer (some ⟨g - 1000000, 0, none⟩))) →
    Calls P f us.toArray w fun e w' => ∃ u ρ', e = .returned u ∧ Evo w ρ w' ρ' ∧ VRep w' (okOf w' Fr ρ') ρ' v u ∧ SgRel w' Fr ρ' sg' ∧ ∀ r s L, ρ' r s = some L → ρ r s = some L ∨ ∀ s', ρ r s' = none

def renL (km : List (Nat × Nat)) (r : Nat) : Nat := (aget km r).getD r

def V.ren (m : Nat → Nat) : V → V
  | .ptr r i j => .ptr (m r) i j
  | .os r s i n => .os (m r) s i n
  | .mp r => .mp (m r)
  | .agg l => .agg (rens l)
  | .tup l => .tup (rens l)
  | .fn f l => .fn f (rens l)
  | v => v
where rens : List V → List V
  | [] => []
  | v :: l => V.ren m v :: rens l

def Box.ren (m : Nat → Nat) : Box → Box
  | .vs es els => .vs es (els.map (V.ren.rens m))
  | .mp ents => .mp (ents.map fun e => (e.1, e.2.ren m))
  | b => b

/-- Are all names of a value among these? -/
def V.idsIn (ks : List Nat) : V → Bool
  | .ptr r _ _ => ks.contains r
  | .os r _ _ _ => ks.contains r
  | .mp r => ks.contains r
  | .agg l => idsIns l
  | .tup l => idsIns l
  | .fn _ l => idsIns l
  | _ => true
where idsIns : List V → Bool
  | [] => true
  | v :: l => V.idsIn ks v && idsIns l

def Box.idsIn (ks : List Nat) : Box → Bool
  | .vs _ els => els.all fun l => V.idsIn.idsIns ks l
  | .mp ents => ents.all fun e => e.2.idsIn ks
  | _ => true

mutual
theorem VRep.ren {w : World} {ok : Nat → Prop} {ρ : Rho} {m : Nat → Nat} : ∀ {v : V} {u : Value}, VRep w ok ρ (v.ren m) u → VRep w ok (fun r s => ρ (m r) s) v u
  | .p _, _, .p h => .p h
  | .nils, _, .nils a => .nils a
  | .agg l, _, h => by
    simp only [V.ren] at h
    cases h with
    | agg h => exact .agg (VReps.ren h)
  | .tup l, _, h => by
    simp only [V.ren] at h
    cases h with
    | tup h => exact .tup (VReps.ren h)
  | .fn f l, _, h => by
    simp only [V.ren] at h
    cases h with
    | fn h => exact .fn (VReps.ren h)
  | .ptr r i j, _, h => by
    simp only [V.ren] at h
    cases h with
    | ptr h => exact .ptr h
  | .os r s i n, _, h => by
    simp only [V.ren] at h
    cases h with
    | os h => exact .os h
  | .mp r, _, h => by
    simp only [V.ren] at h
    cases h with
    | mp h => exact .mp h
  | .pp cells, _, .pp a b c => .pp a b c
  | .junk, _, .junk u => .junk u
  | .own els, _, h => by simp only [V.ren] at h; cases h
theorem VReps.ren {w : World} {ok : Nat → Prop} {ρ : Rho} {m : Nat → Nat} : ∀ {l : List V} {us : List Value}, VReps w ok ρ (V.ren.rens m l) us → VReps w ok (fun r s => ρ (m r) s) l us
  | [], _, h => by
    simp only [V.ren.rens] at h
    cases h; exact .nil
  | v :: l, _, h => by
    simp only [V.ren.rens] at h
    cases h with
    | cons h hs => exact .cons (VRep.ren h) (VReps.ren hs)
end

mutual
theorem VRep.unren {w : World} {ok : Nat → Prop} {ρ : Rho} {m : Nat → Nat} : ∀ {v : V} {u : Value}, VRep w ok (fun r s => ρ (m r) s) v u → VRep w ok ρ (v.ren m) u
  | .p _, _, .p h => .p h
  | .nils, _, .nils a => .nils a
  | .agg l, _, .agg h => by simp only [V.ren]; exact .agg (VReps.unren h)
  | .tup l, _, .tup h => by simp only [V.ren]; exact .tup (VReps.unren h)
  | .fn f l, _, .fn h => by simp only [V.ren]; exact .fn (VReps.unren h)
  | .ptr r i j, _, .ptr h => by simp only [V.ren]; exact .ptr h
  | .os r s i n, _, .os h => by simp only [V.ren]; exact .os h
  | .mp r, _, .mp h => by simp only [V.ren]; exact .mp h
  | .pp cells, _, .pp a b c => .pp a b c
  | .junk, _, .junk u => .junk u
theorem VReps.unren {w : World} {ok : Nat → Prop} {ρ : Rho} {m : Nat → Nat} : ∀ {l : List V} {us : List Value}, VReps w ok (fun r s => ρ (m r) s) l us → VReps w ok ρ (V.ren.rens m l) us
  | [], _, .nil => .nil
  | v :: l, _, .cons h hs => .cons (VRep.unren h) (VReps.unren hs)
end
end
end Go.DW

/- Calls, by contract. -/
namespace Go.DW
section
variable {P : Program}

def HasBody (P : Program) (f : FuncId) : Prop := ∃ fn cd, P.funcs[f]? = some fn ∧ (fn.name == "runtime.NumGoroutine") = false ∧ fn.body = some cd

theorem run_call {o : Oper} {c : Call} {fx : Operand} {a : Act} {g : FuncId} {caps : List Value} (hop : o.op = .call c) (hc : c.callee = .value fx) (hf : a.eval fx = .func (.func g) #[] caps.toArray) (hb : HasBody P g) (w : World) :
    (execOp a.eval o).run P w = .ok (.enter g ((c.args.toList.map a.eval) ++ caps).toArray) w := by
  obtain ⟨fn, cd, h1, h2, h3⟩ := hb
  have h4 : fn.name ≠ "runtime.NumGoroutine" := by simpa using h2
  have e1 : execOp a.eval o = callFunc g (c.args.map a.eval ++ caps.toArray) := by
    unfold execOp
    simp [hop, hc, resolve, Deferred.ofValue, invoke, hf]
  have e2 : ((c.args.toList.map a.eval) ++ caps).toArray = c.args.map a.eval ++ caps.toArray := by
    apply Array.ext'; simp
  rw [e1, e2]
  simp [callFunc, h1, h4, h3]

theorem compile_call {op : Op} {xs : List X} (h : compileOp P op = some (.call, xs)) : ∃ c fx, op = .call c ∧ c.callee = .value fx ∧ cXs (fx :: c.args.toList) = some xs := by
  cases op
  case call c =>
    simp only [compileOp] at h
    split at h
    · rename_i f hc
      simp only [Option.map_eq_some_iff] at h
      obtain ⟨ys, h1, h2⟩ := h
      cases h2
      exact ⟨c, f, rfl, hc, h1⟩
    all_goals (repeat' (first | (simp only [Option.map_eq_some_iff, Prod.mk.injEq, reduceCtorEq, false_and, and_false, exists_false, Option.some.injEq] at h; done) | split at h))
  case unOp op t x => cases op <;> simp [compileOp] at h
  case makeMap t r => cases r <;> simp [compileOp] at h
  case makeFunc fn first captured =>
    cases fn <;> simp [compileOp] at h
  all_goals (simp only [compileOp, reduceCtorEq] at h <;> (repeat' (first | (simp only [Option.map_eq_some_iff, Prod.mk.injEq, reduceCtorEq, false_and, and_false, exists_false, Option.some.injEq] at h; done) | split at h)))

/-! ### Names -/
def nodupB : List Nat → Bool
  | [] => true
  | a :: l => !l.contains a && nodupB l

def invL (km : List (Nat × Nat)) (r : Nat) : Option Nat := aget (km.map fun p => (p.2, p.1)) r

theorem aget_mem {α : Type} : ∀ {l : List (Nat × α)} {k : Nat} {v : α}, aget l k = some v → (k, v) ∈ l
  | [], _, _, h => by simp [aget] at h
  | (k', v') :: l, k, v, h => by
    simp only [aget] at h
    split at h
    · rename_i e; cases h; subst e; simp
    · exact List.mem_cons_of_mem _ (aget_mem h)

theorem aget_of_mem {α : Type} : ∀ {l : List (Nat × α)} {k : Nat} {v : α}, nodupB (l.map (·.1)) = true → (k, v) ∈ l → aget l k = some v
  | [], _, _, _, h => by simp at h
  | (k', v') :: l, k, v, hn, h => by
    simp only [List.map_cons, nodupB, Bool.and_eq_true, Bool.not_eq_true', List.contains_eq_mem, decide_eq_false_iff_not] at hn
    rcases List.mem_cons.1 h with h' | h'
    · cases h'; simp [aget]
    · have : k ≠ k' := by
        rintro rfl
        exact hn.1 (List.mem_map.2 ⟨(k, v), h', rfl⟩)
      simp only [aget, this, if_false]
      exact aget_of_mem hn.2 h'

theorem aget_some_of_key {α : Type} : ∀ {l : List (Nat × α)} {k : Nat}, k ∈ l.map (·.1) → ∃ v, aget l k = some v
  | [], _, h => by simp at h
  | (k', v') :: l, k, h => by
    simp only [aget]
    split
    · exact ⟨_, rfl⟩
    · rename_i hne
      refine aget_some_of_key ?_
      simpa [hne] using h

theorem inv_of_mem {km : List (Nat × Nat)} {k r : Nat} (hn : nodupB (km.map (·.2)) = true) (h : (k, r) ∈ km) : invL km r = some k :=
  aget_of_mem (by simpa [List.map_map, Function.comp_def] using hn) (List.mem_map.2 ⟨_, h, rfl⟩)

theorem mem_of_inv {km : List (Nat × Nat)} {k r : Nat} (h : invL km r = some k) : (k, r) ∈ km := by
  have := aget_mem h
  simp only [List.mem_map, Prod.mk.injEq] at this
  obtain ⟨⟨a, b⟩, h1, h2, h3⟩ := this
  simp at h2 h3
  subst h2 h3
  exact h1

theorem rens_eq {m : Nat → Nat} : ∀ (l : List V), V.ren.rens m l = l.map (V.ren m)
  | [] => rfl
  | v :: l => by simp [V.ren.rens, rens_eq l]

theorem al_ren {m : Nat → Nat} {k i j : Nat} (v : V) : (v.ren m).al (m k) i j = (v.al k i j).ren m := by cases v <;> rfl

theorem W.ren_v {m : Nat → Nat} (x : W) : x.v.ren m = x.v := by cases x <;> rfl

theorem rens_pcells {m : Nat → Nat} (els : List PV) : (pcells els).map (V.ren.rens m) = pcells els := by
  simp only [pcells, List.map_map]
  refine List.map_congr_left (fun x _ => ?_)
  simp only [Function.comp_def, rens_eq, List.map_map]
  exact List.map_congr_left (fun y _ => rfl)

theorem Box.ren_elems {m : Nat → Nat} (b : Box) : (b.ren m).elems = b.elems.map (V.ren.rens m) := by
  cases b with
  | pv es els => simp only [Box.ren, Box.elems, rens_pcells]
  | vs es els => rfl
  | ow es els =>
    simp only [Box.ren, Box.elems, List.map_map]
    refine List.map_congr_left (fun x _ => ?_)
    simp only [Function.comp_def, rens_eq, List.map_map]
    exact List.map_congr_left (fun y _ => (W.ren_v y).symm)
  | mp ents => rfl

theorem Box.ren_es {m : Nat → Nat} (b : Box) : (b.ren m).es = b.es := by cases b <;> rfl

theorem Box.ren_mp {m : Nat → Nat} {b : Box} : (∃ ents, b.ren m = .mp ents) ↔ ∃ ents, b = .mp ents := by cases b <;> simp [Box.ren]

theorem Box.ren_nm {m : Nat → Nat} {b : Box} (h : ∀ ents, b ≠ .mp ents) : ∀ ents, b.ren m ≠ .mp ents := fun ents he => by
  obtain ⟨e2, h2⟩ := Box.ren_mp.1 ⟨ents, he⟩
  exact h e2 h2

theorem Box.unren_nm {m : Nat → Nat} {b : Box} (h : ∀ ents, b.ren m ≠ .mp ents) : ∀ ents, b ≠ .mp ents := fun ents he => by
  obtain ⟨e2, h2⟩ := (Box.ren_mp (m := m)).2 ⟨ents, he⟩
  exact h e2 h2

variable {w : World} {ok : Nat → Prop} {ρ : Rho} {m : Nat → Nat} {k : Nat} {L : Loc}

theorem ArrRep.any_p {ρ' : Rho} {r r' : Nat} {els : List PV} (h : ArrRep w ok ρ r L (pcells els)) : ArrRep w ok ρ' r' L (pcells els) :=
  ⟨h.len, h.sz, fun hc => by
    obtain ⟨c, T, h1, h3, h4⟩ := h.mem hc
    refine ⟨c, T, h1, h3, fun i j cs v hi hj => ?_⟩
    obtain ⟨u, hu, hv⟩ := h4 i j cs v hi hj
    have hi' := hi
    simp only [pcells, List.getElem?_map, Option.map_eq_some_iff] at hi'
    obtain ⟨x, _, rfl⟩ := hi'
    have hj' := hj
    simp only [List.getElem?_map, Option.map_eq_some_iff] at hj'
    obtain ⟨y, _, rfl⟩ := hj'
    exact ⟨u, hu, .p hv.inv_p⟩⟩

theorem ArrRep.ren {els : List (List V)} (h : ArrRep w ok ρ (m k) L (els.map (V.ren.rens m))) : ArrRep w ok (fun r s => ρ (m r) s) k L els := by
  refine ⟨by simpa using h.len, fun cs hcs => ?_, fun hc => ?_⟩
  · have := h.sz (V.ren.rens m cs) (List.mem_map.2 ⟨cs, hcs, rfl⟩)
    simpa [rens_eq] using this
  · obtain ⟨c, T, h1, h3, h4⟩ := h.mem hc
    refine ⟨c, T, h1, h3, fun i j cs v hi hj => ?_⟩
    obtain ⟨u, hu, hv⟩ := h4 i j (V.ren.rens m cs) (v.ren m) (by simp [hi]) (by simp [rens_eq, hj])
    rw [al_ren] at hv
    exact ⟨u, hu, hv.ren⟩

theorem ArrRep.unren {els : List (List V)} (h : ArrRep w ok (fun r s => ρ (m r) s) k L els) : ArrRep w ok ρ (m k) L (els.map (V.ren.rens m)) := by
  refine ⟨by simpa using h.len, fun cs hcs => ?_, fun hc => ?_⟩
  · obtain ⟨cs', h1, rfl⟩ := List.mem_map.1 hcs
    simpa [rens_eq] using h.sz cs' h1
  · obtain ⟨c, T, h1, h3, h4⟩ := h.mem hc
    refine ⟨c, T, h1, h3, fun i j cs v hi hj => ?_⟩
    simp only [List.getElem?_map, Option.map_eq_some_iff] at hi
    obtain ⟨cs', hi', rfl⟩ := hi
    rw [rens_eq] at hj
    simp only [List.getElem?_map, Option.map_eq_some_iff] at hj
    obtain ⟨v', hj', rfl⟩ := hj
    obtain ⟨u, hu, hv⟩ := h4 i j cs' v' hi' hj'
    refine ⟨u, hu, ?_⟩
    rw [al_ren]
    exact hv.unren

theorem BoxRep.ren {b : Box} (h : BoxRep w ok ρ (m k) (b.ren m) L) : BoxRep w ok (fun r s => ρ (m r) s) k b L := by
  refine ⟨h.loc, fun hn => ?_, fun hn => ?_, fun hn i j cs els hi hj => ?_, fun ents he => ?_⟩
  · rw [← Box.ren_es (m := m)]; exact h.esz (Box.ren_nm hn)
  · have := h.arr (Box.ren_nm hn)
    rw [Box.ren_elems] at this
    exact this.ren
  · obtain ⟨L', h1, h2⟩ := h.sub (Box.ren_nm hn) i j (V.ren.rens m cs) els (by rw [Box.ren_elems]; simp [hi]) (by simp [rens_eq, hj, V.ren])
    exact ⟨L', h1, h2.any_p⟩
  · subst he
    obtain ⟨h1, h2⟩ := h.map _ rfl
    refine ⟨⟨h1.cap, ?_⟩, fun i key els hi => ?_⟩
    · obtain ⟨es, a1, a2, a4, a3⟩ := h1.mem
      refine ⟨es, a1, by rw [a2]; simp, a4, fun i key v hi => ?_⟩
      obtain ⟨e, b1, b2, b3⟩ := a3 i key (v.ren m) (by simp [hi])
      rw [al_ren] at b3
      exact ⟨e, b1, b2, b3.ren⟩
    · obtain ⟨L', c1, c2⟩ := h2 i key els (by simp [hi, V.ren])
      exact ⟨L', c1, c2.any_p⟩

theorem BoxRep.unren {b : Box} (h : BoxRep w ok (fun r s => ρ (m r) s) k b L) : BoxRep w ok ρ (m k) (b.ren m) L := by
  refine ⟨h.loc, fun hn => ?_, fun hn => ?_, fun hn i j cs els hi hj => ?_, fun ents he => ?_⟩
  · rw [Box.ren_es]; exact h.esz (Box.unren_nm hn)
  · have := h.arr (Box.unren_nm hn)
    rw [Box.ren_elems]
    exact this.unren
  · rw [Box.ren_elems] at hi
    simp only [List.getElem?_map, Option.map_eq_some_iff] at hi
    obtain ⟨cs', hi', rfl⟩ := hi
    rw [rens_eq] at hj
    simp only [List.getElem?_map, Option.map_eq_some_iff] at hj
    obtain ⟨v', hj', hv'⟩ := hj
    have : v' = .own els := by
      cases v' <;> simp [V.ren] at hv'
      subst hv'; rfl
    subst this
    obtain ⟨L', h1, h2⟩ := h.sub (Box.unren_nm hn) i j cs' els hi' hj'
    exact ⟨L', h1, h2.any_p⟩
  · cases b with
    | mp ents0 =>
      simp only [Box.ren, Box.mp.injEq] at he
      subst he
      obtain ⟨h1, h2⟩ := h.map ents0 rfl
      refine ⟨⟨h1.cap, ?_⟩, fun i key els hi => ?_⟩
      · obtain ⟨es, a1, a2, a4, a3⟩ := h1.mem
        refine ⟨es, a1, by rw [a2]; simp, a4, fun i key v hi => ?_⟩
        simp only [List.getElem?_map, Option.map_eq_some_iff, Prod.mk.injEq] at hi
        obtain ⟨⟨k0, v0⟩, hi', rfl, rfl⟩ := hi
        obtain ⟨e, b1, b2, b3⟩ := a3 i k0 v0 hi'
        refine ⟨e, b1, b2, ?_⟩
        rw [al_ren]
        exact b3.unren
      · simp only [List.getElem?_map, Option.map_eq_some_iff, Prod.mk.injEq] at hi
        obtain ⟨⟨k0, v0⟩, hi', rfl, hv⟩ := hi
        have : v0 = .own els := by
          cases v0 <;> simp [V.ren] at hv
          subst hv; rfl
        subst this
        obtain ⟨L', c1, c2⟩ := h2 i k0 els hi'
        exact ⟨L', c1, c2.any_p⟩
    | _ => simp [Box.ren] at he

mutual
theorem idsIn_men {ks : List Nat} {r : Nat} : ∀ {v : V}, v.idsIn ks = true → v.men r = true → r ∈ ks
  | .p _, _, h => by simp [V.men] at h
  | .nils, _, h => by simp [V.men] at h
  | .agg l, h1, h2 => idsIns_men (by simpa [V.idsIn] using h1) (by simpa [V.men] using h2)
  | .tup l, h1, h2 => idsIns_men (by simpa [V.idsIn] using h1) (by simpa [V.men] using h2)
  | .fn f l, h1, h2 => idsIns_men (by simpa [V.idsIn] using h1) (by simpa [V.men] using h2)
  | .ptr r' i j, h1, h2 => by simp [V.men] at h2; subst h2; simpa [V.idsIn] using h1
  | .os r' s i n, h1, h2 => by simp [V.men] at h2; subst h2; simpa [V.idsIn] using h1
  | .mp r', h1, h2 => by simp [V.men] at h2; subst h2; simpa [V.idsIn] using h1
  | .pp _, _, h => by simp [V.men] at h
  | .junk, _, h => by simp [V.men] at h
  | .own _, _, h => by simp [V.men] at h
theorem idsIns_men {ks : List Nat} {r : Nat} : ∀ {l : List V}, V.idsIn.idsIns ks l = true → V.men.mens r l = true → r ∈ ks
  | [], _, h => by simp [V.men.mens] at h
  | v :: l, h1, h2 => by
    simp only [V.idsIn.idsIns, Bool.and_eq_true] at h1
    simp only [V.men.mens, Bool.or_eq_true] at h2
    rcases h2 with h2 | h2
    · exact idsIn_men h1.1 h2
    · exact idsIns_men h1.2 h2
end

theorem Box.idsIn_men {ks : List Nat} {r : Nat} {b : Box} (h1 : b.idsIn ks = true) (h2 : b.men r = true) : r ∈ ks := by
  cases b with
  | vs es els =>
    simp only [Box.idsIn, List.all_eq_true] at h1
    simp only [Box.men, List.any_eq_true] at h2
    obtain ⟨l, hl, hm⟩ := h2
    exact idsIns_men (h1 l hl) hm
  | mp ents =>
    simp only [Box.idsIn, List.all_eq_true] at h1
    simp only [Box.men, List.any_eq_true] at h2
    obtain ⟨l, hl, hm⟩ := h2
    exact Go.DW.idsIn_men (h1 l hl) hm
  | _ => simp [Box.men] at h2
end
end Go.DW
