/- The rule of calls. -/
import Derived.Test.YtihhgkobmnjamaaFb
import Derived.Scope
import Derived.OpenShut
import Derived.Carry
import Derived.ProofKit
import Derived.JoinedCond
namespace Go.DW
section
variable {P : Program}

def keysL (km : List (Nat × Nat)) : List Nat := km.map (·.1)

/-- The owned memory that is handed over has what the contract asks for. -/
def entOk (m : Nat → Nat) (csg sg0 : Sg) : List (Nat × Nat) → Prop
  | [] => True
  | (k, r) :: l => (match Sg.get csg k with
    | some b => Sg.get sg0 r = some (b.ren m)
    | none => True) ∧ entOk m csg sg0 l

def callR (csg : Sg) : List (Nat × Nat) → List Nat
  | [] => []
  | (k, r) :: l => match Sg.get csg k with
    | some _ => r :: callR csg l
    | none => callR csg l

def callN (csg : Sg) : List (Nat × Nat) → List Nat
  | [] => []
  | (k, r) :: l => match Sg.get csg k with
    | some _ => callN csg l
    | none => r :: callN csg l

/-- What changes, but for the memory that is only read ('ro'). -/
def callΔ (m : Nat → Nat) (ro : List Nat) (csg' : Sg) : List (Nat × Nat) → Sg
  | [] => []
  | (k, r) :: l => match ro.contains k with
    | true => callΔ m ro csg' l
    | false => (match Sg.get csg' k with
      | some b => (r, some (b.ren m))
      | none => (r, none)) :: callΔ m ro csg' l

def roOk (csg csg' : Sg) : List Nat → Prop
  | [] => True
  | k :: l => ((Sg.get csg k).isSome = true ∧ Sg.get csg' k = Sg.get csg k) ∧ roOk csg csg' l

theorem entOk_spec {m : Nat → Nat} {csg sg0 : Sg} : ∀ {km : List (Nat × Nat)}, entOk m csg sg0 km → ∀ {k r : Nat}, (k, r) ∈ km → ∀ {b : Box}, Sg.get csg k = some b → Sg.get sg0 r = some (b.ren m)
  | [], _, _, _, h, _, _ => by simp at h
  | (k', r') :: l, h, k, r, hm, b, hb => by
    rcases List.mem_cons.1 hm with h' | h'
    · cases h'
      have := h.1
      rw [hb] at this; exact this
    · exact entOk_spec h.2 h' hb

theorem callR_mem {csg : Sg} : ∀ {km : List (Nat × Nat)} {k r : Nat}, (k, r) ∈ km → ∀ {b : Box}, Sg.get csg k = some b → r ∈ callR csg km
  | [], _, _, h, _, _ => by simp at h
  | (k', r') :: l, k, r, h, b, hb => by
    rcases List.mem_cons.1 h with h' | h'
    · cases h'; simp [callR, hb]
    · have := callR_mem h' hb
      simp only [callR]
      split
      · exact List.mem_cons_of_mem _ this
      · exact this

theorem callN_mem {csg : Sg} : ∀ {km : List (Nat × Nat)} {k r : Nat}, (k, r) ∈ km → Sg.get csg k = none → r ∈ callN csg km
  | [], _, _, h, _ => by simp at h
  | (k', r') :: l, k, r, h, hb => by
    rcases List.mem_cons.1 h with h' | h'
    · cases h'; simp [callN, hb]
    · have := callN_mem h' hb
      simp only [callN]
      split
      · exact this
      · exact List.mem_cons_of_mem _ this

theorem aget_callΔ {m : Nat → Nat} {ro : List Nat} {csg' : Sg} : ∀ {km : List (Nat × Nat)}, nodupB (km.map (·.2)) = true → ∀ {k r : Nat}, (k, r) ∈ km →
    aget (callΔ m ro csg' km) r = if ro.contains k then none else some ((Sg.get csg' k).map (Box.ren m))
  | [], _, _, _, h => by simp at h
  | (k', r') :: l, hn, k, r, h => by
    have hn' := hn
    simp only [List.map_cons, nodupB, Bool.and_eq_true, Bool.not_eq_true', List.contains_eq_mem, decide_eq_false_iff_not] at hn
    have hout : ∀ (l : List (Nat × Nat)) (r : Nat), r ∉ l.map (·.2) → aget (callΔ m ro csg' l) r = none := by
      intro l
      induction l with
      | nil => intro r _; rfl
      | cons p l ih =>
        intro r hr
        obtain ⟨k1, r1⟩ := p
        simp only [List.map_cons, List.mem_cons, not_or] at hr
        simp only [callΔ]
        split
        · exact ih r hr.2
        · split <;> simp only [aget, hr.1, if_false] <;> exact ih r hr.2
    rcases List.mem_cons.1 h with h' | h'
    · cases h'
      simp only [callΔ]
      split
      · rename_i hro
        rw [hout _ _ hn.1, hro]; rfl
      · rename_i hro
        rw [hro]
        split <;> rename_i hb <;> simp [aget, hb]
    · have hne : r ≠ r' := by
        rintro rfl
        exact hn.1 (List.mem_map.2 ⟨(k, r), h', rfl⟩)
      simp only [callΔ]
      split
      · exact aget_callΔ hn.2 h'
      · split <;> simp only [aget, hne, if_false] <;> exact aget_callΔ hn.2 h'

theorem aget_callΔ_out {m : Nat → Nat} {ro : List Nat} {csg' : Sg} : ∀ {km : List (Nat × Nat)} {r : Nat}, r ∉ km.map (·.2) → aget (callΔ m ro csg' km) r = none
  | [], _, _ => rfl
  | (k1, r1) :: l, r, hr => by
    simp only [List.map_cons, List.mem_cons, not_or] at hr
    simp only [callΔ]
    split
    · exact aget_callΔ_out hr.2
    · split <;> simp only [aget, hr.1, if_false] <;> exact aget_callΔ_out hr.2

theorem roOk_spec {csg csg' : Sg} : ∀ {ro : List Nat}, roOk csg csg' ro → ∀ {k : Nat}, k ∈ ro → ∃ b, Sg.get csg k = some b ∧ Sg.get csg' k = some b
  | [], _, _, h => by simp at h
  | k' :: l, hr, k, h => by
    rcases List.mem_cons.1 h with h' | h'
    · subst h'
      obtain ⟨⟨h1, h2⟩, _⟩ := hr
      obtain ⟨b, hb⟩ := Option.isSome_iff_exists.1 h1
      exact ⟨b, hb, by rw [h2, hb]⟩
    · exact roOk_spec hr.2 h'

theorem get_mem : ∀ {sg : Sg} {k : Nat} {b : Box}, Sg.get sg k = some b → (k, some b) ∈ sg := by
  intro sg k b h
  rw [Sg.get_eq] at h
  cases hg : aget sg k with
  | none => rw [hg] at h; simp at h
  | some x =>
    rw [hg] at h
    simp at h
    subst h
    exact aget_mem hg

/-- A call, by its contract, whoever calls. -/
theorem call_core {g : FuncId} {km : List (Nat × Nat)} {csg csg' : Sg} {args : List V} {v : V} {ro : List Nat} {m : Nat → Nat} (hm : renL km = m)
    (hd : DC P g [] args csg v csg') (n1 : nodupB (km.map (·.1)) = true) (n2 : nodupB (km.map (·.2)) = true)
    (hpass : (csg.all fun e => (keysL km).contains e.1) = true) (hro : roOk csg csg' ro)
    (hcl : (csg'.all fun e => match e.2 with | some b => b.idsIn (keysL km) | none => true) = true) (hv : v.idsIn (keysL km) = true)
    {Fr : Nat → Prop} {ρ : Rho} {w : World} {sg : Sg} {us : List Value} (h3 : SgRel w Fr ρ sg) (hreps : VReps w (okOf w Fr ρ) ρ (V.ren.rens m args) us)
    (hbox : ∀ {k r : Nat}, (k, r) ∈ km → ∀ {b : Box}, Sg.get csg k = some b → Sg.get sg r = some (b.ren m)) (hfresh : ∀ {k r : Nat}, (k, r) ∈ km → Sg.get csg k = none → Fresh ρ sg r) :
    Calls P g us.toArray w fun e w' => ∃ u ρ', e = .returned u ∧ Evo w ρ w' ρ' ∧ VRep w' (okOf w' Fr ρ') ρ' (v.ren m) u ∧ SgRel w' Fr ρ' (callΔ m ro csg' km ++ sg) ∧ ∀ r s L, ρ' r s = some L → ρ r s = some L ∨ r ∈ callN csg km := by
  -- facts on names
  have mk : ∀ {k r : Nat}, (k, r) ∈ km → m k = r := fun {k r} h => by
    rw [← hm, renL, aget_of_mem n1 h]; rfl
  have keyOf : ∀ {k : Nat}, k ∈ keysL km → ∃ r, (k, r) ∈ km := fun {k} h => by
    obtain ⟨p, hp, rfl⟩ := List.mem_map.1 h
    exact ⟨p.2, hp⟩
  have inKey : ∀ {k r : Nat}, (k, r) ∈ km → k ∈ keysL km := fun h => List.mem_map.2 ⟨_, h, rfl⟩
  have csgKey : ∀ {k : Nat} {b : Box}, Sg.get csg k = some b → k ∈ keysL km := fun {k b} h => by
    have := List.all_eq_true.1 hpass _ (get_mem h)
    simpa using this
  have inj2 : ∀ {k k' r : Nat}, (k, r) ∈ km → (k', r) ∈ km → k = k' := fun {k k' r} h h' => by
    have e1 := inv_of_mem n2 h
    rw [inv_of_mem n2 h'] at e1
    exact (Option.some.inj e1).symm
  -- the callee's view
  let ρc : Rho := fun k s => match aget km k with | some r => ρ r s | none => none
  have ρc_of : ∀ {k r : Nat}, (k, r) ∈ km → ∀ s, ρc k s = ρ r s := fun {k r} h s => by simp only [ρc, aget_of_mem n1 h]
  have ρc_some : ∀ {k : Nat} {s : Sub} {L : Loc}, ρc k s = some L → ∃ r, (k, r) ∈ km ∧ ρ r s = some L := fun {k s L} h => by
    simp only [ρc] at h
    split at h
    · rename_i r hr; exact ⟨r, aget_mem hr, h⟩
    · cases h
  let Frc : Nat → Prop := fun b => Fr b ∨ (Owned ρ b ∧ ¬ Owned ρc b)
  have ownc : ∀ {b : Nat}, Owned ρc b → Owned ρ b := by
    rintro b ⟨k, s, L, hL, hc, hb⟩
    obtain ⟨r, _, hr⟩ := ρc_some hL
    exact ⟨r, s, L, hr, hc, hb⟩
  have okc : ∀ b, okOf w Fr ρ b → okOf w Frc ρc b := by
    rintro b ⟨hb1, hb2, hb3⟩
    refine ⟨hb1, ?_, fun h => hb3 (ownc h)⟩
    rintro (h | h)
    · exact hb2 h
    · exact hb3 h.1
  have hall : VReps w (okOf w Frc ρc) ρc args us := by
    refine VReps.mono (fun b hb => ⟨okc b hb, rfl⟩) (VReps.ren hreps) (fun r s L _ hL => ?_)
    obtain ⟨r', hr', hL'⟩ := ρc_some hL
    rw [mk hr']; exact hL'
  have hsgc : SgRel w Frc ρc csg := by
    refine ⟨fun k b hb => ?_, fun k s L hL => ?_, fun k s L k' s' L' hL hL' hc hc' hbl => ?_, fun b hb => ?_, fun b hb => ?_⟩
    · obtain ⟨r, hkr⟩ := keyOf (csgKey hb)
      obtain ⟨L, hL⟩ := h3.box r _ (hbox hkr hb)
      refine ⟨L, BoxRep.mono (ρ := fun r s => ρ (m r) s) (fun b hb => ⟨okc b hb, rfl⟩) (fun r' s L' _ hL' => ?_) (fun s => ?_) (fun _ _ _ _ => rfl) (BoxRep.ren (m := m) (by rw [mk hkr]; exact hL))⟩
      · obtain ⟨r2, hr2, hL2⟩ := ρc_some hL'
        simp only [mk hr2]; exact hL2
      · simp only [ρc_of hkr, mk hkr]
    · obtain ⟨r, hkr, hr⟩ := ρc_some hL
      cases hg : Sg.get csg k with
      | some b => exact ⟨b, rfl⟩
      | none =>
        have := (hfresh hkr hg).1 s
        rw [hr] at this; cases this
    · obtain ⟨r, hkr, hr⟩ := ρc_some hL
      obtain ⟨r', hkr', hr'⟩ := ρc_some hL'
      obtain ⟨e1, e2⟩ := h3.inj _ _ _ _ _ _ hr hr' hc hc' hbl
      subst e1
      exact ⟨inj2 hkr hkr', e2⟩
    · have := h3.own b (ownc hb)
      refine ⟨?_, this.2⟩
      rintro (h | h)
      · exact this.1 h
      · exact h.2 hb
    · rcases hb with h | h
      · exact h3.fr b h
      · exact (h3.own b h.1).2
  have hcall := hd Frc ρc w _ hall hsgc (fun g x hg => by simp [Env.get] at hg)
  refine hcall.mono ?_
  rintro e w' ⟨u, ρc', rfl, hevo, hvr, hsg', hgrow⟩
  -- the caller's view, afterwards
  let ρ' : Rho := fun r s => match invL km r with | some k => ρc' k s | none => ρ r s
  have ρ'_in : ∀ {k r : Nat}, (k, r) ∈ km → ∀ s, ρ' r s = ρc' k s := fun {k r} h s => by simp only [ρ', inv_of_mem n2 h]
  have ρ'_out : ∀ {r : Nat}, invL km r = none → ∀ s, ρ' r s = ρ r s := fun {r} h s => by simp only [ρ', h]
  have inv_cases : ∀ r, (∃ k, (k, r) ∈ km) ∨ invL km r = none := fun r => by
    cases h : invL km r with
    | none => exact .inr rfl
    | some k => exact .inl ⟨k, mem_of_inv h⟩
  have hnin : ∀ {r : Nat}, invL km r = none → ∀ k, (k, r) ∉ km := fun {r} h k hk => by rw [inv_of_mem n2 hk] at h; cases h
  -- memory that is not handed over
  have hother : ∀ {r : Nat} {s : Sub} {L : Loc}, invL km r = none → ρ r s = some L → 0 < L.cap → ¬ Owned ρc L.blk ∧ Frc L.blk ∧ L.blk < w.heap.size := by
    intro r s L hr hL hc
    have hown : Owned ρ L.blk := ⟨r, s, L, hL, hc, rfl⟩
    have hnot : ¬ Owned ρc L.blk := by
      rintro ⟨k, s', L', hL', hc', hb'⟩
      obtain ⟨r', hkr', hr'⟩ := ρc_some hL'
      obtain ⟨e1, _⟩ := h3.inj _ _ _ _ _ _ hr' hL hc' hc hb'
      subst e1
      exact hnin hr _ hkr'
    exact ⟨hnot, .inr ⟨hown, hnot⟩, (h3.own _ hown).2⟩
  have hown' : ∀ {b : Nat}, Owned ρ' b → Owned ρc' b ∨ (Owned ρ b ∧ ¬ Owned ρc b) := by
    rintro b ⟨r, s, L, hL, hc, rfl⟩
    rcases inv_cases r with ⟨k, hk⟩ | h
    · rw [ρ'_in hk] at hL
      exact .inl ⟨k, s, L, hL, hc, rfl⟩
    · rw [ρ'_out h] at hL
      exact .inr ⟨⟨r, s, L, hL, hc, rfl⟩, (hother h hL hc).1⟩
  have okc' : ∀ b, okOf w' Frc ρc' b → okOf w' Fr ρ' b := by
    rintro b ⟨hb1, hb2, hb3⟩
    refine ⟨hb1, fun h => hb2 (.inl h), fun h => ?_⟩
    rcases hown' h with h | h
    · exact hb3 h
    · exact hb2 (.inr h)
  have hevo' : Evo w ρ w' ρ' := by
    refine ⟨hevo.os, hevo.tape, hevo.output, hevo.size, fun b hb hno => ?_⟩
    have := hevo.same b hb (fun h => hno (ownc h))
    refine ⟨this.1, fun h => ?_⟩
    rcases hown' h with h | h
    · exact this.2 h
    · exact hno h.1
  have vback : ∀ {v : V} {u : Value}, v.idsIn (keysL km) = true → VRep w' (okOf w' Frc ρc') ρc' v u → VRep w' (okOf w' Fr ρ') ρ' (v.ren m) u := by
    intro v u hids hvr
    refine VRep.unren (VRep.mono (fun b hb => ⟨okc' b hb, rfl⟩) hvr (fun r s L hmn hL => ?_))
    obtain ⟨r', hr'⟩ := keyOf (idsIn_men hids hmn)
    rw [mk hr', ρ'_in hr'] at hL
    exact hL
  have hget : ∀ {k r : Nat}, (k, r) ∈ km → Sg.get (callΔ m ro csg' km ++ sg) r = (Sg.get csg' k).map (Box.ren m) := by
    intro k r hkr
    rw [Sg.get_eq, aget_append, aget_callΔ n2 hkr]
    split
    · rename_i hc
      obtain ⟨b, hb1, hb2⟩ := roOk_spec hro (k := k) (by simpa using hc)
      rw [Option.none_or, ← Sg.get_eq, hb2, hbox hkr hb1]; rfl
    · simp
  have hgeto : ∀ {r : Nat}, invL km r = none → Sg.get (callΔ m ro csg' km ++ sg) r = Sg.get sg r := by
    intro r hr
    have : r ∉ km.map (·.2) := fun h => by
      obtain ⟨⟨k, r'⟩, hp, rfl⟩ := List.mem_map.1 h
      exact hnin hr _ hp
    rw [Sg.get_eq, aget_append, aget_callΔ_out this, Option.none_or, ← Sg.get_eq]
  have hsgf : SgRel w' Fr ρ' (callΔ m ro csg' km ++ sg) := by
    refine ⟨fun r b hb => ?_, fun r s L hL => ?_, fun r s L r' s' L' hL hL' hc hc' hbl => ?_, fun b hb => ?_, fun b hb => ?_⟩
    · rcases inv_cases r with ⟨k, hk⟩ | h
      · rw [hget hk] at hb
        simp only [Option.map_eq_some_iff] at hb
        obtain ⟨b', hb', rfl⟩ := hb
        obtain ⟨L, hL⟩ := hsg'.box k b' hb'
        have hids : b'.idsIn (keysL km) = true := by
          have := List.all_eq_true.1 hcl _ (get_mem hb')
          exact this
        rw [← mk hk]
        refine ⟨L, BoxRep.unren (BoxRep.mono (ρ := ρc') (fun b hb => ⟨okc' b hb, rfl⟩) (fun r' s L' hmn hL' => ?_) (fun s => ?_) (fun _ _ _ _ => rfl) hL)⟩
        · obtain ⟨r2, hr2⟩ := keyOf (Box.idsIn_men hids hmn)
          simp only [mk hr2, ρ'_in hr2] at hL'
          exact hL'
        · simp only [mk hk, ρ'_in hk]
      · rw [hgeto h] at hb
        obtain ⟨L, hL⟩ := h3.box r b hb
        refine ⟨L, BoxRep.mono (fun b hb => hevo'.ok Fr b hb) (fun r' s L' hmn hL' => ?_) (fun s => ρ'_out h s) (fun s L' hL' hc' => ?_) hL⟩
        · rcases inv_cases r' with ⟨k, hk⟩ | h'
          · rw [ρ'_in hk] at hL'
            rcases hgrow k s L' hL' with h6 | h6
            · rwa [ρc_of hk] at h6
            · cases hg : Sg.get csg k with
              | none =>
                have := (hfresh hk hg).2 r b hb
                rw [this] at hmn; cases hmn
              | some b2 =>
                obtain ⟨L2, hL2⟩ := hsgc.box k b2 hg
                have := hL2.loc
                rw [h6] at this; cases this
          · rwa [ρ'_out h'] at hL'
        · obtain ⟨q1, _, q3⟩ := hother h hL' hc'
          exact (hevo.same _ q3 q1).1
    · rcases inv_cases r with ⟨k, hk⟩ | h
      · rw [ρ'_in hk] at hL
        obtain ⟨b, hb⟩ := hsg'.dom k s L hL
        exact ⟨b.ren m, by rw [hget hk, hb]; rfl⟩
      · rw [ρ'_out h] at hL
        rw [hgeto h]
        exact h3.dom r s L hL
    · have cross : ∀ {r r' : Nat} {s s' : Sub} {L L' : Loc} {k : Nat}, (k, r) ∈ km → invL km r' = none → ρc' k s = some L → ρ r' s' = some L' → 0 < L.cap → 0 < L'.cap → L.blk = L'.blk → False := by
        intro r r' s s' L L' k hk h hL hL' hc hc' hbl
        obtain ⟨_, q2, _⟩ := hother h hL' hc'
        exact (hsg'.own L.blk ⟨k, s, L, hL, hc, rfl⟩).1 (by rw [hbl]; exact q2)
      rcases inv_cases r with ⟨k, hk⟩ | h <;> rcases inv_cases r' with ⟨k', hk'⟩ | h'
      · rw [ρ'_in hk] at hL
        rw [ρ'_in hk'] at hL'
        obtain ⟨e1, e2⟩ := hsg'.inj _ _ _ _ _ _ hL hL' hc hc' hbl
        subst e1
        refine ⟨?_, e2⟩
        rw [← mk hk, ← mk hk']
      · rw [ρ'_in hk] at hL
        rw [ρ'_out h'] at hL'
        exact (cross hk h' hL hL' hc hc' hbl).elim
      · rw [ρ'_out h] at hL
        rw [ρ'_in hk'] at hL'
        exact (cross hk' h hL' hL hc' hc hbl.symm).elim
      · rw [ρ'_out h] at hL
        rw [ρ'_out h'] at hL'
        exact h3.inj _ _ _ _ _ _ hL hL' hc hc' hbl
    · rcases hown' hb with h | h
      · have := hsg'.own b h
        exact ⟨fun hf => this.1 (.inl hf), this.2⟩
      · have := h3.own b h.1
        exact ⟨this.1, Nat.lt_of_lt_of_le this.2 hevo.size⟩
    · exact Nat.lt_of_lt_of_le (h3.fr b hb) hevo.size
  refine ⟨u, ρ', rfl, hevo', vback hv hvr, hsgf, fun r s L hL => ?_⟩
  rcases inv_cases r with ⟨k, hk⟩ | h
  · rw [ρ'_in hk] at hL
    rcases hgrow k s L hL with h6 | h6
    · rw [ρc_of hk] at h6; exact .inl h6
    · cases hg : Sg.get csg k with
      | none => exact .inr (callN_mem hk hg)
      | some b2 =>
        obtain ⟨L2, hL2⟩ := hsgc.box k b2 hg
        have := hL2.loc
        rw [h6] at this; cases this
  · rw [ρ'_out h] at hL; exact .inl hL
end
end Go.DW

/- Letting go of owned memory, names for nothing, and forgetting. -/
namespace Go.DW
section
variable {P : Program}

/-- The names without those of 'fz', and with new ones ('gh') for arrays of no elements. -/
def dropG (fz : List Nat) (gh : List (Nat × Nat)) (ρ : Rho) : Rho := fun r s =>
  match aget gh r with
  | some es => match s with
    | none => some ⟨0, 0, es, 0⟩
    | some _ => none
  | none => if fz.contains r then none else ρ r s

def ghG : List (Nat × Nat) → Sg
  | [] => []
  | (k, es) :: l => (k, some (.pv es [])) :: ghG l

def fzG : List Nat → Sg
  | [] => []
  | r :: l => (r, none) :: fzG l

theorem aget_ghG : ∀ (gh : List (Nat × Nat)) (r : Nat), aget (ghG gh) r = (aget gh r).map fun es => some (.pv es [])
  | [], _ => rfl
  | (k, es) :: l, r => by
    simp only [ghG, aget]
    split
    · rfl
    · exact aget_ghG l r

theorem aget_fzG : ∀ (fz : List Nat) (r : Nat), aget (fzG fz) r = if fz.contains r then some none else none
  | [], _ => rfl
  | k :: l, r => by
    simp only [fzG, aget]
    split
    · rename_i e; subst e; simp
    · rename_i e; rw [aget_fzG l r]; simp [e]

variable {w : World} {Fr : Nat → Prop} {ρ : Rho} {sg : Sg} {fz : List Nat} {gh : List (Nat × Nat)}

theorem dropG_some {r : Nat} {s : Sub} {L : Loc} (h : dropG fz gh ρ r s = some L) : (∃ es, aget gh r = some es ∧ s = none ∧ L = ⟨0, 0, es, 0⟩) ∨ (aget gh r = none ∧ fz.contains r = false ∧ ρ r s = some L) := by
  unfold dropG at h
  split at h
  · rename_i es he
    split at h
    · cases h; exact .inl ⟨es, he, rfl, rfl⟩
    · cases h
  · rename_i he
    split at h
    · cases h
    · rename_i hf
      exact .inr ⟨he, by simpa using hf, h⟩

theorem dropG_own {b : Nat} (h : Owned (dropG fz gh ρ) b) : ∃ r s L, ρ r s = some L ∧ 0 < L.cap ∧ L.blk = b ∧ fz.contains r = false := by
  obtain ⟨r, s, L, hL, hc, hb⟩ := h
  rcases dropG_some hL with ⟨es, _, _, rfl⟩ | ⟨_, h2, h3⟩
  · simp at hc
  · exact ⟨r, s, L, h3, hc, hb, h2⟩

theorem dropG_ok {b : Nat} (h : okOf w Fr ρ b) : okOf w Fr (dropG fz gh ρ) b :=
  ⟨h.1, h.2.1, fun ho => by obtain ⟨r, s, L, h1, h2, h3, _⟩ := dropG_own ho; exact h.2.2 ⟨r, s, L, h1, h2, h3⟩⟩

theorem sgG_get (r : Nat) : Sg.get (ghG gh ++ (fzG fz ++ sg)) r = match aget gh r with
    | some es => some (.pv es [])
    | none => if fz.contains r then none else Sg.get sg r := by
  rw [Sg.get_eq, aget_append, aget_append, aget_ghG, aget_fzG]
  cases h : aget gh r with
  | some es => rfl
  | none =>
    cases hf : fz.contains r with
    | true => rfl
    | false => simp [Sg.get_eq]

theorem SgRel.dropG (h : SgRel w Fr ρ sg) (hf : ∀ k, k ∈ gh.map (·.1) → Fresh ρ sg k) : SgRel w Fr (dropG fz gh ρ) (ghG gh ++ (fzG fz ++ sg)) := by
  refine ⟨fun r b hb => ?_, fun r s L hL => ?_, fun r s L r' s' L' hL hL' hc hc' hbl => ?_, fun b hb => ?_, h.fr⟩
  · rw [sgG_get] at hb
    split at hb
    · rename_i es he
      cases hb
      refine ⟨⟨0, 0, es, 0⟩, by simp [Go.DW.dropG, he], fun _ => rfl, fun _ => ⟨by simp [Box.elems, pcells], by simp [Box.elems, pcells], fun hc => by simp at hc⟩, fun _ i j cs els hi => by simp [Box.elems, pcells] at hi, fun ents he => by cases he⟩
    · rename_i he
      split at hb
      · cases hb
      · rename_i hfz
        obtain ⟨L, hL⟩ := h.box r b hb
        refine ⟨L, hL.mono (fun b hb => ⟨dropG_ok hb, rfl⟩) (fun r' s L' hm hL' => ?_) (fun s => by simp only [Go.DW.dropG, he, hfz]; rfl) (fun _ _ _ _ => rfl)⟩
        rcases dropG_some hL' with ⟨es, h1, _, _⟩ | ⟨_, _, h3⟩
        · have : r' ∈ gh.map (·.1) := List.mem_map.2 ⟨_, aget_mem h1, rfl⟩
          rw [(hf r' this).2 r b hb] at hm; cases hm
        · exact h3
  · rw [sgG_get]
    rcases dropG_some hL with ⟨es, h1, _, _⟩ | ⟨h1, h2, h3⟩
    · rw [h1]; exact ⟨_, rfl⟩
    · rw [h1]; simp only [h2]; exact h.dom r s L h3
  · rcases dropG_some hL with ⟨es, _, _, rfl⟩ | ⟨_, _, h3⟩
    · simp at hc
    · rcases dropG_some hL' with ⟨es, _, _, rfl⟩ | ⟨_, _, h3'⟩
      · simp at hc'
      · exact h.inj _ _ _ _ _ _ h3 h3' hc hc' hbl
  · obtain ⟨r, s, L, h1, h2, h3, _⟩ := dropG_own hb
    exact h.own b ⟨r, s, L, h1, h2, h3⟩

mutual
/-- What a value may be taken for, when names are let go. -/
inductive Cv (sg : Sg) (fz gk : List Nat) : V → V → Prop where
  | same {v : V} (h : (gk.all fun k => !v.men k) = true) : Cv sg fz gk v v
  | fz {r n es : Nat} {els : List PV} (hf : fz.contains r = true) (hb : Sg.get sg r = some (.pv es els)) (hn : n = els.length) : Cv sg fz gk (.os r none 0 n) (.p (.sl els))
  | fzi {r i n es : Nat} {els : List PV} (hf : fz.contains r = true) (hb : Sg.get sg r = some (.pv es els)) (hn : i + n ≤ els.length) : Cv sg fz gk (.os r none i n) (.p (.sl ((els.drop i).take n)))
  | nil : Cv sg fz gk .nils (.p (.sl []))
  | gho {k : Nat} (hk : gk.contains k = true) : Cv sg fz gk .nils (.os k none 0 0)
  | junk {v : V} : Cv sg fz gk v .junk
  | agg {l l' : List V} (h : Cvs sg fz gk l l') : Cv sg fz gk (.agg l) (.agg l')
  | aggp {l : List V} {xs : List PV} (h : Cvs sg fz gk l (xs.map .p)) : Cv sg fz gk (.agg l) (.p (.ag xs))
  | tup {l l' : List V} (h : Cvs sg fz gk l l') : Cv sg fz gk (.tup l) (.tup l')
  | fn {f : Nat} {l l' : List V} (h : Cvs sg fz gk l l') : Cv sg fz gk (.fn f l) (.fn f l')
inductive Cvs (sg : Sg) (fz gk : List Nat) : List V → List V → Prop where
  | nil : Cvs sg fz gk [] []
  | cons {x y : V} {l l' : List V} (h : Cv sg fz gk x y) (hs : Cvs sg fz gk l l') : Cvs sg fz gk (x :: l) (y :: l')
end

theorem freeze_rep (hsg : SgRel w Fr ρ sg) {r i n es : Nat} {els : List PV} {u : Value} (hf : fz.contains r = true) (hb : Sg.get sg r = some (.pv es els)) (hn : i + n ≤ els.length) (h : VRep w (okOf w Fr ρ) ρ (.os r none i n) u) :
    PRep w (okOf w Fr (dropG fz gh ρ)) (.sl ((els.drop i).take n)) u := by
  cases h with
  | os h =>
    obtain ⟨L, hbox⟩ := hsg.box _ _ hb
    have harr : ArrRep w (okOf w Fr ρ) ρ r L (pcells els) := hbox.arr (by intro e h; cases h)
    obtain ⟨q1, rfl, q3⟩ := h L hbox.loc
    obtain ⟨_, z1, z2⟩ := harr.slice hn q3
    have hl : ((els.drop i).take n).length = n := by simp; omega
    refine SliceRep.rep (es := L.es) ⟨by rw [hl]; omega, z1, fun hne => ?_⟩ hl.symm
    obtain ⟨us, y1, y2, y3⟩ := z2 hne
    have hcap : 0 < L.cap := by
      rcases Nat.eq_zero_or_pos n with h0 | h0
      · subst h0; simp at hne
      · omega
    have hown := hsg.own L.blk ⟨r, none, L, hbox.loc, hcap, rfl⟩
    refine ⟨_, _, us, y1, ⟨hown.2, hown.1, fun ho => ?_⟩, y2.mono (fun b hb => ⟨dropG_ok hb, rfl⟩), y3⟩
    obtain ⟨r', s', L', h1, h2, h3, h4⟩ := dropG_own ho
    obtain ⟨e1, _⟩ := hsg.inj _ _ _ _ _ _ h1 hbox.loc h2 hcap h3
    subst e1
    rw [hf] at h4; cases h4

mutual
theorem Cv.rep (hsg : SgRel w Fr ρ sg) : ∀ {x y : V} {u : Value}, Cv sg fz (gh.map (·.1)) x y → VRep w (okOf w Fr ρ) ρ x u → VRep w (okOf w Fr (dropG fz gh ρ)) (dropG fz gh ρ) y u
  | _, _, _, .same hm, h => h.mono (fun b hb => ⟨dropG_ok hb, rfl⟩) (fun r s L hmn hL => by
      rcases dropG_some hL with ⟨es, h1, _, _⟩ | ⟨_, _, h3⟩
      · have := List.all_eq_true.1 hm r (List.mem_map.2 ⟨_, aget_mem h1, rfl⟩)
        rw [hmn] at this; simp at this
      · exact h3)
  | _, _, _, .fz hf hb hn, h => by
    have := freeze_rep (gh := gh) hsg hf hb (i := 0) (n := _) (by omega) h
    subst hn
    simpa using VRep.p this
  | _, _, _, .fzi hf hb hn, h => .p (freeze_rep hsg hf hb hn h)
  | _, _, _, .nil, .nils a => .p (.sl0 a 0)
  | _, _, _, .gho hk, .nils a => .os (fun L hL => by
      rcases dropG_some hL with ⟨es, _, _, rfl⟩ | ⟨h1, _, _⟩
      · simp
      · obtain ⟨v, hv⟩ := aget_some_of_key (l := gh) (List.contains_iff_mem.1 hk)
        rw [h1] at hv; cases hv)
  | _, _, _, .junk, _ => .junk _
  | _, _, _, .agg hc, .agg h => .agg (Cvs.rep hsg hc h)
  | _, _, _, .aggp hc, .agg h => .p (.ag _ _ (VReps.to_p (Cvs.rep hsg hc h)))
  | _, _, _, .tup hc, .tup h => .tup (Cvs.rep hsg hc h)
  | _, _, _, .fn hc, .fn h => .fn (Cvs.rep hsg hc h)
theorem Cvs.rep (hsg : SgRel w Fr ρ sg) : ∀ {l l' : List V} {us : List Value}, Cvs sg fz (gh.map (·.1)) l l' → VReps w (okOf w Fr ρ) ρ l us → VReps w (okOf w Fr (dropG fz gh ρ)) (dropG fz gh ρ) l' us
  | _, _, _, .nil, .nil => .nil
  | _, _, _, .cons hc hcs, .cons h hs => .cons (Cv.rep hsg hc h) (Cvs.rep hsg hcs hs)
end

/-! ### Forgetting and renaming -/
def envLe (m : Nat → Nat) (ks : List Nat) (sg : Sg) (fz gk : List Nat) (e : Env) : Env → Prop
  | [] => True
  | (t, v) :: l => (∃ x, Env.get e t = some x ∧ Cv sg fz gk x (v.ren m) ∧ v.idsIn ks = true) ∧ envLe m ks sg fz gk e l

/-- A box may be taken for another: cell by cell. -/
inductive Bv (sg : Sg) (fz gk : List Nat) : Box → Box → Prop where
  | same {b : Box} : Bv sg fz gk b b
  | vs {es : Nat} {els els' : List (List V)} (h : els.length = els'.length) (hc : ∀ (i : Nat) l l', els[i]? = some l → els'[i]? = some l' → Cvs sg fz gk l l') : Bv sg fz gk (.vs es els) (.vs es els')
  | one {es : Nat} {l l' : List V} (hc : Cvs sg fz gk l l') : Bv sg fz gk (.vs es [l]) (.vs es [l'])
  | pv {es : Nat} {l : List V} {x : PV} (hx : x.cells.length = l.length) (hc : Cvs sg fz gk l (x.cells.map .p)) : Bv sg fz gk (.vs es [l]) (.pv es [x])

def sgLe (m : Nat → Nat) (km : List (Nat × Nat)) (sg1 : Sg) (fz gk : List Nat) (sg2 : Sg) : Sg → Prop
  | [] => True
  | (_, none) :: l => sgLe m km sg1 fz gk sg2 l
  | (k, some b) :: l => ((keysL km).contains k = true ∧ b.idsIn (keysL km) = true ∧ ∃ b1, Sg.get sg2 (m k) = some b1 ∧ Bv sg1 fz gk b1 (b.ren m)) ∧ sgLe m km sg1 fz gk sg2 l

structure Le (fz : List Nat) (gh : List (Nat × Nat)) (km : List (Nat × Nat)) (S T : St) : Prop where
  n1 : nodupB (km.map (·.1)) = true
  n2 : nodupB (km.map (·.2)) = true
  old : (km.all fun p => decide (p.1 < 1000) || p.1 == p.2) = true
  box : (km.all fun p => (Sg.get T.sg p.1).isSome) = true
  gho : ((gh.map (·.1)).all fun k => decide (k < 1000) && (Sg.get S.sg k).isNone && S.sg.all fun e => match e.2 with | some b => !b.men k | none => true) = true
  env : envLe (renL km) (keysL km) S.sg fz (gh.map (·.1)) S.env T.env
  sg : sgLe (renL km) km S.sg fz (gh.map (·.1)) (ghG gh ++ (fzG fz ++ S.sg)) T.sg

theorem envLe_spec {m : Nat → Nat} {ks : List Nat} {sg : Sg} {fz gk : List Nat} {e : Env} : ∀ {l : Env}, envLe m ks sg fz gk e l → ∀ {t : Nat} {v : V}, (t, v) ∈ l → ∃ x, Env.get e t = some x ∧ Cv sg fz gk x (v.ren m) ∧ v.idsIn ks = true
  | [], _, _, _, h => by simp at h
  | (t', v') :: l, h, t, v, hm => by
    rcases List.mem_cons.1 hm with h' | h'
    · cases h'; exact h.1
    · exact envLe_spec h.2 h'

theorem sgLe_spec {m : Nat → Nat} {km : List (Nat × Nat)} {sg1 sg2 : Sg} {fz gk : List Nat} : ∀ {l : Sg}, sgLe m km sg1 fz gk sg2 l → ∀ {k : Nat} {b : Box}, (k, some b) ∈ l → (keysL km).contains k = true ∧ b.idsIn (keysL km) = true ∧ ∃ b1, Sg.get sg2 (m k) = some b1 ∧ Bv sg1 fz gk b1 (b.ren m)
  | [], _, _, _, h => by simp at h
  | (_, none) :: l, h, k, b, hm => by
    rcases List.mem_cons.1 hm with h' | h'
    · cases h'
    · exact sgLe_spec (by simpa [sgLe] using h) h'
  | (k', some b') :: l, h, k, b, hm => by
    rcases List.mem_cons.1 hm with h' | h'
    · cases h'; exact h.1
    · exact sgLe_spec h.2 h'

theorem Cv.own {sg : Sg} {fz gk : List Nat} {x : V} {els : List PV} (h : Cv sg fz gk x (.own els)) : x = .own els := by cases h; rfl

/-- The cells of an array, taken for others, within the same names. -/
theorem ArrRep.cv (hsg : SgRel w Fr ρ sg) {r : Nat} {L : Loc} {els els' : List (List V)} (hsz : ∀ cs ∈ els', cs.length = L.es) (hlen : els'.length = els.length) (hself : ∀ s, dropG fz gh ρ r s = ρ r s)
    (hc : ∀ (i : Nat) l l', els[i]? = some l → els'[i]? = some l' → Cvs sg fz (gh.map (·.1)) l l') (h : ArrRep w (okOf w Fr ρ) ρ r L els) :
    ArrRep w (okOf w Fr (dropG fz gh ρ)) (dropG fz gh ρ) r L els' := by
  have get2 : ∀ {l l' : List V}, Cvs sg fz (gh.map (·.1)) l l' → ∀ {j : Nat} {y : V}, l'[j]? = some y → ∃ x, l[j]? = some x ∧ Cv sg fz (gh.map (·.1)) x y := by
    intro l l' h
    induction l generalizing l' with
    | nil => cases h; intro j y hy; simp at hy
    | cons a l ih =>
      cases h with
      | cons h hs =>
        intro j y hy
        cases j with
        | zero => simp at hy; subst hy; exact ⟨a, by simp, h⟩
        | succ j => simp at hy; obtain ⟨x, hx, hc⟩ := ih hs hy; exact ⟨x, by simpa using hx, hc⟩
  refine ⟨by rw [hlen]; exact h.len, hsz, fun hcap => ?_⟩
  obtain ⟨c, T, h1, h3, h4⟩ := h.mem hcap
  refine ⟨c, T, h1, h3, fun i j cs' y hi hj => ?_⟩
  have hi2 : i < els.length := by have := (List.getElem?_eq_some_iff.1 hi).1; omega
  have hcs := List.getElem?_eq_getElem hi2
  obtain ⟨x, hx, hcv⟩ := get2 (hc i _ _ hcs hi) hj
  obtain ⟨u, hu, hv⟩ := h4 i j _ x hcs hx
  refine ⟨u, hu, ?_⟩
  by_cases ho : ∃ e, y = .own e
  · obtain ⟨e, rfl⟩ := ho
    rw [hcv.own] at hv
    simp only [V.al] at hv ⊢
    refine hv.mono (fun b hb => ⟨dropG_ok hb, rfl⟩) (fun r' s L' hm hL' => ?_)
    simp [V.men] at hm
    subst hm
    rw [hself] at hL'; exact hL'
  · have e1 : y.al r i j = y := by cases y <;> simp_all [V.al]
    by_cases hox : ∃ e, x = .own e
    · obtain ⟨e, rfl⟩ := hox
      cases hcv with
      | same => exact absurd ⟨e, rfl⟩ ho
      | junk => rw [e1]; exact .junk _
    · have e2 : x.al r i j = x := by cases x <;> simp_all [V.al]
      rw [e2] at hv
      rw [e1]
      exact hcv.rep hsg hv
end
end Go.DW

/- The call rule; states taken for weaker ones. -/
namespace Go.DW
section
variable {P : Program}

mutual
theorem Cv.local {sg sg' : Sg} {fz gk : List Nat} (h : ∀ r ∈ fz, Sg.get sg' r = Sg.get sg r) : ∀ {x y : V}, Cv sg fz gk x y → Cv sg' fz gk x y
  | _, _, .same hm => .same hm
  | _, _, .fz hf hb hn => .fz hf (by rw [h _ (List.contains_iff_mem.1 hf)]; exact hb) hn
  | _, _, .fzi hf hb hn => .fzi hf (by rw [h _ (List.contains_iff_mem.1 hf)]; exact hb) hn
  | _, _, .nil => .nil
  | _, _, .gho hk => .gho hk
  | _, _, .junk => .junk
  | _, _, .agg hc => .agg (Cvs.local h hc)
  | _, _, .aggp hc => .aggp (Cvs.local h hc)
  | _, _, .tup hc => .tup (Cvs.local h hc)
  | _, _, .fn hc => .fn (Cvs.local h hc)
theorem Cvs.local {sg sg' : Sg} {fz gk : List Nat} (h : ∀ r ∈ fz, Sg.get sg' r = Sg.get sg r) : ∀ {l l' : List V}, Cvs sg fz gk l l' → Cvs sg' fz gk l l'
  | _, _, .nil => .nil
  | _, _, .cons hc hs => .cons (Cv.local h hc) (Cvs.local h hs)
end

theorem fzG_get {sg : Sg} {fz : List Nat} (r : Nat) : Sg.get (fzG fz ++ sg) r = if fz.contains r then none else Sg.get sg r := by
  have := sgG_get (fz := fz) (gh := []) (sg := sg) r
  simpa [ghG, aget] using this

theorem Evo.undrop {w w' : World} {ρ ρ' : Rho} {fz : List Nat} (h : Evo w (dropG fz [] ρ) w' ρ') : Evo w ρ w' ρ' :=
  ⟨h.os, h.tape, h.output, h.size, fun b hb hn => h.same b hb (fun ho => by obtain ⟨r, s, L, h1, h2, h3, _⟩ := dropG_own ho; exact hn ⟨r, s, L, h1, h2, h3⟩)⟩

/-- A call, by its contract: the arrays of 'fz' are let go. -/
theorem la_call {o : Oper} {xs : List X} {g : FuncId} {km : List (Nat × Nat)} {csg csg' sg0 : Sg} {args argsR caps : List V} {v : V} {ro fz : List Nat}
    (hcomp : compileOp P o.op = some (.call, xs)) (hb : HasBody P g) (hd : DC P g [] args csg v csg')
    (hargs : Cvs sg0 fz [] (argsR ++ caps) (V.ren.rens (renL km) args)) (n1 : nodupB (km.map (·.1)) = true) (n2 : nodupB (km.map (·.2)) = true)
    (hpass : (csg.all fun e => (keysL km).contains e.1) = true) (hent : entOk (renL km) csg (fzG fz ++ sg0) km) (hro : roOk csg csg' ro)
    (hcl : (csg'.all fun e => match e.2 with | some b => b.idsIn (keysL km) | none => true) = true) (hv : v.idsIn (keysL km) = true) :
    LA P o xs (.fn g caps :: argsR) sg0 (callR csg km ++ fz) (callN csg km) (v.ren (renL km)) (callΔ (renL km) ro csg' km ++ fzG fz) := by
  intro Fr ρ w sg a env h1 h2 h3 h4 h5 next Q hn
  obtain ⟨c, fx, hop, hcal, hx⟩ := compile_call hcomp
  have hreps := cXs_rep h1 hx h2
  simp only [List.map_cons] at hreps
  cases hreps with
  | cons hf hargv =>
  cases hf' : a.eval fx with
  | func fn first captured =>
    rw [hf'] at hf
    cases hf with
    | fn hcaps =>
    rename_i us
    have app : ∀ {l2 : List V} {us2 : List Value}, VReps w (okOf w Fr ρ) ρ l2 us2 → ∀ {l : List V} {us : List Value}, VReps w (okOf w Fr ρ) ρ l us → VReps w (okOf w Fr ρ) ρ (l ++ l2) (us ++ us2) := by
      intro l2 us2 h2 l
      induction l with
      | nil => intro us h; cases h; exact h2
      | cons x l ih => intro us h; cases h with | cons h hs => exact .cons h (ih hs)
    have hall := app hcaps hargv
    have hfzeq : ∀ r ∈ fz, Sg.get sg r = Sg.get sg0 r := fun r hr => h4 r (by simp [hr])
    have h3' : SgRel w Fr (dropG fz [] ρ) (fzG fz ++ sg) := by
      have := h3.dropG (fz := fz) (gh := []) (by simp)
      simpa [ghG] using this
    have hcv := Cvs.rep (gh := []) h3 (Cvs.local hfzeq hargs) hall
    have hcore := call_core (w := w) (Fr := Fr) (sg := fzG fz ++ sg) (m := renL km) rfl hd n1 n2 hpass hro hcl hv h3' hcv (fun {k r} hkr {b} hb => by
      have e := entOk_spec hent hkr hb
      rw [fzG_get] at e ⊢
      rw [h4 r (by simp [callR_mem hkr hb])]
      exact e) (fun {k r} hkr hb => by
      have := h5 r (callN_mem hkr hb)
      refine ⟨fun s => ?_, fun r' b hb' => ?_⟩
      · cases hg : dropG fz [] ρ r s with
        | none => rfl
        | some L =>
          rcases dropG_some hg with ⟨es, h, _, _⟩ | ⟨_, _, h⟩
          · simp [aget] at h
          · rw [this.1 s] at h; cases h
      · rw [fzG_get] at hb'
        split at hb'
        · cases hb'
        · exact this.2 r' b hb')
    unfold Oper.wp
    rw [run_call hop hcal hf' hb w, Oper.upon_enter]
    refine hcore.mono ?_
    rintro e w' ⟨u, ρ', rfl, e1, e2, e3, e4⟩
    refine hn u w' ρ' e1.undrop e2 (by rw [List.append_assoc]; exact e3) (fun r s L hL => ?_)
    rcases e4 r s L hL with h | h
    · rcases dropG_some h with ⟨es, h, _, _⟩ | ⟨_, _, h⟩
      · simp [aget] at h
      · exact .inl h
    · exact .inr h
  | _ => rw [hf'] at hf; cases hf

/-! ### Weaker states -/
theorem VRep.sub {w : World} {ok : Nat → Prop} {ρ ρ' : Rho} {v : V} {u : Value} (h : VRep w ok ρ v u) (hs : ∀ r s L, ρ' r s = some L → ρ r s = some L) : VRep w ok ρ' v u :=
  h.mono (fun b hb => ⟨hb, rfl⟩) (fun r s L _ hL => hs r s L hL)

theorem env_mem {e : Env} {t : Nat} {v : V} (h : Env.get e t = some v) : (t, v) ∈ e := by
  rw [Env.get_eq] at h
  exact aget_mem h

theorem Bv.rep {w : World} {Fr : Nat → Prop} {ρ : Rho} {sg : Sg} {fz : List Nat} {gh : List (Nat × Nat)} (hsg : SgRel w Fr ρ sg) {r : Nat} {b b' : Box} {L : Loc} (hbv : Bv sg fz (gh.map (·.1)) b b')
    (hself : ∀ s, dropG fz gh ρ r s = ρ r s) (hmen : ∀ r' ∈ gh.map (·.1), b.men r' = false) (h : BoxRep w (okOf w Fr ρ) ρ r b L) : BoxRep w (okOf w Fr (dropG fz gh ρ)) (dropG fz gh ρ) r b' L := by
  have hsame : BoxRep w (okOf w Fr (dropG fz gh ρ)) (dropG fz gh ρ) r b L := by
    refine h.mono (fun b hb => ⟨dropG_ok hb, rfl⟩) (fun r' s L' hm hL' => ?_) hself (fun _ _ _ _ => rfl)
    rcases dropG_some hL' with ⟨es, h1, _, _⟩ | ⟨_, _, h3⟩
    · rw [hmen r' (List.mem_map.2 ⟨_, aget_mem h1, rfl⟩)] at hm; cases hm
    · exact h3
  have cvlen : ∀ {l l' : List V}, Cvs sg fz (gh.map (·.1)) l l' → l.length = l'.length := by
    intro l
    induction l with
    | nil => intro l' h; cases h; rfl
    | cons a l ih => intro l' h; cases h with | cons h hs => simp [ih hs]
  cases hbv with
  | same => exact hsame
  | @vs es els els' hlen hc =>
    have harr := h.arr (by intro e h; cases h)
    have hesz := h.esz (by intro e h; cases h)
    refine ⟨hsame.loc, fun _ => hesz, fun _ => ArrRep.cv (els := els) hsg (fun cs hcs => ?_) hlen.symm hself hc harr, fun _ i j cs e hi hj => ?_, fun ents he => by cases he⟩
    · obtain ⟨i, hi⟩ := List.mem_iff_getElem?.1 hcs
      have hi2 : i < els.length := by have := (List.getElem?_eq_some_iff.1 hi).1; rw [hlen]; exact this
      have := cvlen (hc i _ _ (List.getElem?_eq_getElem hi2) hi)
      rw [← this]
      exact harr.sz _ (List.mem_of_getElem? (List.getElem?_eq_getElem hi2))
    · simp only [Box.elems] at hi
      have hi2 : i < els.length := by have := (List.getElem?_eq_some_iff.1 hi).1; rw [hlen]; exact this
      have hcs := hc i _ _ (List.getElem?_eq_getElem hi2) hi
      have get2 : ∀ {l l' : List V}, Cvs sg fz (gh.map (·.1)) l l' → ∀ {j : Nat} {y : V}, l'[j]? = some y → ∃ x, l[j]? = some x ∧ Cv sg fz (gh.map (·.1)) x y := by
        intro l l' h
        induction l generalizing l' with
        | nil => cases h; intro j y hy; simp at hy
        | cons a l ih =>
          cases h with
          | cons h hs =>
            intro j y hy
            cases j with
            | zero => simp at hy; subst hy; exact ⟨a, by simp, h⟩
            | succ j => simp at hy; obtain ⟨x, hx, hc⟩ := ih hs hy; exact ⟨x, by simpa using hx, hc⟩
      obtain ⟨x, hx, hcv⟩ := get2 hcs hj
      rw [hcv.own] at hx
      exact hsame.sub (by intro e h; cases h) i j _ e (List.getElem?_eq_getElem hi2) hx
  | @one es l l' hc =>
    have harr := h.arr (by intro e h; cases h)
    have hesz := h.esz (by intro e h; cases h)
    refine ⟨hsame.loc, fun _ => hesz, fun _ => ArrRep.cv (els := [l]) hsg (fun cs hcs => ?_) rfl hself (fun i a b ha hb => ?_) harr, fun _ i j cs e hi hj => ?_, fun ents he => by cases he⟩
    · simp only [Box.elems, List.mem_singleton] at hcs
      subst hcs
      rw [← cvlen hc]
      exact harr.sz _ (by simp [Box.elems])
    · cases i with
      | zero => simp at ha; simp [Box.elems] at hb; subst ha hb; exact hc
      | succ i => simp at ha
    · cases i with
      | zero =>
        simp [Box.elems] at hi
        subst hi
        have get2 : ∀ {l l' : List V}, Cvs sg fz (gh.map (·.1)) l l' → ∀ {j : Nat} {y : V}, l'[j]? = some y → ∃ x, l[j]? = some x ∧ Cv sg fz (gh.map (·.1)) x y := by
          intro l l' h
          induction l generalizing l' with
          | nil => cases h; intro j y hy; simp at hy
          | cons a l ih =>
            cases h with
            | cons h hs =>
              intro j y hy
              cases j with
              | zero => simp at hy; subst hy; exact ⟨a, by simp, h⟩
              | succ j => simp at hy; obtain ⟨x, hx, hc⟩ := ih hs hy; exact ⟨x, by simpa using hx, hc⟩
        obtain ⟨x, hx, hcv⟩ := get2 hc hj
        rw [hcv.own] at hx
        exact hsame.sub (by intro e h; cases h) 0 j l e (by simp [Box.elems]) hx
      | succ i => simp [Box.elems] at hi
  | @pv es l x hx hc =>
    have harr := h.arr (by intro e h; cases h)
    have hesz := h.esz (by intro e h; cases h)
    refine ⟨hsame.loc, fun _ => hesz, fun _ => ArrRep.cv (els := [l]) hsg (fun cs hcs => ?_) rfl hself (fun i a b ha hb => ?_) harr, fun _ i j cs e hi hj => ?_, fun ents he => by cases he⟩
    · simp only [Box.elems, pcells, List.map_cons, List.map_nil, List.mem_singleton] at hcs
      subst hcs
      rw [List.length_map, hx]
      exact harr.sz _ (by simp [Box.elems])
    · cases i with
      | zero => simp at ha; simp [Box.elems, pcells] at hb; subst ha hb; exact hc
      | succ i => simp at ha
    · simp only [Box.elems, pcells, List.map_cons, List.map_nil] at hi
      cases i with
      | zero => simp at hi; subst hi; simp at hj
      | succ i => simp at hi

/-- What holds of a state holds of a weaker one. -/
theorem Rel.weak {fz : List Nat} {gh km : List (Nat × Nat)} {S T : St} {Fr : Nat → Prop} {ρ0 : Rho} {w0 : World} {nt : Nat} {a : Act} {w : World} (hle : Le fz gh km S T) (h : Rel Fr ρ0 w0 nt S a w) : Rel Fr ρ0 w0 nt T a w := by
  obtain ⟨ρ, h1, h2, h3, h4⟩ := h.ex
  have hgho := List.all_eq_true.1 hle.gho
  have hfr : ∀ k, k ∈ gh.map (·.1) → k < 1000 ∧ Fresh ρ S.sg k := fun k hk => by
    have := hgho k hk
    simp only [Bool.and_eq_true, decide_eq_true_eq, Option.isNone_iff_eq_none] at this
    obtain ⟨⟨q1, q2⟩, q3⟩ := this
    refine ⟨q1, fun s => ?_, fun r b hb => ?_⟩
    · cases hh : ρ k s with
      | none => rfl
      | some L => obtain ⟨b, hb⟩ := h2.dom k s L hh; rw [q2] at hb; cases hb
    · have := List.all_eq_true.1 q3 _ (get_mem hb)
      simpa using this
  have h2' := h2.dropG (fz := fz) (gh := gh) (fun k hk => (hfr k hk).2)
  generalize hρ1 : dropG fz gh ρ = ρ1 at *
  generalize hm : renL km = m at *
  have n1 := hle.n1
  have n2 := hle.n2
  have mk : ∀ {k r : Nat}, (k, r) ∈ km → m k = r := fun {k r} h => by
    rw [← hm, renL, aget_of_mem n1 h]; rfl
  have keyOf : ∀ {k : Nat}, k ∈ keysL km → ∃ r, (k, r) ∈ km := fun {k} h => by
    obtain ⟨p, hp, rfl⟩ := List.mem_map.1 h
    exact ⟨p.2, hp⟩
  have inj2 : ∀ {k k' r : Nat}, (k, r) ∈ km → (k', r) ∈ km → k = k' := fun {k k' r} h h' => by
    have e1 := inv_of_mem n2 h
    rw [inv_of_mem n2 h'] at e1
    exact (Option.some.inj e1).symm
  let ρT : Rho := fun k s => match aget km k with | some r => ρ1 r s | none => none
  have ρT_of : ∀ {k r : Nat}, (k, r) ∈ km → ∀ s, ρT k s = ρ1 r s := fun {k r} h s => by simp only [ρT, aget_of_mem n1 h]
  have ρT_some : ∀ {k : Nat} {s : Sub} {L : Loc}, ρT k s = some L → ∃ r, (k, r) ∈ km ∧ ρ1 r s = some L := fun {k s L} h => by
    simp only [ρT] at h
    split at h
    · rename_i r hr; exact ⟨r, aget_mem hr, h⟩
    · cases h
  have ρTm : ∀ r s L, ρT r s = some L → ρ1 (m r) s = some L := fun r s L h => by
    obtain ⟨r', hr', hL⟩ := ρT_some h
    rw [mk hr']; exact hL
  have ownT : ∀ {b : Nat}, Owned ρT b → Owned ρ1 b := by
    rintro b ⟨k, s, L, hL, hc, hb⟩
    obtain ⟨r, _, hr⟩ := ρT_some hL
    exact ⟨r, s, L, hr, hc, hb⟩
  have okT : ∀ b, okOf w Fr ρ1 b → okOf w Fr ρT b := fun b hb => ⟨hb.1, hb.2.1, fun h => hb.2.2 (ownT h)⟩
  have own1 : ∀ {b : Nat}, Owned ρ1 b → Owned ρ b := by
    intro b h
    rw [← hρ1] at h
    obtain ⟨r, s, L, h1, h2, h3, _⟩ := dropG_own h
    exact ⟨r, s, L, h1, h2, h3⟩
  have henv := hle.env
  have hsgl := hle.sg
  rw [hm] at henv hsgl
  refine ⟨⟨ρT, fun t v hv => ?_, ?_, ?_, fun k s L hL => ?_⟩, h.defers, h.size⟩
  · obtain ⟨x, hx, hcv, hids⟩ := envLe_spec henv (env_mem hv)
    obtain ⟨u, hu, hr⟩ := h1 t x hx
    refine ⟨u, hu, ?_⟩
    have hr1 := Cv.rep (gh := gh) h2 hcv hr
    rw [hρ1] at hr1
    exact (VRep.ren hr1).mono (fun b hb => ⟨okT b hb, rfl⟩) (fun r s L _ hL => ρTm r s L hL)
  · refine ⟨fun k b hb => ?_, fun k s L hL => ?_, fun k s L k' s' L' hL hL' hc hc' hbl => ?_, fun b hb => h2'.own b (ownT hb), h2'.fr⟩
    · obtain ⟨q1, q2, b1, q3, q4⟩ := sgLe_spec hsgl (get_mem hb)
      obtain ⟨r, hkr⟩ := keyOf (List.contains_iff_mem.1 q1)
      rw [mk hkr] at q3
      have hbx : ∃ L, BoxRep w (okOf w Fr ρ1) ρ1 r (b.ren m) L := by
        have hg := sgG_get (fz := fz) (gh := gh) (sg := S.sg) r
        rw [q3] at hg
        obtain ⟨L1, hL1⟩ := h2'.box r b1 q3
        split at hg
        · rename_i es he
          have hb1 : b1 = .pv es [] := by injection hg
          subst hb1
          generalize b.ren m = bb at q4
          cases q4
          exact ⟨L1, hL1⟩
        · rename_i he
          split at hg
          · cases hg
          · rename_i hf
            obtain ⟨L, hL⟩ := h2.box r b1 hg.symm
            have := Bv.rep (gh := gh) h2 q4 (fun s => by simp only [dropG, he, hf]; rfl) (fun r' hr' => (hfr r' hr').2.2 r b1 hg.symm) hL
            rw [hρ1] at this
            exact ⟨L, this⟩
      obtain ⟨L, hL⟩ := hbx
      refine ⟨L, BoxRep.mono (ρ := fun r s => ρ1 (m r) s) (fun b hb => ⟨okT b hb, rfl⟩) (fun r' s L' _ hL' => ρTm r' s L' hL') (fun s => ?_) (fun _ _ _ _ => rfl) (BoxRep.ren (m := m) (by rw [mk hkr]; exact hL))⟩
      simp only [ρT_of hkr, mk hkr]
    · obtain ⟨r, hkr, hr⟩ := ρT_some hL
      have := List.all_eq_true.1 hle.box _ hkr
      exact Option.isSome_iff_exists.1 this
    · obtain ⟨r, hkr, hr⟩ := ρT_some hL
      obtain ⟨r', hkr', hr'⟩ := ρT_some hL'
      obtain ⟨e1, e2⟩ := h2'.inj _ _ _ _ _ _ hr hr' hc hc' hbl
      subst e1
      exact ⟨inj2 hkr hkr', e2⟩
  · exact ⟨h3.os, h3.tape, h3.output, h3.size, fun b hb hn => ⟨(h3.same b hb hn).1, fun ho => (h3.same b hb hn).2 (own1 (ownT ho))⟩⟩
  · obtain ⟨r, hkr, hr⟩ := ρT_some hL
    have hold := List.all_eq_true.1 hle.old _ hkr
    simp only [Bool.or_eq_true, decide_eq_true_eq, beq_iff_eq] at hold
    rcases hold with h6 | h6
    · exact .inr h6
    · subst h6
      rw [← hρ1] at hr
      rcases dropG_some hr with ⟨es, h, _, _⟩ | ⟨_, _, h⟩
      · exact .inr (hfr k (List.mem_map.2 ⟨_, aget_mem h, rfl⟩)).1
      · exact h4 k s L h

/-- A contract for an array of no elements serves a nil slice. -/
theorem DC.of_nil {f : FuncId} {gl : Env} {k es : Nat} {args args' : List V} {v : V} {sg' : Sg} (hc : Cvs [] [] [k] args args') (h : DC P f gl args' [(k, some (.pv es []))] v sg')
    (hgl : gl = []) : DC P f gl args [] v sg' := by
  intro Fr ρ w us h1 h2 _
  have hnone : ∀ r s, ρ r s = none := fun r s => by
    cases hh : ρ r s with
    | none => rfl
    | some L => obtain ⟨b, hb⟩ := h2.dom r s L hh; simp [Sg.get] at hb
  have h2' := h2.dropG (fz := []) (gh := [(k, es)]) (fun k _ => ⟨fun s => hnone k s, fun r b hb => by simp [Sg.get] at hb⟩)
  have h1' := Cvs.rep (fz := []) (gh := [(k, es)]) h2 hc h1
  subst hgl
  refine (h Fr _ w us h1' (by simpa [ghG, fzG] using h2') (fun g x hg => by simp [Env.get] at hg)).mono ?_
  rintro e w' ⟨u, ρ', rfl, e1, e2, e3, e4⟩
  refine ⟨u, ρ', rfl, ⟨e1.os, e1.tape, e1.output, e1.size, fun b hb hn => e1.same b hb (fun ho => by obtain ⟨r, s, L, g1, g2, g3, _⟩ := dropG_own ho; exact hn ⟨r, s, L, g1, g2, g3⟩)⟩, e2, e3, fun r s L hL => .inr (fun s' => hnone r s')⟩
end
end Go.DW

/- The rules of proof: regions, code, contracts. -/
namespace Go.DW
section
variable {P : Program}

inductive CompEs (P : Program) : List Oper → List IOper → Prop where
  | nil : CompEs P [] []
  | cons {o' : Oper} {o : IOper} {os : List Oper} {l : List IOper} (h : compileOp P o'.op = some (o.k, o.args)) (hs : CompEs P os l) : CompEs P (o' :: os) (o :: l)

theorem compileOpers_spec {nt : Nat} {ops : Array Oper} : ∀ {os : List Oper} {l : List IOper}, compileOpers P nt ops os = some l → Comps nt ops os l ∧ CompEs P os l
  | [], _, h => by simp [compileOpers] at h; subst h; exact ⟨.nil, .nil⟩
  | o' :: os, l, h => by
    simp only [compileOpers] at h
    split at h
    · rename_i x xs h1 h2
      cases h
      obtain ⟨r1, r2⟩ := compileOpers_spec h2
      unfold compileOper at h1
      split at h1
      · cases h1
      · rename_i k ys hop
        split at h1
        · rename_i hd
          have hlt : ∀ d, o'.dst = some d → d < 1000 ∧ d < nt := fun d he => by
            rw [he] at hd; simpa using hd
          split at h1
          · rename_i hg
            cases h1
            exact ⟨.cons ⟨rfl, hlt, .inl ⟨hg, rfl⟩⟩ r1, .cons hop r2⟩
          · rename_i j want hg
            split at h1
            · rename_i g hgd
              split at h1
              · rename_i hlt2
                cases h1
                exact ⟨.cons ⟨rfl, hlt, .inr ⟨j, want, g, hg, rfl, hgd, hlt2⟩⟩ r1, .cons hop r2⟩
              · cases h1
            · cases h1
        · cases h1
    · cases h

/-- A state that says no more than another. -/
structure GE (S T : St) : Prop where
  env : ∀ t v, Env.get T.env t = some v → Env.get S.env t = some v
  sg : ∀ r, Sg.get T.sg r = Sg.get S.sg r

theorem GE.refl (S : St) : GE S S := ⟨fun _ _ h => h, fun _ => rfl⟩

structure SE (S T : St) : Prop where
  env : ∀ t v, Env.get T.env t = some v → Env.get S.env t = some v
  sub : ∀ e ∈ S.env, e ∈ T.env
  sg : S.sg = T.sg

theorem evs_mono {e e' : Env} (h : ∀ t v, Env.get e t = some v → Env.get e' t = some v) : ∀ {l : List X} {vs : List V}, evs e l = some vs → evs e' l = some vs
  | [], _, hv => hv
  | x :: l, vs, hv => by
    simp only [evs] at hv ⊢
    cases h1 : x.ev e with
    | none => rw [h1] at hv; cases hv
    | some v =>
      have h2 : x.ev e' = some v := by
        cases x with
        | t n => exact h n v h1
        | c v' => exact h1
      rw [h1] at hv
      rw [h2]
      simp only at hv ⊢
      cases h3 : evs e l with
      | none => rw [h3] at hv; cases hv
      | some vs' =>
        rw [h3] at hv
        rw [evs_mono h h3]
        exact hv

theorem guardV_mono {e e' : Env} (h : ∀ t v, Env.get e t = some v → Env.get e' t = some v) {g : Option (Nat × Bool)} {x : Bool} (hg : guardV e g = some x) : guardV e' g = some x := by
  cases g with
  | none => exact hg
  | some p =>
    obtain ⟨t, want⟩ := p
    simp only [guardV] at hg ⊢
    split at hg
    · rename_i b hb
      rw [h t _ hb]; exact hg
    · rename_i hb
      rw [h t _ hb]; exact hg
    · cases hg

theorem SE.step {S T : St} (h : SE S T) (o : IOper) (t : TE) : SE (stepSt o t S) (stepSt o t T) := by
  refine ⟨fun s v hs => ?_, fun e he => ?_, by simp only [stepSt, h.sg]⟩
  · simp only [stepSt] at hs ⊢
    cases hd : o.dst with
    | none => rw [hd] at hs; exact h.env s v hs
    | some d =>
      rw [hd] at hs
      simp only [putE, Env.get] at hs ⊢
      split at hs
      · exact hs
      · exact h.env s v hs
  · simp only [stepSt] at he ⊢
    cases hd : o.dst with
    | none => rw [hd] at he; exact h.sub e he
    | some d =>
      rw [hd] at he
      simp only [putE, List.mem_cons] at he ⊢
      rcases he with he | he
      · exact .inl he
      · exact .inr (h.sub e he)

theorem TraceV.back : ∀ {os : List Oper} {l : List IOper} {ts : List TE} {S T T' : St}, SE S T → TraceV P os l ts T T' → ∃ S', TraceV P os l ts S S' ∧ SE S' T'
  | _, _, _, S, _, _, h, .nil _ => ⟨S, .nil S, h⟩
  | _, _, _, S, _, _, h, .cons (o := o) (t := t) hv hs => by
    obtain ⟨S', h1, h2⟩ := TraceV.back (h.step o t) hs
    refine ⟨S', .cons ?_ h1, h2⟩
    cases hv with
    | yes a b c d e =>
      refine .yes a (guardV_mono h.env b) (evs_mono h.env c) ?_ (fun k hk => ?_)
      · rw [h.sg]; exact d
      · have := e k hk
        exact ⟨this.lt, by rw [h.sg]; exact this.dom, fun x hx => this.env x (h.sub x hx), by rw [h.sg]; exact this.sg⟩
    | no a b c d e f => exact .no a (guardV_mono h.env b) c d e f

/-- What the rest of a region does. -/
def OpsW (P : Program) (l : List IOper) (S : St) (K : List TE → St → Prop) : Prop :=
  ∀ os, CompEs P os l → ∃ ts S1 S', TraceV P os l ts S S1 ∧ GE S1 S' ∧ K ts S'

theorem o_nil {S : St} {K : List TE → St → Prop} (h : K [] S) : OpsW P [] S K := by
  intro os hos
  cases hos
  exact ⟨[], S, S, .nil S, .refl S, h⟩

def freshB (k : Nat) (S : St) : Bool := Nat.blt k 1000 && (Sg.get S.sg k).isNone && S.env.all (fun e => !e.2.men k) && S.sg.all (fun e => match e.2 with | some b => !b.men k | none => true)

theorem freshB_spec {k : Nat} {S : St} (h : freshB k S = true) : FreshIn k S := by
  simp only [freshB, Bool.and_eq_true, Option.isNone_iff_eq_none, List.all_eq_true, Bool.not_eq_true'] at h
  obtain ⟨⟨⟨h1, h2⟩, h3⟩, h4⟩ := h
  refine ⟨Nat.le_of_ble_eq_true h1, h2, h3, fun e he b hb => ?_⟩
  have := h4 e he
  rw [hb] at this
  simpa using this

def freshOk (k : K) (dst : Nat) (S : St) (vals : List V) : Bool := match k.new with
  | true => freshB dst S && !V.men.mens dst vals
  | false => true

/-- One operation. -/
theorem o_op (alt : Nat) {o : IOper} {l : List IOper} {S : St} {K : List TE → St → Prop} {vals : List V} {c : Prop} {v v' : V} {R : List Nat} {Δ : Sg} (hg : guardV S.env o.guard = some true) (hv : evs S.env o.args = some vals)
    (hs : sem alt (o.dst.getD 0) o.k vals S.sg = some (c, v, R, Δ)) (hf : freshOk o.k (o.dst.getD 0) S vals = true) (hc : c) (hv' : v = v')
    (h : OpsW P l ⟨putE o.dst v' S.env, Δ ++ S.sg⟩ (fun ts S' => K (⟨true, vals, v', R, newOf o.k (o.dst.getD 0), Δ⟩ :: ts) S')) : OpsW P (o :: l) S K := by
  subst hv'
  intro os hos
  cases hos with
  | cons hcomp hs' =>
    obtain ⟨ts, S1, S', h1, h2, h3⟩ := h _ hs'
    refine ⟨_, S1, S', .cons (.yes (t := ⟨true, vals, v, R, newOf o.k (o.dst.getD 0), Δ⟩) rfl hg hv ?_ ?_) h1, h2, h3⟩
    · exact la_op hcomp hs hc (fun hk => by
        simp only [freshOk, hk, Bool.and_eq_true, Bool.not_eq_true'] at hf
        exact hf.2)
    · intro k hk
      unfold newOf at hk
      split at hk
      · rename_i hnew
        simp at hk
        subst hk
        simp only [freshOk, hnew, Bool.and_eq_true] at hf
        exact freshB_spec hf.1
      · simp at hk

/-- An operation that touches no owned memory, its result a value. -/
theorem o_pu {d : Nat} {k : K} {args : List X} {g : Option (Nat × Bool)} {l : List IOper} {e : Env} {sg : Sg} {K' : List TE → St → Prop} {vals : List V} {c : Prop} {v : V} {R : List Nat} (hg : guardV e g = some true) (hv : evs e args = some vals)
    (hs : sem 0 d k vals sg = some (c, v, R, [])) (hn : k.new = false) (hc : c)
    (h : OpsW P l ⟨(d, v) :: e, sg⟩ (fun ts S' => K' (⟨true, vals, v, R, [], []⟩ :: ts) S')) : OpsW P (⟨some d, k, args, g⟩ :: l) ⟨e, sg⟩ K' := by
  have e1 : newOf k d = [] := by simp [newOf, hn]
  refine o_op 0 hg hv hs (by simp [freshOk, hn]) hc rfl ?_
  simp only [Option.getD_some, e1]
  exact h

/-- The same, its result to be shown equal to a value. -/
theorem o_as {d : Nat} {k : K} {args : List X} {g : Option (Nat × Bool)} {l : List IOper} {e : Env} {sg : Sg} {K' : List TE → St → Prop} {vals : List V} {c : Prop} {v : V} {R : List Nat} (v' : V) (hg : guardV e g = some true) (hv : evs e args = some vals)
    (hs : sem 0 d k vals sg = some (c, v, R, [])) (hn : k.new = false) (hc : c) (hv' : v = v')
    (h : OpsW P l ⟨(d, v') :: e, sg⟩ (fun ts S' => K' (⟨true, vals, v', R, [], []⟩ :: ts) S')) : OpsW P (⟨some d, k, args, g⟩ :: l) ⟨e, sg⟩ K' := by
  subst hv'
  exact o_pu hg hv hs hn hc h

theorem wrap_i64 {x : Int} (h : -9223372036854775808 ≤ x ∧ x < 9223372036854775808) : IntKind.wrap .i64 x = x := by
  simp only [IntKind.wrap, IntKind.signed, IntKind.bits, Bool.true_and]
  split <;> rename_i hh <;> simp only [decide_eq_true_eq, ge_iff_le] at hh <;> omega

theorem wrap_u8 {x : Int} (h : 0 ≤ x ∧ x < 256) : IntKind.wrap .u8 x = x := by
  simp only [IntKind.wrap, IntKind.signed, IntKind.bits, Bool.false_and, Bool.false_eq_true, if_false]
  omega

/-- Arithmetic in int that does not wrap. -/
theorem o_i64 {d : Nat} {k : K} {args : List X} {g : Option (Nat × Bool)} {l : List IOper} {e : Env} {sg : Sg} {K' : List TE → St → Prop} {vals : List V} {c : Prop} {x : Int} {R : List Nat} (hg : guardV e g = some true) (hv : evs e args = some vals)
    (hs : sem 0 d k vals sg = some (c, .p (.i .i64 (IntKind.wrap .i64 x)), R, [])) (hn : k.new = false) (hc : c) (hx : -9223372036854775808 ≤ x ∧ x < 9223372036854775808)
    (h : OpsW P l ⟨(d, .p (.i .i64 x)) :: e, sg⟩ (fun ts S' => K' (⟨true, vals, .p (.i .i64 x), R, [], []⟩ :: ts) S')) : OpsW P (⟨some d, k, args, g⟩ :: l) ⟨e, sg⟩ K' := by
  rw [wrap_i64 hx] at hs
  exact o_pu hg hv hs hn hc h

theorem o_u8 {d : Nat} {k : K} {args : List X} {g : Option (Nat × Bool)} {l : List IOper} {e : Env} {sg : Sg} {K' : List TE → St → Prop} {vals : List V} {c : Prop} {x : Int} {R : List Nat} (hg : guardV e g = some true) (hv : evs e args = some vals)
    (hs : sem 0 d k vals sg = some (c, .p (.i .u8 (IntKind.wrap .u8 x)), R, [])) (hn : k.new = false) (hc : c) (hx : 0 ≤ x ∧ x < 256)
    (h : OpsW P l ⟨(d, .p (.i .u8 x)) :: e, sg⟩ (fun ts S' => K' (⟨true, vals, .p (.i .u8 x), R, [], []⟩ :: ts) S')) : OpsW P (⟨some d, k, args, g⟩ :: l) ⟨e, sg⟩ K' := by
  rw [wrap_u8 hx] at hs
  exact o_pu hg hv hs hn hc h

/-- An operation that is not wanted. -/
theorem o_skip {o : IOper} {l : List IOper} {S : St} {K : List TE → St → Prop} (hg : guardV S.env o.guard = some false)
    (h : OpsW P l ⟨putE o.dst (.tup []) S.env, S.sg⟩ (fun ts S' => K (⟨false, [], .tup [], [], [], []⟩ :: ts) S')) : OpsW P (o :: l) S K := by
  intro os hos
  cases hos with
  | cons hcomp hs' =>
    obtain ⟨ts, S1, S', h1, h2, h3⟩ := h _ hs'
    exact ⟨_, S1, S', .cons (.no (t := ⟨false, [], .tup [], [], [], []⟩) rfl hg rfl rfl rfl rfl) h1, h2, h3⟩

/-- The same, the state plain. -/
theorem o_skp {d : Nat} {k : K} {args : List X} {g : Option (Nat × Bool)} {l : List IOper} {e : Env} {sg : Sg} {K' : List TE → St → Prop} (hg : guardV e g = some false)
    (h : OpsW P l ⟨(d, .tup []) :: e, sg⟩ (fun ts S' => K' (⟨false, [], .tup [], [], [], []⟩ :: ts) S')) : OpsW P (⟨some d, k, args, g⟩ :: l) ⟨e, sg⟩ K' := o_skip hg h

/-- Cases of a bool. -/
theorem o_br {l : List IOper} {e : Env} {sg : Sg} {K : List TE → St → Prop} (t : Nat) {b : Bool} (ht : Env.get e t = some (.p (.b b))) (h1 : b = true → OpsW P l ⟨(t, .p (.b true)) :: e, sg⟩ K) (h0 : b = false → OpsW P l ⟨(t, .p (.b false)) :: e, sg⟩ K) : OpsW P l ⟨e, sg⟩ K := by
  intro os hos
  have hse : ∀ b', b = b' → SE ⟨e, sg⟩ ⟨(t, .p (.b b')) :: e, sg⟩ := fun b' hb => ⟨fun s v hs => by
    simp only [Env.get] at hs
    split at hs
    · rename_i hq
      have := Nat.eq_of_beq_eq_true hq
      subst this
      rw [ht, hb]; exact hs
    · exact hs, fun x hx => List.mem_cons_of_mem _ hx, rfl⟩
  have main : ∀ b', b = b' → OpsW P l ⟨(t, .p (.b b')) :: e, sg⟩ K → ∃ ts S1 S', TraceV P os l ts ⟨e, sg⟩ S1 ∧ GE S1 S' ∧ K ts S' := by
    intro b' hb h
    obtain ⟨ts, S1, S', q1, q2, q3⟩ := h os hos
    obtain ⟨S2, r1, r2⟩ := q1.back (hse b' hb)
    exact ⟨ts, S2, S', r1, ⟨fun t v h => r2.env t v (q2.env t v h), fun r => by rw [q2.sg, r2.sg]⟩, q3⟩
  cases hb : b with
  | true => exact main true hb (h1 hb)
  | false => exact main false hb (h0 hb)

/-- A known bool. -/
theorem o_is {l : List IOper} {e : Env} {sg : Sg} {K : List TE → St → Prop} (t : Nat) {b : Bool} (b' : Bool) (ht : Env.get e t = some (.p (.b b))) (hb : b = b') (h : OpsW P l ⟨(t, .p (.b b')) :: e, sg⟩ K) : OpsW P l ⟨e, sg⟩ K := by
  subst hb
  refine o_br t ht (fun hb => ?_) (fun hb => ?_)
  · subst hb; exact h
  · subst hb; exact h

/-- Cases of the guard of the next operation. -/
theorem o_brg {d : Option Nat} {k : K} {args : List X} {t : Nat} {want : Bool} {l : List IOper} {e : Env} {sg : Sg} {K' : List TE → St → Prop} {b : Bool} (ht : Env.get e t = some (.p (.b b)))
    (h1 : b = true → OpsW P (⟨d, k, args, some (t, want)⟩ :: l) ⟨(t, .p (.b true)) :: e, sg⟩ K') (h0 : b = false → OpsW P (⟨d, k, args, some (t, want)⟩ :: l) ⟨(t, .p (.b false)) :: e, sg⟩ K') : OpsW P (⟨d, k, args, some (t, want)⟩ :: l) ⟨e, sg⟩ K' :=
  o_br t ht h1 h0

/-- Cases of the condition of a choice. -/
theorem o_brp {d : Option Nat} {x y : X} {t : Nat} {g : Option (Nat × Bool)} {l : List IOper} {e : Env} {sg : Sg} {K' : List TE → St → Prop} {b : Bool} (ht : Env.get e t = some (.p (.b b)))
    (h1 : b = true → OpsW P (⟨d, .pick, [.t t, x, y], g⟩ :: l) ⟨(t, .p (.b true)) :: e, sg⟩ K') (h0 : b = false → OpsW P (⟨d, .pick, [.t t, x, y], g⟩ :: l) ⟨(t, .p (.b false)) :: e, sg⟩ K') : OpsW P (⟨d, .pick, [.t t, x, y], g⟩ :: l) ⟨e, sg⟩ K' :=
  o_br t ht h1 h0

structure FC (P : Program) (f : FuncId) (args : List V) (sg : Sg) (v : V) (sg' : Sg) : Prop where
  body : HasBody P f
  dc : DC P f [] args sg v sg'

/-- A call. 'km': the contract's names and the caller's; 'ro': what is only read; 'fz': what is let go. -/
theorem o_call {d : Nat} {xs : List X} {gd : Option (Nat × Bool)} {l : List IOper} {e : Env} {sg : Sg} {K' : List TE → St → Prop} {g : FuncId} {csg csg' : Sg} {args argsR caps : List V} {v : V} (fz : List Nat) (km : List (Nat × Nat)) (ro : List Nat) (hd : FC P g args csg v csg')
    (hg : guardV e gd = some true) (hv : evs e xs = some (.fn g caps :: argsR))
    (hargs : Cvs sg fz [] (argsR ++ caps) (V.ren.rens (renL km) args)) (n1 : nodupB (km.map (·.1)) = true) (n2 : nodupB (km.map (·.2)) = true)
    (hpass : (csg.all fun e => (keysL km).contains e.1) = true) (hent : entOk (renL km) csg (fzG fz ++ sg) km) (hro : roOk csg csg' ro)
    (hcl : (csg'.all fun x => match x.2 with | some b => b.idsIn (keysL km) | none => true) = true) (hids : v.idsIn (keysL km) = true)
    (hfr : ((callN csg km).all fun k => freshB k ⟨e, sg⟩) = true)
    (h : OpsW P l ⟨(d, v.ren (renL km)) :: e, (callΔ (renL km) ro csg' km ++ fzG fz) ++ sg⟩ (fun ts S' => K' (⟨true, .fn g caps :: argsR, v.ren (renL km), callR csg km ++ fz, callN csg km, callΔ (renL km) ro csg' km ++ fzG fz⟩ :: ts) S')) :
    OpsW P (⟨some d, .call, xs, gd⟩ :: l) ⟨e, sg⟩ K' := by
  intro os hos
  cases hos with
  | cons hcomp hs' =>
    obtain ⟨ts, S1, S', h1, h2, h3⟩ := h _ hs'
    refine ⟨_, S1, S', .cons (.yes (t := ⟨true, .fn g caps :: argsR, v.ren (renL km), callR csg km ++ fz, callN csg km, callΔ (renL km) ro csg' km ++ fzG fz⟩) rfl hg hv ?_ ?_) h1, h2, h3⟩
    · exact la_call hcomp hd.body hd.dc hargs n1 n2 hpass hent hro hcl hids
    · exact fun k hk => freshB_spec (List.all_eq_true.1 hfr k hk)

/-- The same, without a result. -/
theorem o_call0 {xs : List X} {gd : Option (Nat × Bool)} {l : List IOper} {e : Env} {sg : Sg} {K' : List TE → St → Prop} {g : FuncId} {csg csg' : Sg} {args argsR caps : List V} {v : V} (fz : List Nat) (km : List (Nat × Nat)) (ro : List Nat) (hd : FC P g args csg v csg')
    (hg : guardV e gd = some true) (hv : evs e xs = some (.fn g caps :: argsR))
    (hargs : Cvs sg fz [] (argsR ++ caps) (V.ren.rens (renL km) args)) (n1 : nodupB (km.map (·.1)) = true) (n2 : nodupB (km.map (·.2)) = true)
    (hpass : (csg.all fun e => (keysL km).contains e.1) = true) (hent : entOk (renL km) csg (fzG fz ++ sg) km) (hro : roOk csg csg' ro)
    (hcl : (csg'.all fun x => match x.2 with | some b => b.idsIn (keysL km) | none => true) = true) (hids : v.idsIn (keysL km) = true)
    (hfr : ((callN csg km).all fun k => freshB k ⟨e, sg⟩) = true)
    (h : OpsW P l ⟨e, (callΔ (renL km) ro csg' km ++ fzG fz) ++ sg⟩ (fun ts S' => K' (⟨true, .fn g caps :: argsR, v.ren (renL km), callR csg km ++ fz, callN csg km, callΔ (renL km) ro csg' km ++ fzG fz⟩ :: ts) S')) :
    OpsW P (⟨none, .call, xs, gd⟩ :: l) ⟨e, sg⟩ K' := by
  intro os hos
  cases hos with
  | cons hcomp hs' =>
    obtain ⟨ts, S1, S', h1, h2, h3⟩ := h _ hs'
    refine ⟨_, S1, S', .cons (.yes (t := ⟨true, .fn g caps :: argsR, v.ren (renL km), callR csg km ++ fz, callN csg km, callΔ (renL km) ro csg' km ++ fzG fz⟩) rfl hg hv ?_ ?_) h1, h2, h3⟩
    · exact la_call hcomp hd.body hd.dc hargs n1 n2 hpass hent hro hcl hids
    · exact fun k hk => freshB_spec (List.all_eq_true.1 hfr k hk)

theorem cvs_same {sg : Sg} {l : List V} : Cvs sg [] [] l l := by
  induction l with
  | nil => exact .nil
  | cons a l ih => exact .cons (.same rfl) ih

/-- A call that passes values and returns a value. -/
theorem o_callp {d : Nat} {xs : List X} {gd : Option (Nat × Bool)} {l : List IOper} {e : Env} {sg : Sg} {K' : List TE → St → Prop} {g : FuncId} {args argsR caps : List V} {v : V} (hd : FC P g args [] v [])
    (hg : guardV e gd = some true) (hv : evs e xs = some (.fn g caps :: argsR)) (hargs : V.ren.rens (renL []) args = argsR ++ caps) (hids : v.idsIn [] = true) (hren : v.ren (renL []) = v)
    (h : OpsW P l ⟨(d, v) :: e, sg⟩ (fun ts S' => K' (⟨true, .fn g caps :: argsR, v, [], [], []⟩ :: ts) S')) : OpsW P (⟨some d, .call, xs, gd⟩ :: l) ⟨e, sg⟩ K' := by
  refine o_call [] [] [] hd hg hv (by rw [hargs]; exact cvs_same) rfl rfl rfl trivial trivial rfl hids rfl ?_
  rw [hren]
  exact h

/-! ### Code -/
def D (P : Program) (nt : Nat) (c : IC) (S : St) (Q : Exit → St → Prop) : Prop :=
  ∀ cd, compileC P nt cd = some c → ∀ Fr ρ0 w0 a w, Rel Fr ρ0 w0 nt S a w → cd.wp P (fun e a w => ∃ S', Q e S' ∧ Rel Fr ρ0 w0 nt S' a w) a w

variable {nt : Nat} {S : St} {Q : Exit → St → Prop}

theorem D_mono {c : IC} {Q' : Exit → St → Prop} (h : D P nt c S Q) (hq : ∀ e S, Q e S → Q' e S) : D P nt c S Q' :=
  fun cd hcd Fr ρ0 w0 a w hr => wp_mono (h cd hcd Fr ρ0 w0 a w hr) fun _ _ _ ⟨S', h1, h2⟩ => ⟨S', hq _ _ h1, h2⟩

theorem D_weak {c : IC} {T : St} (fz : List Nat) (gh km : List (Nat × Nat)) (hle : Le fz gh km S T) (h : D P nt c T Q) : D P nt c S Q :=
  fun cd hcd Fr ρ0 w0 a w hr => h cd hcd Fr ρ0 w0 a w (hr.weak hle)

theorem D_skip (h : Q .normal S) : D P nt .skip S Q := by
  intro cd hcd Fr ρ0 w0 a w hr
  cases cd with
  | skip => exact wp_skip ⟨S, h, hr⟩
  | label l => exact wp_label ⟨S, h, hr⟩
  | _ => simp only [compileC] at hcd; (repeat' split at hcd) <;> simp at hcd

theorem D_exit {i : Nat} (h : Q (.exit i) S) : D P nt (.exit i) S Q := by
  intro cd hcd Fr ρ0 w0 a w hr
  cases cd with
  | exit j => simp [compileC] at hcd; subst hcd; exact wp_exit ⟨S, h, hr⟩
  | _ => simp only [compileC] at hcd; (repeat' split at hcd) <;> simp at hcd

theorem D_ret (h : Q .ret S) : D P nt .ret S Q := by
  intro cd hcd Fr ρ0 w0 a w hr
  cases cd with
  | ret => exact wp_ret ⟨S, h, hr⟩
  | _ => simp only [compileC] at hcd; (repeat' split at hcd) <;> simp at hcd

def thenQ (next : St → Prop) (Q : Exit → St → Prop) : Exit → St → Prop
  | .normal, S => next S
  | e, S => Q e S

theorem D_seq {a b : IC} (h : D P nt a S (thenQ (fun S' => D P nt b S' Q) Q)) : D P nt (.seq a b) S Q := by
  intro cd hcd Fr ρ0 w0 act w hr
  cases cd with
  | seq x y =>
    simp only [compileC] at hcd
    split at hcd
    · rename_i x' y' hx hy
      simp only [Option.some.injEq, IC.seq.injEq] at hcd
      obtain ⟨rfl, rfl⟩ := hcd
      refine wp_seq (wp_mono (h x hx Fr ρ0 w0 act w hr) ?_)
      rintro e a' w' ⟨S', h1, h2⟩
      cases e with
      | normal => exact h1 y hy Fr ρ0 w0 a' w' h2
      | _ => exact ⟨S', h1, h2⟩
    · cases hcd
  | _ => simp only [compileC] at hcd; (repeat' split at hcd) <;> simp at hcd

theorem D_cond {x : X} {a b : IC} {t : Bool} (hx : x.ev S.env = some (.p (.b t))) (h1 : t = true → D P nt a S Q) (h0 : t = false → D P nt b S Q) : D P nt (.cond x a b) S Q := by
  intro cd hcd Fr ρ0 w0 act w hr
  cases cd with
  | cond c p q =>
    simp only [compileC] at hcd
    split at hcd
    · rename_i c' p' q' hc hp hq
      simp only [Option.some.injEq, IC.cond.injEq] at hcd
      obtain ⟨rfl, rfl, rfl⟩ := hcd
      obtain ⟨ρ, r1, r2⟩ := hr.ex
      have := (cX_rep r1 hc hx).inv_b
      exact wp_cond_split this (fun ht => h1 ht p hp Fr ρ0 w0 act w hr) (fun ht => h0 ht q hq Fr ρ0 w0 act w hr)
    · cases hcd
  | _ => simp only [compileC] at hcd; (repeat' split at hcd) <;> simp at hcd

def blockQ (id : Nat) (Q : Exit → St → Prop) : Exit → St → Prop
  | .exit i, S => match Nat.beq i id with
    | true => Q .normal S
    | false => Q (.exit i) S
  | e, S => Q e S

theorem D_block {id : Nat} {a : IC} (h : D P nt a S (blockQ id Q)) : D P nt (.block id a) S Q := by
  intro cd hcd Fr ρ0 w0 act w hr
  cases cd with
  | block i c =>
    simp only [compileC, Option.map_eq_some_iff] at hcd
    obtain ⟨c', hc, he⟩ := hcd
    simp only [IC.block.injEq] at he
    obtain ⟨rfl, rfl⟩ := he
    refine wp_block (wp_mono (h c hc Fr ρ0 w0 act w hr) ?_)
    rintro e a' w' ⟨S', h1, h2⟩
    cases e with
    | exit j =>
      simp only [blockQ] at h1
      split at h1
      · rename_i hb
        have := Nat.eq_of_beq_eq_true hb
        subst this
        simp only [Exit.inBlock, if_true]
        exact ⟨S', h1, h2⟩
      · rename_i hb
        have := Nat.ne_of_beq_eq_false hb
        simp only [Exit.inBlock, this, if_false]
        exact ⟨S', h1, h2⟩
    | _ => exact ⟨S', h1, h2⟩
  | _ => simp only [compileC] at hcd; (repeat' split at hcd) <;> simp at hcd

theorem D_scope {a : IC} (h : D P nt a S (fun e S' => (∀ l, e ≠ .goto l) ∧ Q e S')) : D P nt (.scope a) S Q := by
  intro cd hcd Fr ρ0 w0 act w hr
  cases cd with
  | scope c =>
    simp only [compileC, Option.map_eq_some_iff] at hcd
    obtain ⟨c', hc, he⟩ := hcd
    simp only [IC.scope.injEq] at he
    subst he
    refine wp_scope_straight (wp_mono (h c hc Fr ρ0 w0 act w hr) ?_)
    rintro e a' w' ⟨S', ⟨h0, h1⟩, h2⟩
    cases e with
    | goto l => exact (h0 l rfl).elim
    | _ => exact ⟨S', h1, h2⟩
  | _ => simp only [compileC] at hcd; (repeat' split at hcd) <;> simp at hcd

theorem D_loop {a : IC} {ι : Type} (st : ι → St) (μ : ι → Nat) (x0 : ι) (fz : List Nat) (gh km : List (Nat × Nat)) (h0 : Le fz gh km S (st x0))
    (h : ∀ x, D P nt a (st x) (thenQ (fun S' => ∃ y fz gh km, μ y < μ x ∧ Le fz gh km S' (st y)) Q)) : D P nt (.loop a) S Q := by
  intro cd hcd Fr ρ0 w0 act w hr
  cases cd with
  | loop c =>
    simp only [compileC, Option.map_eq_some_iff] at hcd
    obtain ⟨c', hc, he⟩ := hcd
    simp only [IC.loop.injEq] at he
    subst he
    have key : ∀ (n : Nat) (x : ι), μ x = n → ∀ act w, Rel Fr ρ0 w0 nt (st x) act w → ∀ b k cs, ∃ e a' w', (∃ S', Q e S' ∧ Rel Fr ρ0 w0 nt S' a' w') ∧ Arrives P (lone (b.at act (.code c :: .inLoop c :: k)) cs w) b k cs e a' w' := by
      intro n
      induction n using Nat.strongRecOn with
      | _ n ih =>
        intro x hn act w hr b k cs
        obtain ⟨e, a₁, w₁, ⟨S', hq, hr'⟩, harr⟩ := h x c hc Fr ρ0 w0 act w hr b (.inLoop c :: k) cs
        cases e with
        | normal =>
          obtain ⟨y, fz, gh, km, hlt, hle⟩ := hq
          obtain ⟨e₂, a₂, w₂, hq₂, harr₂⟩ := ih (μ y) (hn ▸ hlt) y rfl a₁ w₁ (hr'.weak hle) b k cs
          exact ⟨e₂, a₂, w₂, hq₂, .of_steps (Steps.trans harr (.one step_inLoop)) harr₂⟩
        | exit id => exact ⟨_, a₁, w₁, ⟨S', hq, hr'⟩, .pass (x := .inLoop c) rfl (fun _ _ => .inl (by simp)) harr⟩
        | goto l => exact ⟨_, a₁, w₁, ⟨S', hq, hr'⟩, .pass (x := .inLoop c) rfl (fun _ _ => .inl (by simp)) harr⟩
        | ret => exact ⟨_, a₁, w₁, ⟨S', hq, hr'⟩, .pass (x := .inLoop c) rfl (fun _ _ => .inl (by simp)) harr⟩
        | panic ch => exact ⟨_, a₁, w₁, ⟨S', hq, hr'⟩, .pass (x := .inLoop c) rfl (fun _ _ => .inl (by simp)) harr⟩
        | outgrown => exact ⟨_, a₁, w₁, ⟨S', hq, hr'⟩, .pass (x := .inLoop c) rfl (fun _ _ => .inl (by simp)) harr⟩
    intro b k cs
    obtain ⟨e, a', w', hq, harr⟩ := key _ x0 rfl act w (hr.weak h0) b k cs
    exact ⟨e, a', w', hq, .of_steps (.one step_loop) harr⟩
  | _ => simp only [compileC] at hcd; (repeat' split at hcd) <;> simp at hcd

/-- A cut: the first part leads to one of these states. -/
theorem D_cut {a b : IC} {ι : Type} (st : ι → St) (h : D P nt a S (thenQ (fun S' => ∃ y fz gh km, Le fz gh km S' (st y)) Q)) (h' : ∀ y, D P nt b (st y) Q) : D P nt (.seq a b) S Q := by
  refine D_seq (D_mono h ?_)
  intro e S' hq
  cases e with
  | normal =>
    obtain ⟨y, fz, gh, km, hle⟩ := hq
    exact D_weak fz gh km hle (h' y)
  | _ => exact hq

theorem D_reg {u : List (Nat × Nat)} {l : List IOper} (h : OpsW P l S (fun _ S' => Q .normal S')) : D P nt (.reg false u l) S Q := by
  intro cd hcd Fr ρ0 w0 act w hr
  cases cd with
  | region id ops draw =>
    simp only [compileC] at hcd
    split at hcd
    · rename_i l' hl
      split at hcd
      · split at hcd <;> simp at hcd
      · rename_i hdraw
        simp only [Option.some.injEq, IC.reg.injEq, true_and] at hcd
        obtain ⟨rfl, rfl⟩ := hcd
        have hd : draw = false := by simpa using hdraw
        subst hd
        obtain ⟨hc1, hc2⟩ := compileOpers_spec hl
        obtain ⟨ts, S1, S', h1, h2, h3⟩ := h _ hc2
        refine wp_region ?_
        rw [List.range_eq_range']
        have hlen : ops.size = ops.toList.length := by simp
        rw [hlen]
        exact seq_sound 0 h1 hc1 (fun j => by simp) hr (fun a w hr' => ⟨S', h3, hr'.of_get h2.env h2.sg⟩)
    · cases hcd
  | _ => simp only [compileC] at hcd; (repeat' split at hcd) <;> simp at hcd

theorem acyclic_spec {ops : Array Oper} (h : acyclic ops = true) : ∀ j o, ops[j]? = some o → ∀ e ∈ o.after, Region.binds .any e = true → e.on < j := by
  intro j o ho e he hb
  have hm : (o, j) ∈ ops.toList.zipIdx := by
    rw [List.mem_zipIdx_iff_getElem?]
    simpa using ho
  have := List.all_eq_true.1 (List.all_eq_true.1 h _ hm) e (by simpa using he)
  simpa [hb] using this

theorem D_any (hm : P.follows .mixedOrders = true) {u : List (Nat × Nat)} {l : List IOper} (h : OpsW P l S (fun ts S' => confOk u l ts = true ∧ Q .normal S')) : D P nt (.reg true u l) S Q := by
  intro cd hcd Fr ρ0 w0 act w hr
  cases cd with
  | region id ops draw =>
    simp only [compileC] at hcd
    split at hcd
    · rename_i l' hl
      split at hcd
      · rename_i hdraw
        split at hcd
        · rename_i hac
          simp only [Option.some.injEq, IC.reg.injEq, true_and] at hcd
          obtain ⟨rfl, rfl⟩ := hcd
          have hd : draw = true := hdraw
          subst hd
          obtain ⟨hc1, hc2⟩ := compileOpers_spec hl
          obtain ⟨ts, S1, S', h1, h2, h3, h4⟩ := h _ hc2
          exact any_sound hm h1 hc1 h3 (acyclic_spec hac) (fun a w hr' => ⟨S', h4, hr'.of_get h2.env h2.sg⟩) hr
        · cases hcd
      · simp at hcd
    · cases hcd
  | _ => simp only [compileC] at hcd; (repeat' split at hcd) <;> simp at hcd
end
end Go.DW

/- Contracts from code. -/
namespace Go.DW
section
variable {P : Program} {Fr : Nat → Prop} {ρ : Rho} {w : World} {sg : Sg}

theorem mkAggV_rep {ok : Nat → Prop} {l : List V} {us : List Value} (hv : VReps w ok ρ l us) : VRep w ok ρ (mkAgg l) (.agg us.toArray) := mkAgg_rep hv

/-- A load, and the world as it is. -/
theorem load_w (t : TypeId) {ag : Bool} {sz alt : Nat} (ha : isAggT P t = some ag) (hz : sizeOfT P t = some sz) (hone : ag = false → sz = 1) {x : V} {p : Value} {c : Prop} {v : V} {R : List Nat} {Δ : Sg} (hs : semLoad alt ag sz [x] sg = some (c, v, R, Δ)) (hc : c)
    (hv : VRep w (okOf w Fr ρ) ρ x p) (hsg : SgRel w Fr ρ sg) :
    ∃ a u, p = .pointer (some a) ∧ (loadVar t a).run P w = .ok u w ∧ VRep w (okOf w Fr ρ) ρ v u := by
  have main : ∀ (b o : Nat) (cells : List PV) (ws : List Value), PReps w (okOf w Fr ρ) cells ws → (∀ (j : Nat) u, ws[j]? = some u → w.cell? ⟨b, o + j, none⟩ = some u) →
      (ag = true → sz ≤ cells.length → ∃ u, (loadVar t ⟨b, o, none⟩).run P w = .ok u w ∧ VRep w (okOf w Fr ρ) ρ (.p (.ag (cells.take sz))) u) ∧
      (ag = false → 0 < cells.length → ∃ u, (loadVar t ⟨b, o, none⟩).run P w = .ok u w ∧ VRep w (okOf w Fr ρ) ρ (.p (leafAt cells 0)) u) := by
    intro b o cells ws hws hcell
    refine ⟨fun hag hle => ?_, fun hag hlt => ?_⟩
    · subst hag
      have hl : (ws.take sz).length = sz := by simp [hws.length]; omega
      have hr := run_load_agg (P := P) (w := w) (t := t) (b := b) (o := o) (us := ws.take sz) ha (by rw [hl]; exact hz) (fun j u hu => by
        rw [List.getElem?_take] at hu
        split at hu
        · exact hcell j u hu
        · simp at hu)
      exact ⟨_, hr, .p (.ag _ _ (hws.take sz))⟩
    · subst hag
      obtain ⟨u, hu, hp⟩ := hws.get (getD_get .nf hlt)
      have hr := run_load_one (P := P) (w := w) (t := t) (b := b) (o := o) (u := u) ha (by simpa using hcell 0 u hu)
      exact ⟨_, hr, .p hp⟩
  unfold semLoad at hs
  split at hs
  · rename_i cells heq
    cases heq
    cases hv with
    | pp hok hus hcell =>
      obtain ⟨m1, m2⟩ := main _ _ _ _ hus hcell
      split at hs
      · simp only [Option.some.injEq, Prod.mk.injEq] at hs; obtain ⟨rfl, rfl, rfl, rfl⟩ := hs
        obtain ⟨u, h1, h2⟩ := m1 rfl hc
        exact ⟨_, u, rfl, h1, h2⟩
      · simp only [Option.some.injEq, Prod.mk.injEq] at hs; obtain ⟨rfl, rfl, rfl, rfl⟩ := hs
        obtain ⟨u, h1, h2⟩ := m2 rfl hc
        exact ⟨_, u, rfl, h1, h2⟩
  · rename_i r i j heq
    cases heq
    cases hv with
    | ptr hptr =>
      split at hs
      · rename_i es els hb
        obtain ⟨L, hbox⟩ := hsg.box r _ hb
        have harr : ArrRep w (okOf w Fr ρ) ρ r L (pcells els) := hbox.arr (by intro e h; cases h)
        cases hptr L hbox.loc
        have hesz : L.es = _ := hbox.esz (by intro e h; cases h)
        simp only [Box.es] at hesz
        have helt : i < els.length → (els.getD i .nf).cells.length = L.es := fun hi => by
          have := harr.sz _ (List.mem_of_getElem? (pcells_get (getD_get (.nf : PV) hi))); simpa using this
        have elem : i < els.length → ∃ ws, PReps w (okOf w Fr ρ) ((els.getD i .nf).cells.drop j) ws ∧ ∀ (k : Nat) u, ws[k]? = some u → w.cell? ⟨L.blk, L.off + i * L.es + j + k, none⟩ = some u := by
          intro hi
          obtain ⟨ws, hws, _, hcell⟩ := harr.cells_p (getD_get .nf hi)
          exact ⟨ws.drop j, hws.drop j, fun k u hu => by
            rw [List.getElem?_drop] at hu
            rw [Nat.add_assoc]; exact hcell _ u hu⟩
        split at hs
        · split at hs
          · simp only [Option.some.injEq, Prod.mk.injEq] at hs; obtain ⟨rfl, rfl, rfl, rfl⟩ := hs
            obtain ⟨rfl, hi, he, hl⟩ := hc
            have hl := (helt hi).trans (hesz.trans hl)
            obtain ⟨ws, hws, hcell⟩ := elem hi
            have := (main _ _ _ _ hws hcell).1 rfl (by rw [List.length_drop]; omega)
            rw [List.drop_zero, List.take_of_length_le (by omega), ← he] at this
            obtain ⟨u, h1, h2⟩ := this
            exact ⟨_, u, rfl, h1, h2⟩
          · simp only [Option.some.injEq, Prod.mk.injEq] at hs; obtain ⟨rfl, rfl, rfl, rfl⟩ := hs
            obtain ⟨hi, hl⟩ := hc
            have hel := helt hi
            obtain ⟨ws, hws, hcell⟩ := elem hi
            obtain ⟨u, h1, h2⟩ := (main _ _ _ _ hws hcell).1 rfl (by rw [List.length_drop]; omega)
            exact ⟨_, u, rfl, h1, h2⟩
        · simp only [Option.some.injEq, Prod.mk.injEq] at hs; obtain ⟨rfl, rfl, rfl, rfl⟩ := hs
          obtain ⟨hi, hl⟩ := hc
          have hel := helt hi
          obtain ⟨ws, hws, hcell⟩ := elem hi
          have := (main _ _ _ _ hws hcell).2 rfl (by rw [List.length_drop]; omega)
          obtain ⟨u, h1, h2⟩ := this
          exact ⟨_, u, rfl, h1, by simpa [leafAt, List.getD] using h2⟩
      · rename_i es els hb
        obtain ⟨L, hbox⟩ := hsg.box r _ hb
        have harr : ArrRep w (okOf w Fr ρ) ρ r L els := hbox.arr (by intro e h; cases h)
        cases hptr L hbox.loc
        split at hs
        · simp only [Option.some.injEq, Prod.mk.injEq] at hs; obtain ⟨rfl, rfl, rfl, rfl⟩ := hs
          obtain ⟨hi, hl, hlf⟩ := hc
          have hesz : L.es = _ := hbox.esz (by intro e h; cases h)
          simp only [Box.es] at hesz
          have hel := harr.sz _ (List.mem_of_getElem? (getD_get [] hi))
          obtain ⟨ws, hws, hcell⟩ := harr.cells (getD_get [] hi) hlf
          have hws' : VReps w (okOf w Fr ρ) ρ (((els.getD i []).drop j).take sz) ((ws.drop j).take sz) := by
            refine VReps.of_get (by simp [hws.length]) (fun k x u hx hu => ?_)
            rw [List.getElem?_take] at hx hu
            split at hx
            · rename_i hk
              simp only [hk, if_true] at hu
              rw [List.getElem?_drop] at hx hu
              obtain ⟨u', hu', hr⟩ := hws.get hx
              rw [hu'] at hu; cases hu; exact hr
            · simp at hx
          have hl2 : ((ws.drop j).take sz).length = sz := by simp only [List.length_take, List.length_drop, hws.length]; omega
          have hr := run_load_agg (P := P) (w := w) (t := t) (b := L.blk) (o := L.off + i * L.es + j) (us := (ws.drop j).take sz) ha (by rw [hl2]; exact hz) (fun k u hu => by
            rw [List.getElem?_take] at hu
            split at hu
            · rw [List.getElem?_drop] at hu; rw [Nat.add_assoc]; exact hcell _ u hu
            · simp at hu)
          exact ⟨_, _, rfl, hr, mkAgg_rep hws'⟩
        · split at hs
          · rename_i y hy
            simp only [Option.some.injEq, Prod.mk.injEq] at hs; obtain ⟨rfl, rfl, rfl, rfl⟩ := hs
            obtain ⟨hlf, hi⟩ := hc
            have hcap : 0 < L.cap := Nat.lt_of_lt_of_le (Nat.lt_of_le_of_lt (Nat.zero_le _) hi) harr.len
            obtain ⟨cc, T, q1, q2, q3⟩ := harr.mem hcap
            obtain ⟨u, hu, hr⟩ := q3 i j _ y (getD_get [] hi) hy
            have : y.al r i j = y := by cases y <;> simp_all [V.al, V.leaf]
            rw [this] at hr
            have hrun := run_load_one (P := P) (w := w) (t := t) (b := L.blk) (o := L.off + i * L.es + j) (u := u) ha (by simp [World.cell?, q1, hu])
            exact ⟨_, u, rfl, hrun, hr⟩
          · simp at hs
      · simp at hs
  · simp at hs

/-- A function's results: slots, or cells (then: is it an aggregate, and its size). -/
abbrev CRes := Nat × Option (Bool × Nat)

def compRes (P : Program) : List ResultVar → Option (List CRes)
  | [] => some []
  | .tmp t :: l => match compRes P l with
    | some r => if t < 1000000 then some ((t, none) :: r) else none
    | none => none
  | .cell t ty :: l => match compRes P l, isAggT P ty, sizeOfT P ty with
    | some r, some a, some s => if t < 1000000 ∧ (a || s == 1) = true then some ((t, some (a, s)) :: r) else none
    | _, _, _ => none

inductive FinV : List CRes → St → List V → Prop where
  | nil (S : St) : FinV [] S []
  | tmp {t : Nat} {l : List CRes} {S : St} {v : V} {vs : List V} (h : Env.get S.env t = some v) (hs : FinV l S vs) : FinV ((t, none) :: l) S (v :: vs)
  | cell (alt : Nat) {t : Nat} {ag : Bool} {sz : Nat} {l : List CRes} {S : St} {x v : V} {vs : List V} {c : Prop} {R : List Nat} {Δ : Sg} (h : Env.get S.env t = some x) (hl : semLoad alt ag sz [x] S.sg = some (c, v, R, Δ)) (hc : c) (hs : FinV l S vs) : FinV ((t, some (ag, sz)) :: l) S (v :: vs)

def retV : List V → V
  | [v] => v
  | l => .tup l

def resOne (tmps : Array Value) : ResultVar → Sem Value
  | .tmp t => pure (tmps.getD t undef)
  | .cell b t => do loadVar t (← asAddr (tmps.getD b undef))

theorem results_eq (fn : Func) (tmps : Array Value) : results fn tmps = (do
    let vs ← fn.results.mapM (resOne tmps)
    pure (if h : vs.size = 1 then vs[0] else .tuple vs)) := by
  unfold results
  congr 2

theorem fin_rep {a : Act} {e : Env} (he : EnvRep w (okOf w Fr ρ) ρ a e) (hsg : SgRel w Fr ρ sg) : ∀ {rs : List ResultVar} {cs : List CRes} {vs : List V}, compRes P rs = some cs → FinV cs ⟨e, sg⟩ vs →
    ∃ us, VReps w (okOf w Fr ρ) ρ vs us ∧ (rs.mapM (resOne a.tmps)).run P w = .ok us w
  | [], cs, vs, h, hf => by
    simp only [compRes, Option.some.injEq] at h; subst h
    cases hf
    exact ⟨[], .nil, by simp⟩
  | .tmp t :: rs, cs, vs, h, hf => by
    simp only [compRes] at h
    split at h
    · rename_i r hr
      split at h
      · rename_i ht
        simp only [Option.some.injEq] at h; subst h
        cases hf with
        | tmp hv hs =>
          obtain ⟨us, h1, h2⟩ := fin_rep he hsg hr hs
          obtain ⟨u, hu, hrep⟩ := he t _ hv
          simp only [look, ht, if_true] at hu
          refine ⟨u :: us, .cons hrep h1, ?_⟩
          rw [List.mapM_cons]
          simp [Sem.run_bind, h2, hu, resOne]
      · cases h
    · cases h
  | .cell t ty :: rs, cs, vs, h, hf => by
    simp only [compRes] at h
    split at h
    · rename_i r a' s' hr ha hz
      split at h
      · rename_i hcond
        simp only [Option.some.injEq] at h; subst h
        cases hf with
        | cell alt hv hl hc hs =>
          obtain ⟨us, h1, h2⟩ := fin_rep he hsg hr hs
          obtain ⟨p, hp, hrep⟩ := he t _ hv
          simp only [look, hcond.1, if_true] at hp
          obtain ⟨ad, u, rfl, g1, g2⟩ := load_w ty ha hz (fun h => by have := hcond.2; rw [h] at this; simpa using this) hl hc hrep hsg
          refine ⟨u :: us, .cons g2 h1, ?_⟩
          rw [List.mapM_cons]
          simp [Sem.run_bind, h2, hp, asAddr, g1, resOne]
      · cases h
    · cases h

/-- What is known of a function's text. -/
structure FnOK (P : Program) (f : FuncId) (nt : Nat) (c : IC) (rs : List CRes) : Prop where
  ex : ∃ fn cd, P.funcs[f]? = some fn ∧ (fn.name == "runtime.NumGoroutine") = false ∧ fn.body = some cd ∧ fn.ntmps = nt ∧ compileC P nt cd = some c ∧ compRes P fn.results.toList = some rs

def argEnv : Nat → List V → Env → Env
  | _, [], e => e
  | n, v :: l, e => (n, v) :: argEnv (n + 1) l e

/-- Where a function leaves off. -/
def RetQ (rs : List CRes) (v : V) (sg' : Sg) : Exit → St → Prop
  | .ret, S | .normal, S => ∃ vs fz km, FinV rs S vs ∧ Le fz [] km ⟨[(0, retV vs)], S.sg⟩ ⟨[(0, v)], sg'⟩
  | _, _ => False

theorem argEnv_get : ∀ {l : List V} {us : List Value} {n : Nat} {e : Env} {t : Nat} {v : V} {ok : Nat → Prop}, VReps w ok ρ l us → Env.get (argEnv n l e) t = some v →
    (∃ u, us[t - n]? = some u ∧ n ≤ t ∧ VRep w ok ρ v u) ∨ Env.get e t = some v
  | [], us, n, e, t, v, ok, _, h => .inr h
  | x :: l, us, n, e, t, v, ok, hr, h => by
    cases hr with
    | cons h1 hs =>
      simp only [argEnv, Env.get] at h
      split at h
      · rename_i hb
        have := Nat.eq_of_beq_eq_true hb
        subst this
        cases h
        exact .inl ⟨_, by simp, Nat.le_refl _, h1⟩
      · rename_i hb
        have hne := Nat.ne_of_beq_eq_false hb
        rcases argEnv_get hs h with ⟨u, hu, hle, hv⟩ | h
        · refine .inl ⟨u, ?_, by omega, hv⟩
          have : t - n = (t - (n + 1)) + 1 := by omega
          rw [this]; simpa using hu
        · exact .inr h

theorem FnOK.dcg {f : FuncId} {nt : Nat} {c : IC} {rs : List CRes} (hf : FnOK P f nt c rs) {gl : Env} {args : List V} {sg sg' : Sg} {v : V} (hlen : Nat.ble args.length nt = true) (hlt : Nat.blt nt 1000000 = true)
    (hids : (sg.all fun e => Nat.ble 1000 e.1) = true) (hglk : (gl.all fun e => Nat.ble 1000000 e.1) = true) (h : D P nt c ⟨argEnv 0 args gl, sg⟩ (RetQ rs v sg')) : DC P f gl args sg v sg' := by
  obtain ⟨fn, cd, h1, h2, h3, h4, h5, h6⟩ := hf.ex
  subst h4
  intro Fr ρ w us hv hsg hgl
  refine calls_of_wp h1 h3 (wp_mono (h cd h5 Fr ρ w _ w ⟨⟨ρ, ?_, hsg, Evo.refl _ _, fun r s L hL => .inl hL⟩, rfl, ?_⟩) ?_)
  · intro t v ht
    rcases argEnv_get hv ht with ⟨u, hu, _, hr⟩ | hg
    · have hlt' : t < us.length := by have := (List.getElem?_eq_some_iff.1 hu).1; simpa using this
      have : t < 1000000 := by
        have q1 := hv.length
        have q2 := Nat.le_of_ble_eq_true hlen
        have q3 : fn.ntmps < 1000000 := Nat.le_of_ble_eq_true hlt
        omega
      refine ⟨u, ?_, hr⟩
      simp only [look, this, if_true]
      rw [Array.getElem?_append_left (by simpa using hlt')]
      simpa using hu
    · obtain ⟨q1, q2⟩ := hgl t v hg
      refine ⟨_, ?_, q2⟩
      have : ¬ t < 1000000 := by omega
      simp [look, this]
  · have q1 := hv.length
    have q2 := Nat.le_of_ble_eq_true hlen
    simp; omega
  · rintro e a' w' ⟨S', hq, hr⟩
    have main : (∃ vs fz km, FinV rs S' vs ∧ Le fz [] km ⟨[(0, retV vs)], S'.sg⟩ ⟨[(0, v)], sg'⟩) → a'.defers = [] ∧ ∃ u, (results fn a'.tmps).run P w' = .ok u w' ∧
        ∃ u' ρ', Ending.returned u = .returned u' ∧ Evo w ρ w' ρ' ∧ VRep w' (okOf w' Fr ρ') ρ' v u' ∧ SgRel w' Fr ρ' sg' ∧ ∀ r s L, ρ' r s = some L → ρ r s = some L ∨ ∀ s', ρ r s' = none := by
      rintro ⟨vs, fz, km, hfin, hle⟩
      obtain ⟨ρ', e1, e2, e3, e4⟩ := hr.ex
      obtain ⟨us', g1, g2⟩ := fin_rep (P := P) e1 e2 h6 hfin
      have hrun : (results fn a'.tmps).run P w' = .ok (if h : us'.toArray.size = 1 then us'.toArray[0] else .tuple us'.toArray) w' := by
        rw [results_eq, ← Array.toArray_toList (xs := fn.results), List.mapM_toArray]
        simp [Sem.run_bind, Sem.run_map, g2]
      refine ⟨hr.defers, _, hrun, ?_⟩
      have hret : VRep w' (okOf w' Fr ρ') ρ' (retV vs) (if h : us'.toArray.size = 1 then us'.toArray[0] else .tuple us'.toArray) := by
        have hl := g1.length
        match vs, us', g1 with
        | [x], [u], .cons h _ => simpa [retV] using h
        | [], [], .nil => exact .tup .nil
        | x :: y :: l, u :: u2 :: us2, g1 => simpa [retV] using VRep.tup g1
      have hrel1 : Rel Fr ρ w 1 ⟨[(0, retV vs)], S'.sg⟩ { tmps := #[if h : us'.toArray.size = 1 then us'.toArray[0] else .tuple us'.toArray], defers := [] } w' := by
        refine ⟨⟨ρ', fun t x ht => ?_, e2, e3, e4⟩, rfl, rfl⟩
        simp only [Env.get] at ht
        split at ht
        · rename_i hb
          have := Nat.eq_of_beq_eq_true hb
          subst this
          cases ht
          exact ⟨_, by simp [look], hret⟩
        · cases ht
      obtain ⟨ρ2, f1, f2, f3, f4⟩ := (hrel1.weak hle).ex
      obtain ⟨u, hu, hvr⟩ := f1 0 v rfl
      simp [look] at hu
      refine ⟨_, ρ2, rfl, f3, ?_, f2, fun r s L hL => ?_⟩
      · rw [← hu] at hvr; simpa using hvr
      · rcases f4 r s L hL with h | h
        · exact .inl h
        · refine .inr (fun s' => ?_)
          cases hh : ρ r s' with
          | none => rfl
          | some L' =>
            obtain ⟨b, hb⟩ := hsg.dom r s' L' hh
            have := List.all_eq_true.1 hids _ (get_mem hb)
            have := Nat.le_of_ble_eq_true this
            omega
    cases e with
    | ret => exact main hq
    | normal => exact main hq
    | _ => exact hq.elim

theorem FnOK.has {f : FuncId} {nt : Nat} {c : IC} {rs : List CRes} (hf : FnOK P f nt c rs) : HasBody P f := by
  obtain ⟨fn, cd, h1, h2, h3, _⟩ := hf.ex
  exact ⟨fn, cd, h1, h2, h3⟩

theorem FnOK.fc {f : FuncId} {nt : Nat} {c : IC} {rs : List CRes} (hf : FnOK P f nt c rs) {args : List V} {sg sg' : Sg} {v : V} (hlen : Nat.ble args.length nt = true) (hlt : Nat.blt nt 1000000 = true)
    (hids : (sg.all fun e => Nat.ble 1000 e.1) = true) (h : D P nt c ⟨argEnv 0 args [], sg⟩ (RetQ rs v sg')) : FC P f args sg v sg' := ⟨hf.has, hf.dcg hlen hlt hids rfl h⟩
end
end Go.DW

/- Rules for lists of data. -/
namespace Go.DW
section
variable {P : Program} {d : Nat} {args : List X} {g : Option (Nat × Bool)} {ops : List IOper} {e : Env} {sg : Sg} {K' : List TE → St → Prop}

/-- A store; the new box as it is to be read. -/
theorem o_st (alt : Nat) (b' : Box) {sz : Nat} {r : Nat} {b : Box} {vals : List V} {c : Prop} {R : List Nat} (hg : guardV e g = some true) (hv : evs e args = some vals)
    (hs : sem alt 0 (.store sz) vals sg = some (c, .junk, R, [(r, some b)])) (hc : c) (hb : b = b')
    (h : OpsW P ops ⟨e, (r, some b') :: sg⟩ (fun ts S' => K' (⟨true, vals, .junk, R, [], [(r, some b')]⟩ :: ts) S')) : OpsW P (⟨none, .store sz, args, g⟩ :: ops) ⟨e, sg⟩ K' := by
  subst hb
  exact o_op alt hg hv hs rfl hc rfl h

/-- The length of a list of data. -/
theorem o_lenM {α : Type} (f : α → PV) (l : List α) (hg : guardV e g = some true) (hv : evs e args = some [.p (.sl (l.map f))])
    (h : OpsW P ops ⟨(d, .p (.i .i64 l.length)) :: e, sg⟩ (fun ts S' => K' (⟨true, [.p (.sl (l.map f))], .p (.i .i64 l.length), [], [], []⟩ :: ts) S')) : OpsW P (⟨some d, .len, args, g⟩ :: ops) ⟨e, sg⟩ K' :=
  o_as _ hg hv rfl rfl trivial (by rw [List.length_map]) h

theorem getD_map {α : Type} (f : α → PV) (dv : α) : ∀ (l : List α) (i : Nat), i < l.length → (l.map f).getD i .nf = f (l.getD i dv)
  | [], _, h => by simp at h
  | x :: l, 0, _ => rfl
  | x :: l, i + 1, h => by
    have := getD_map f dv l i (by simpa using h)
    simpa using this

/-- The address of an element. -/
theorem o_iadM {α : Type} (f : α → PV) (dv : α) (l : List α) {es : Nat} {k : IntKind} {x : Int} (hg : guardV e g = some true) (hv : evs e args = some [.p (.sl (l.map f)), .p (.i k x)]) (h0 : 0 ≤ x ∧ x < l.length)
    (hes : (f (l.getD x.toNat dv)).cells.length = es)
    (h : OpsW P ops ⟨(d, .pp (f (l.getD x.toNat dv)).cells) :: e, sg⟩ (fun ts S' => K' (⟨true, [.p (.sl (l.map f)), .p (.i k x)], .pp (f (l.getD x.toNat dv)).cells, [], [], []⟩ :: ts) S')) : OpsW P (⟨some d, .iad es, args, g⟩ :: ops) ⟨e, sg⟩ K' := by
  have e1 : (l.map f).getD x.toNat .nf = f (l.getD x.toNat dv) := getD_map f dv l _ (by omega)
  refine o_as _ hg hv rfl rfl ⟨h0.1, ?_, ?_⟩ ?_ h
  · rw [List.length_map]; exact h0.2
  · rw [e1]; exact hes
  · rw [e1]

theorem slcAt_sl {es : Nat} {l : List PV} {a b : Int} (h : 0 ≤ a ∧ a ≤ b ∧ b ≤ l.length) (hz : szs es l) : ∃ c, slcAt es (.p (.sl l)) a b sg = some (c, .p (.sl ((l.drop a.toNat).take (b.toNat - a.toNat))), [], []) ∧ c := by
  unfold slcAt
  match a with
  | .ofNat 0 => exact ⟨_, rfl, h.2.1, h.2.2⟩
  | .ofNat (n + 1) => exact ⟨_, rfl, h.1, h.2.1, h.2.2, hz⟩
  | .negSucc n => exact absurd h.1 (by omega)

theorem szs_map {α : Type} {f : α → PV} {es : Nat} {l : List α} (h : ∀ x ∈ l, (f x).cells.length = es) : szs es (l.map f) := by
  intro y hy
  obtain ⟨x, hx, rfl⟩ := List.mem_map.1 hy
  exact h x hx

/-- A part of a list of data. -/
theorem o_slcM {α : Type} (f : α → PV) (l : List α) {es : Nat} {a b : Int} (hg : guardV e g = some true) (hv : evs e args = some [.p (.sl (l.map f)), .p (.i .i64 a), .p (.i .i64 b)]) (h0 : 0 ≤ a ∧ a ≤ b ∧ b ≤ l.length) (hes : ∀ x ∈ l, (f x).cells.length = es)
    (h : OpsW P ops ⟨(d, .p (.sl (((l.drop a.toNat).take (b.toNat - a.toNat)).map f))) :: e, sg⟩ (fun ts S' => K' (⟨true, [.p (.sl (l.map f)), .p (.i .i64 a), .p (.i .i64 b)], .p (.sl (((l.drop a.toNat).take (b.toNat - a.toNat)).map f)), [], [], []⟩ :: ts) S')) :
    OpsW P (⟨some d, .slc es true true, args, g⟩ :: ops) ⟨e, sg⟩ K' := by
  obtain ⟨c, h1, h2⟩ := slcAt_sl (sg := sg) (l := l.map f) (by rw [List.length_map]; exact h0) (szs_map hes)
  refine o_as _ hg hv (c := c) (R := []) (v := .p (.sl (((l.map f).drop a.toNat).take (b.toNat - a.toNat)))) h1 rfl h2 ?_ h
  rw [List.map_take, List.map_drop]

/-- The beginning of a list of data. -/
theorem o_takeM {α : Type} (f : α → PV) (l : List α) {es : Nat} {b : Int} (hg : guardV e g = some true) (hv : evs e args = some [.p (.sl (l.map f)), .p (.i .i64 b)]) (h0 : 0 ≤ b ∧ b ≤ l.length)
    (h : OpsW P ops ⟨(d, .p (.sl ((l.take b.toNat).map f))) :: e, sg⟩ (fun ts S' => K' (⟨true, [.p (.sl (l.map f)), .p (.i .i64 b)], .p (.sl ((l.take b.toNat).map f)), [], [], []⟩ :: ts) S')) :
    OpsW P (⟨some d, .slc es false true, args, g⟩ :: ops) ⟨e, sg⟩ K' := by
  refine o_as _ hg hv rfl rfl (by rw [List.length_map]; exact h0) ?_ h
  rw [List.map_take]

/-- The rest of a list of data. -/
theorem o_dropM {α : Type} (f : α → PV) (l : List α) {es : Nat} {a : Int} (hg : guardV e g = some true) (hv : evs e args = some [.p (.sl (l.map f)), .p (.i .i64 a)]) (h0 : 0 ≤ a ∧ a ≤ l.length) (hes : ∀ x ∈ l, (f x).cells.length = es)
    (h : OpsW P ops ⟨(d, .p (.sl ((l.drop a.toNat).map f))) :: e, sg⟩ (fun ts S' => K' (⟨true, [.p (.sl (l.map f)), .p (.i .i64 a)], .p (.sl ((l.drop a.toNat).map f)), [], [], []⟩ :: ts) S')) :
    OpsW P (⟨some d, .slc es true false, args, g⟩ :: ops) ⟨e, sg⟩ K' := by
  refine o_as _ hg hv rfl rfl ⟨h0.1, by rw [List.length_map]; exact h0.2, szs_map hes⟩ ?_ h
  rw [List.map_drop]

theorem bytes_B (a : List UInt8) : (a.map B).map PV.byte = a := by
  rw [List.map_map]
  conv => rhs; rw [← List.map_id a]
  refine List.map_congr_left (fun x _ => ?_)
  simp [B, PV.byte]

theorem isByte_B (a : List UInt8) : ∀ x ∈ a.map B, x.isByte := by
  intro x hx
  obtain ⟨y, _, rfl⟩ := List.mem_map.1 hx
  simp only [B, PV.isByte]
  have := y.toNat_lt
  omega

theorem cells_B (a : List UInt8) : ∀ x ∈ a, (B x).cells.length = 1 := fun _ _ => rfl

/-- Bytes, as a string. -/
theorem o_b2sB (l : List UInt8) (hg : guardV e g = some true) (hv : evs e args = some [.p (.sl (l.map B))])
    (h : OpsW P ops ⟨(d, .p (.s l)) :: e, sg⟩ (fun ts S' => K' (⟨true, [.p (.sl (l.map B))], .p (.s l), [], [], []⟩ :: ts) S')) : OpsW P (⟨some d, .b2s, args, g⟩ :: ops) ⟨e, sg⟩ K' :=
  o_as _ hg hv rfl rfl ⟨trivial, isByte_B l⟩ (by rw [bytes_B]) h

def byteOf (n : Int) : UInt8 := UInt8.ofNat (n % 256).toNat

theorem wrap_byte (n : Int) : PV.i .u8 (IntKind.wrap .u8 n) = B (byteOf n) := by
  simp only [IntKind.wrap, IntKind.signed, IntKind.bits, Bool.false_and, Bool.false_eq_true, if_false, B, byteOf, PV.i.injEq, true_and, UInt8.toNat_ofNat']
  omega

/-- A number, as a byte. -/
theorem o_cvb {k : IntKind} {n : Int} (hg : guardV e g = some true) (hv : evs e args = some [.p (.i k n)])
    (h : OpsW P ops ⟨(d, .p (B (byteOf n))) :: e, sg⟩ (fun ts S' => K' (⟨true, [.p (.i k n)], .p (B (byteOf n)), [], [], []⟩ :: ts) S')) : OpsW P (⟨some d, .conv .u8, args, g⟩ :: ops) ⟨e, sg⟩ K' :=
  o_as _ hg hv rfl rfl trivial (by rw [← wrap_byte]) h

/-- What is computed in bytes. -/
theorem o_u8w {k : K} {vals : List V} {c : Prop} {x : Int} {R : List Nat} (hg : guardV e g = some true) (hv : evs e args = some vals) (hs : sem 0 d k vals sg = some (c, .p (.i .u8 (IntKind.wrap .u8 x)), R, [])) (hn : k.new = false) (hc : c)
    (h : OpsW P ops ⟨(d, .p (B (byteOf x))) :: e, sg⟩ (fun ts S' => K' (⟨true, vals, .p (B (byteOf x)), R, [], []⟩ :: ts) S')) : OpsW P (⟨some d, k, args, g⟩ :: ops) ⟨e, sg⟩ K' :=
  o_as _ hg hv hs hn hc (by rw [← wrap_byte]) h

theorem byteOf_toNat {x : Int} (h : 0 ≤ x ∧ x < 256) : ((byteOf x).toNat : Int) = x := by
  simp only [byteOf, UInt8.toNat_ofNat']
  omega

/-- A byte, as a number. -/
theorem o_cvB {b : UInt8} (hg : guardV e g = some true) (hv : evs e args = some [.p (B b)])
    (h : OpsW P ops ⟨(d, .p (.i .i64 b.toNat)) :: e, sg⟩ (fun ts S' => K' (⟨true, [.p (B b)], .p (.i .i64 b.toNat), [], [], []⟩ :: ts) S')) : OpsW P (⟨some d, .conv .i64, args, g⟩ :: ops) ⟨e, sg⟩ K' :=
  o_as _ hg hv rfl rfl trivial (by rw [wrap_i64]; have := b.toNat_lt; omega) h

/-- The load of a byte. -/
theorem o_ldB {b : UInt8} (hg : guardV e g = some true) (hv : evs e args = some [.pp [B b]])
    (h : OpsW P ops ⟨(d, .p (B b)) :: e, sg⟩ (fun ts S' => K' (⟨true, [.pp [B b]], .p (B b), [], [], []⟩ :: ts) S')) : OpsW P (⟨some d, .load false 1, args, g⟩ :: ops) ⟨e, sg⟩ K' :=
  o_as _ hg hv rfl rfl Nat.one_pos rfl h

/-- The load of a cell. -/
theorem o_ld1 {x : PV} (hg : guardV e g = some true) (hv : evs e args = some [.pp [x]])
    (h : OpsW P ops ⟨(d, .p x) :: e, sg⟩ (fun ts S' => K' (⟨true, [.pp [x]], .p x, [], [], []⟩ :: ts) S')) : OpsW P (⟨some d, .load false 1, args, g⟩ :: ops) ⟨e, sg⟩ K' :=
  o_as _ hg hv rfl rfl Nat.one_pos rfl h

/-- A byte of a string. -/
theorem o_idxS (l : List UInt8) {k : IntKind} {x : Int} (hg : guardV e g = some true) (hv : evs e args = some [.p (.s l), .p (.i k x)]) (h0 : 0 ≤ x ∧ x < l.length)
    (h : OpsW P ops ⟨(d, .p (B (l.getD x.toNat 0))) :: e, sg⟩ (fun ts S' => K' (⟨true, [.p (.s l), .p (.i k x)], .p (B (l.getD x.toNat 0)), [], [], []⟩ :: ts) S')) : OpsW P (⟨some d, .idx, args, g⟩ :: ops) ⟨e, sg⟩ K' :=
  o_pu hg hv rfl rfl h0 h

/-- What is left of a division. -/
theorem o_rem {a b : Int} (hg : guardV e g = some true) (hv : evs e args = some [.p (.i .i64 a), .p (.i .i64 b)]) (h0 : 0 ≤ a ∧ 0 < b)
    (h : OpsW P ops ⟨(d, .p (.i .i64 (a % b))) :: e, sg⟩ (fun ts S' => K' (⟨true, [.p (.i .i64 a), .p (.i .i64 b)], .p (.i .i64 (a % b)), [], [], []⟩ :: ts) S')) : OpsW P (⟨some d, .bin .rem, args, g⟩ :: ops) ⟨e, sg⟩ K' :=
  o_as _ hg hv rfl rfl (show b ≠ 0 by omega) (by rw [Int.tmod_eq_emod_of_nonneg h0.1]) h

theorem o_quo {a b : Int} (hg : guardV e g = some true) (hv : evs e args = some [.p (.i .i64 a), .p (.i .i64 b)]) (h0 : 0 ≤ a ∧ 0 < b ∧ a < 9223372036854775808)
    (h : OpsW P ops ⟨(d, .p (.i .i64 (a / b))) :: e, sg⟩ (fun ts S' => K' (⟨true, [.p (.i .i64 a), .p (.i .i64 b)], .p (.i .i64 (a / b)), [], [], []⟩ :: ts) S')) : OpsW P (⟨some d, .bin .quo, args, g⟩ :: ops) ⟨e, sg⟩ K' := by
  refine o_as _ hg hv rfl rfl (show b ≠ 0 by omega) ?_ h
  rw [Int.tdiv_eq_ediv_of_nonneg h0.1, wrap_i64]
  have h1 : 0 ≤ a / b := Int.ediv_nonneg h0.1 (by omega)
  have h2 : a / b ≤ a := Int.ediv_le_self b h0.1
  omega

theorem leaf_B (l : List UInt8) : ∀ y ∈ l.map B, y.cells.length = 1 ∧ y.cells.all PV.leaf = true := by
  intro y hy
  obtain ⟨x, _, rfl⟩ := List.mem_map.1 hy
  exact ⟨rfl, rfl⟩

/-- Data appended to a slice of its own. -/
theorem o_appM {α : Type} (f : α → PV) (l m : List α) {es by_ r : Nat} {x : V} {R : List Nat} {n : Nat} {c : Prop} (hg : guardV e g = some true) (hv : evs e args = some [.os r none 0 n, x]) (hb : Sg.get sg r = some (.pv es (l.map f))) (hn : n = l.length)
    (hx : elsOf sg x = some (c, m.map f, R)) (hc : c) (hes : ∀ y ∈ m, (f y).cells.length = es ∧ (f y).cells.all PV.leaf = true) (hsz : (l.length + m.length) * by_ ≤ 140737488355328) (hf : freshOk (.app es by_) d ⟨e, sg⟩ [.os r none 0 n, x] = true)
    (h : OpsW P ops ⟨(d, .os d none 0 (l ++ m).length) :: e, (d, some (.pv es ((l ++ m).map f))) :: (r, none) :: sg⟩ (fun ts S' => K' (⟨true, [.os r none 0 n, x], .os d none 0 (l ++ m).length, r :: R, [d], [(d, some (.pv es ((l ++ m).map f))), (r, none)]⟩ :: ts) S')) :
    OpsW P (⟨some d, .app es by_, args, g⟩ :: ops) ⟨e, sg⟩ K' := by
  subst hn
  have hs : sem 0 d (.app es by_) [.os r none 0 l.length, x] sg = some ((l.length = (l.map f).length ∧ es = es) ∧ c ∧ (∀ y ∈ m.map f, y.cells.length = es ∧ y.cells.all PV.leaf = true) ∧ ((l.map f).length + (m.map f).length) * by_ ≤ 140737488355328,
      .os d none 0 ((l.map f).length + (m.map f).length), [r] ++ R, (d, some (.pv es (l.map f ++ m.map f))) :: [(r, none)]) := by
    simp only [sem, semApp, baseOf, hb, hx]
    rfl
  refine o_op 0 (o := ⟨some d, .app es by_, args, g⟩) hg hv hs hf ⟨⟨by simp, rfl⟩, hc, ?_, by simpa using hsz⟩ (v' := .os d none 0 (l ++ m).length) (by simp) ?_
  · intro y hy
    obtain ⟨z, hz, rfl⟩ := List.mem_map.1 hy
    exact hes z hz
  · have e1 : newOf (.app es by_) d = [d] := rfl
    simp only [Option.getD_some, e1, ← List.map_append]
    exact h

/-- Data appended to a nil slice. -/
theorem o_appN {α : Type} (f : α → PV) (m : List α) {es by_ : Nat} {x : V} {R : List Nat} {c : Prop} (hg : guardV e g = some true) (hv : evs e args = some [.nils, x])
    (hx : elsOf sg x = some (c, m.map f, R)) (hc : c) (hes : ∀ y ∈ m, (f y).cells.length = es ∧ (f y).cells.all PV.leaf = true) (hsz : m.length * by_ ≤ 140737488355328) (hf : freshOk (.app es by_) d ⟨e, sg⟩ [.nils, x] = true)
    (h : OpsW P ops ⟨(d, .os d none 0 m.length) :: e, (d, some (.pv es (m.map f))) :: sg⟩ (fun ts S' => K' (⟨true, [.nils, x], .os d none 0 m.length, R, [d], [(d, some (.pv es (m.map f)))]⟩ :: ts) S')) :
    OpsW P (⟨some d, .app es by_, args, g⟩ :: ops) ⟨e, sg⟩ K' := by
  have hs : sem 0 d (.app es by_) [.nils, x] sg = some (True ∧ c ∧ (∀ y ∈ m.map f, y.cells.length = es ∧ y.cells.all PV.leaf = true) ∧ (([] : List PV).length + (m.map f).length) * by_ ≤ 140737488355328,
      .os d none 0 (([] : List PV).length + (m.map f).length), [] ++ R, (d, some (.pv es ([] ++ m.map f))) :: []) := by
    simp only [sem, semApp, baseOf, hx]
    rfl
  refine o_op 0 (o := ⟨some d, .app es by_, args, g⟩) hg hv hs hf ⟨trivial, hc, ?_, by simpa using hsz⟩ (v' := .os d none 0 m.length) (by simp) ?_
  · intro y hy
    obtain ⟨z, hz, rfl⟩ := List.mem_map.1 hy
    exact hes z hz
  · have e1 : newOf (.app es by_) d = [d] := rfl
    simp only [Option.getD_some, e1, List.nil_append]
    exact h

/-! ### What is built -/
def fillOkB (n : Nat) : List (Nat × Nat) → List V → Bool
  | (off, sz) :: ps, v :: vs => Nat.beq v.cellsV.length sz && Nat.ble (off + sz) n && fillOkB n ps vs
  | [], [] => true
  | _, _ => false

theorem fillOkB_spec {n : Nat} : ∀ {ps : List (Nat × Nat)} {vs : List V}, fillOkB n ps vs = true → fillOk n ps vs
  | (off, sz) :: ps, v :: vs, h => by
    simp only [fillOkB, Bool.and_eq_true] at h
    exact ⟨Nat.eq_of_beq_eq_true h.1.1, Nat.le_of_ble_eq_true h.1.2, fillOkB_spec h.2⟩
  | [], [], _ => trivial
  | [], _ :: _, h => by simp [fillOkB] at h
  | _ :: _, [], h => by simp [fillOkB] at h

def leafB (vs : List V) : Bool := vs.all fun v => v.cellsV.all V.leaf

theorem leafB_spec {vs : List V} (h : leafB vs = true) : ∀ v ∈ vs, v.cellsV.all V.leaf = true := List.all_eq_true.1 h

/-- A struct or an array, built. -/
theorem o_bld (v' : V) {z : List V} {ps : List (Nat × Nat)} {vals : List V} (hg : guardV e g = some true) (hv : evs e args = some vals) (h1 : fillOkB z.length ps vals = true) (h2 : z.all V.leaf = true) (h3 : leafB vals = true) (hv' : mkAgg (fillV z ps vals) = v')
    (h : OpsW P ops ⟨(d, v') :: e, sg⟩ (fun ts S' => K' (⟨true, vals, v', [], [], []⟩ :: ts) S')) : OpsW P (⟨some d, .build z ps, args, g⟩ :: ops) ⟨e, sg⟩ K' :=
  o_as v' hg hv rfl rfl ⟨fillOkB_spec h1, h2, leafB_spec h3⟩ hv' h

/-- A new variable. -/
theorem o_box (b' : Box) {es : Nat} {v : V} (hg : guardV e g = some true) (hv : evs e args = some [v]) (h1 : Nat.beq v.cellsV.length es = true) (h2 : v.cellsV.all V.leaf = true) (hf : freshOk (.box es) d ⟨e, sg⟩ [v] = true) (hb : Box.vs es [v.cellsV] = b')
    (h : OpsW P ops ⟨(d, .ptr d 0 0) :: e, (d, some b') :: sg⟩ (fun ts S' => K' (⟨true, [v], .ptr d 0 0, [], [d], [(d, some b')]⟩ :: ts) S')) : OpsW P (⟨some d, .box es, args, g⟩ :: ops) ⟨e, sg⟩ K' := by
  subst hb
  have hs : sem 0 d (.box es) [v] sg = some (v.cellsV.length = es ∧ v.cellsV.all V.leaf = true, .ptr d 0 0, [], [(d, some (.vs es [v.cellsV]))]) := rfl
  exact o_op 0 (o := ⟨some d, .box es, args, g⟩) hg hv hs hf ⟨Nat.eq_of_beq_eq_true h1, h2⟩ rfl h

def lenB (es : Nat) (vs : List V) : Bool := vs.all fun v => Nat.beq v.cellsV.length es

/-- A slice, built. -/
theorem o_bs (b' : Box) {es n : Nat} {z : V} {pl : List Nat} {vals : List V} (hg : guardV e g = some true) (hv : evs e args = some vals) (h1 : lenB es vals = true) (h2 : leafB vals = true) (h3 : (pl.all fun i => Nat.blt i (n + 1)) = true) (h4 : Nat.beq pl.length vals.length = true) (h5 : z.cellsV.all V.leaf = true)
    (hf : freshOk (.bslice es z (n + 1) pl) d ⟨e, sg⟩ vals = true) (hb : boxOf es (setAll (List.replicate (n + 1) z) pl vals) = b')
    (h : OpsW P ops ⟨(d, .os d none 0 (n + 1)) :: e, (d, some b') :: sg⟩ (fun ts S' => K' (⟨true, vals, .os d none 0 (n + 1), [], [d], [(d, some b')]⟩ :: ts) S')) : OpsW P (⟨some d, .bslice es z (n + 1) pl, args, g⟩ :: ops) ⟨e, sg⟩ K' := by
  subst hb
  have hs : sem 0 d (.bslice es z (n + 1) pl) vals sg = some ((∀ v ∈ vals, v.cellsV.length = es ∧ v.cellsV.all V.leaf = true) ∧ (∀ i ∈ pl, i < n + 1) ∧ pl.length = vals.length ∧ z.cellsV.all V.leaf = true, .os d none 0 (n + 1), [], [(d, some (boxOf es (setAll (List.replicate (n + 1) z) pl vals)))]) := rfl
  refine o_op 0 (o := ⟨some d, .bslice es z (n + 1) pl, args, g⟩) hg hv hs hf ⟨fun v hv => ⟨Nat.eq_of_beq_eq_true (List.all_eq_true.1 h1 v hv), leafB_spec h2 v hv⟩, fun i hi => Nat.le_of_ble_eq_true (List.all_eq_true.1 h3 i hi), Nat.eq_of_beq_eq_true h4, h5⟩ rfl h

/-! ### Calls -/
/-- A call that lets go of arrays of its own ('fz'), and returns a value. -/
theorem o_callf {xs : List X} {gd : Option (Nat × Bool)} {f : FuncId} {as asR caps : List V} {v : V} (fz : List Nat) (hd : FC P f as [] v [])
    (hg : guardV e gd = some true) (hv : evs e xs = some (.fn f caps :: asR)) (hargs : Cvs sg fz [] (asR ++ caps) (V.ren.rens (renL []) as)) (hids : v.idsIn [] = true) (hren : v.ren (renL []) = v)
    (h : OpsW P ops ⟨(d, v) :: e, fzG fz ++ sg⟩ (fun ts S' => K' (⟨true, .fn f caps :: asR, v, fz, [], fzG fz⟩ :: ts) S')) : OpsW P (⟨some d, .call, xs, gd⟩ :: ops) ⟨e, sg⟩ K' := by
  refine o_call fz [] [] hd hg hv hargs rfl rfl rfl trivial trivial rfl hids rfl ?_
  rw [hren]
  exact h

/-- A call that changes one owned thing, and returns a value. -/
theorem o_callC {xs : List X} {gd : Option (Nat × Bool)} {f : FuncId} {as asR caps : List V} {v : V} {b b' : Box} (fz : List Nat) (r : Nat) (hd : FC P f as [(1000, some b)] v [(1000, some b')])
    (hg : guardV e gd = some true) (hv : evs e xs = some (.fn f caps :: asR)) (hargs : Cvs sg fz [] (asR ++ caps) (V.ren.rens (renL [(1000, r)]) as)) (hb : Sg.get (fzG fz ++ sg) r = some b) (hbr : b.ren (renL [(1000, r)]) = b) (hbr' : b'.ren (renL [(1000, r)]) = b')
    (hcl : b'.idsIn [1000] = true) (hids : v.idsIn [1000] = true) (hren : v.ren (renL [(1000, r)]) = v)
    (h : OpsW P ops ⟨(d, v) :: e, (r, some b') :: (fzG fz ++ sg)⟩ (fun ts S' => K' (⟨true, .fn f caps :: asR, v, r :: fz, [], (r, some b') :: fzG fz⟩ :: ts) S')) : OpsW P (⟨some d, .call, xs, gd⟩ :: ops) ⟨e, sg⟩ K' := by
  refine o_call fz [(1000, r)] [] hd hg hv hargs rfl rfl rfl ⟨by simp only [Sg.get]; rw [hbr]; exact hb, trivial⟩ trivial ?_ hids rfl ?_
  · simp only [List.all_cons, List.all_nil, Bool.and_true]
    exact hcl
  · have e1 : callΔ (renL [(1000, r)]) [] [(1000, some b')] [(1000, r)] = [(r, some b')] := by
      simp only [callΔ, List.contains_nil, Sg.get]
      rw [hbr']
    have e2 : callR [(1000, some b)] [(1000, r)] = [r] := rfl
    have e3 : callN [(1000, some b)] [(1000, r)] = [] := rfl
    rw [hren, e1, e2, e3]
    exact h

/-! ### Maps -/
theorem o_mk (hg : guardV e g = some true) (hv : evs e args = some []) (hf : freshOk .mkmap d ⟨e, sg⟩ [] = true)
    (h : OpsW P ops ⟨(d, .mp d) :: e, (d, some (.mp [])) :: sg⟩ (fun ts S' => K' (⟨true, [], .mp d, [], [d], [(d, some (.mp []))]⟩ :: ts) S')) : OpsW P (⟨some d, .mkmap, args, g⟩ :: ops) ⟨e, sg⟩ K' :=
  o_op 0 (o := ⟨some d, .mkmap, args, g⟩) hg hv rfl hf trivial rfl h

def noKeyB (n : Int) : List (PV × V) → Bool
  | [] => true
  | (.i _ a, _) :: l => !(n == a) && noKeyB n l
  | _ :: l => noKeyB n l

theorem noKeyB_spec {n : Int} : ∀ {l : List (PV × V)}, noKeyB n l = true → noKey n l
  | [], _ => trivial
  | (.i _ a, _) :: l, h => by
    simp only [noKeyB, Bool.and_eq_true, Bool.not_eq_true', beq_eq_false_iff_ne] at h
    exact ⟨h.1, noKeyB_spec h.2⟩
  | (.b _, _) :: l, h | (.s _, _) :: l, h | (.sl _, _) :: l, h | (.ag _, _) :: l, h | (.nf, _) :: l, h => by
    simp only [noKeyB] at h
    exact noKeyB_spec (l := l) h

theorem o_ins (ents' : List (PV × V)) {kk k : IntKind} {r : Nat} {n : Int} {v : V} {ents : List (PV × V)} (hg : guardV e g = some true) (hv : evs e args = some [.mp r, .p (.i k n), v]) (hb : Sg.get sg r = some (.mp ents)) (hk : IntKind.beq kk k = true)
    (hi : intKeys kk ents = true) (hno : noKey n ents) (hl : v.leaf = true) (he : ents ++ [(.i k n, v)] = ents')
    (h : OpsW P ops ⟨e, (r, some (.mp ents')) :: sg⟩ (fun ts S' => K' (⟨true, [.mp r, .p (.i k n), v], .junk, [r], [], [(r, some (.mp ents'))]⟩ :: ts) S')) : OpsW P (⟨none, .mins kk, args, g⟩ :: ops) ⟨e, sg⟩ K' := by
  subst he
  have hs : sem 0 0 (.mins kk) [.mp r, .p (.i k n), v] sg = some (IntKind.beq kk k = true ∧ intKeys kk ents = true ∧ noKey n ents ∧ v.leaf = true, .junk, [r], [(r, some (.mp (ents ++ [(.i k n, v)])))]) := by
    simp only [sem, semMins, hb]
  exact o_op 0 (o := ⟨none, .mins kk, args, g⟩) hg hv hs rfl ⟨hk, hi, hno, hl⟩ rfl h

/-! ### Bits -/
theorem and127 {a : Int} (h : 0 ≤ a ∧ a < 9223372036854775808) : ((BitVec.ofInt 64 a &&& BitVec.ofInt 64 127).toNat : Int) = a % 128 := by
  rw [BitVec.toNat_and, BitVec.toNat_ofInt, BitVec.toNat_ofInt]
  have e1 : (a % ((2 ^ 64 : Nat) : Int)).toNat = a.toNat := by omega
  have e2 : ((127 : Int) % ((2 ^ 64 : Nat) : Int)).toNat = 2 ^ 7 - 1 := by decide
  rw [e1, e2, Nat.and_two_pow_sub_one_eq_mod]
  omega

theorem and127b (b : UInt8) : ((BitVec.ofInt 8 b.toNat &&& BitVec.ofInt 8 127).toNat : Int) = (b.toNat : Int) % 128 := by
  rw [BitVec.toNat_and, BitVec.toNat_ofInt, BitVec.toNat_ofInt]
  have := b.toNat_lt
  have e1 : ((b.toNat : Int) % ((2 ^ 8 : Nat) : Int)).toNat = b.toNat := by omega
  have e2 : ((127 : Int) % ((2 ^ 8 : Nat) : Int)).toNat = 2 ^ 7 - 1 := by decide
  rw [e1, e2, Nat.and_two_pow_sub_one_eq_mod]
  omega

/-- Disjoint bits. -/
theorem or_add {a b : Int} (i : Nat) (ha : 0 ≤ a ∧ a < 2 ^ i) (hb : 0 ≤ b) (hs : a + b * 2 ^ i < 9223372036854775808) : ((BitVec.ofInt 64 a ||| BitVec.ofInt 64 (b * 2 ^ i)).toNat : Int) = a + b * 2 ^ i := by
  have hp : (0 : Int) ≤ b * 2 ^ i := Int.mul_nonneg hb (by exact Int.pow_nonneg (by decide))
  obtain ⟨x, rfl⟩ := Int.eq_ofNat_of_zero_le ha.1
  obtain ⟨y, rfl⟩ := Int.eq_ofNat_of_zero_le hb
  have hx : x < 2 ^ i := by have := ha.2; exact_mod_cast this
  have e0 : (y : Int) * 2 ^ i = ((y * 2 ^ i : Nat) : Int) := by push_cast; rfl
  rw [e0] at hs hp ⊢
  rw [BitVec.toNat_or, BitVec.toNat_ofInt, BitVec.toNat_ofInt]
  have e1 : ((x : Int) % ((2 ^ 64 : Nat) : Int)).toNat = x := by omega
  have e2 : (((y * 2 ^ i : Nat) : Int) % ((2 ^ 64 : Nat) : Int)).toNat = y * 2 ^ i := by omega
  rw [e1, e2]
  have : x ||| y * 2 ^ i = y * 2 ^ i + x := by
    rw [Nat.or_comm, Nat.mul_comm, ← Nat.two_pow_add_eq_or_of_lt hx]
  rw [this]; push_cast; omega

theorem o_and7 {a : Int} (hg : guardV e g = some true) (hv : evs e args = some [.p (.i .i64 a), .p (.i .i64 127)]) (h0 : 0 ≤ a ∧ a < 9223372036854775808)
    (h : OpsW P ops ⟨(d, .p (.i .i64 (a % 128))) :: e, sg⟩ (fun ts S' => K' (⟨true, [.p (.i .i64 a), .p (.i .i64 127)], .p (.i .i64 (a % 128)), [], [], []⟩ :: ts) S')) : OpsW P (⟨some d, .bin .and, args, g⟩ :: ops) ⟨e, sg⟩ K' :=
  o_as _ hg hv rfl rfl trivial (by
    exact congrArg (fun x => V.p (.i .i64 x)) ((congrArg (IntKind.wrap .i64) (and127 h0)).trans (wrap_i64 (by omega)))) h

theorem o_and7b {b : UInt8} (hg : guardV e g = some true) (hv : evs e args = some [.p (B b), .p (.i .u8 127)])
    (h : OpsW P ops ⟨(d, .p (.i .u8 (b.toNat % 128))) :: e, sg⟩ (fun ts S' => K' (⟨true, [.p (B b), .p (.i .u8 127)], .p (.i .u8 (b.toNat % 128)), [], [], []⟩ :: ts) S')) : OpsW P (⟨some d, .bin .and, args, g⟩ :: ops) ⟨e, sg⟩ K' :=
  o_as _ hg hv rfl rfl trivial (by
    exact congrArg (fun x => V.p (.i .u8 x)) ((congrArg (IntKind.wrap .u8) (and127b b)).trans (wrap_u8 (by omega)))) h

/-- Bits put over others. -/
theorem o_or (i : Nat) (b : Int) {a c : Int} (hg : guardV e g = some true) (hv : evs e args = some [.p (.i .i64 a), .p (.i .i64 c)]) (hc : c = b * 2 ^ i) (ha : 0 ≤ a ∧ a < 2 ^ i) (hb : 0 ≤ b) (hs : a + b * 2 ^ i < 9223372036854775808)
    (h : OpsW P ops ⟨(d, .p (.i .i64 (a + b * 2 ^ i))) :: e, sg⟩ (fun ts S' => K' (⟨true, [.p (.i .i64 a), .p (.i .i64 c)], .p (.i .i64 (a + b * 2 ^ i)), [], [], []⟩ :: ts) S')) : OpsW P (⟨some d, .bin .or, args, g⟩ :: ops) ⟨e, sg⟩ K' :=
  o_as _ hg hv rfl rfl trivial (by
    subst hc
    have hp : (0 : Int) ≤ b * 2 ^ i := Int.mul_nonneg hb (by exact Int.pow_nonneg (by decide))
    exact congrArg (fun x => V.p (.i .i64 x)) ((congrArg (IntKind.wrap .i64) (or_add i ha hb hs)).trans (wrap_i64 (by omega)))) h

/-- Seven bits less. -/
theorem o_shr7 {a : Int} (hg : guardV e g = some true) (hv : evs e args = some [.p (.i .i64 a), .p (.i .u64 7)]) (h0 : 0 ≤ a)
    (h : OpsW P ops ⟨(d, .p (.i .i64 (a / 128))) :: e, sg⟩ (fun ts S' => K' (⟨true, [.p (.i .i64 a), .p (.i .u64 7)], .p (.i .i64 (a / 128)), [], [], []⟩ :: ts) S')) : OpsW P (⟨some d, .bin .shr, args, g⟩ :: ops) ⟨e, sg⟩ K' :=
  o_as _ hg hv rfl rfl (show (0 : Int) ≤ 7 by decide) (by
    show V.p (.i .i64 (a.fdiv (2 ^ 7))) = _
    rw [Int.fdiv_eq_ediv_of_nonneg a (by decide)]; rfl) h

/-- A call that takes an array of its own and gives back another. -/
theorem o_callA {xs : List X} {gd : Option (Nat × Bool)} {f : FuncId} {as asR caps : List V} {n' : Nat} {b b' : Box} (fz : List Nat) (r : Nat) (hd : FC P f as [(1000, some b)] (.os 7 none 0 n') [(7, some b')])
    (hg : guardV e gd = some true) (hv : evs e xs = some (.fn f caps :: asR)) (hargs : Cvs sg fz [] (asR ++ caps) (V.ren.rens (renL [(1000, r), (7, d)]) as)) (hn : nodupB [r, d] = true) (hb : Sg.get (fzG fz ++ sg) r = some b) (hbr : b.ren (renL [(1000, r), (7, d)]) = b)
    (hbr' : b'.ren (renL [(1000, r), (7, d)]) = b') (hcl : b'.idsIn [1000, 7] = true) (hfr : freshB d ⟨e, sg⟩ = true)
    (h : OpsW P ops ⟨(d, .os d none 0 n') :: e, (r, none) :: (d, some b') :: (fzG fz ++ sg)⟩ (fun ts S' => K' (⟨true, .fn f caps :: asR, .os d none 0 n', r :: fz, [d], (r, none) :: (d, some b') :: fzG fz⟩ :: ts) S')) : OpsW P (⟨some d, .call, xs, gd⟩ :: ops) ⟨e, sg⟩ K' := by
  refine o_call fz [(1000, r), (7, d)] [] hd hg hv hargs rfl hn rfl ⟨by simp only [Sg.get]; rw [hbr]; exact hb, trivial, trivial⟩ trivial ?_ rfl ?_ ?_
  · simp only [List.all_cons, List.all_nil, Bool.and_true]
    exact hcl
  · have e3 : callN [(1000, some b)] [(1000, r), (7, d)] = [d] := rfl
    rw [e3]
    simp [hfr]
  · have e1 : callΔ (renL [(1000, r), (7, d)]) [] [(7, some b')] [(1000, r), (7, d)] = [(r, none), (d, some b')] := by
      simp only [callΔ, List.contains_nil, Sg.get]
      rw [hbr']
    have e2 : callR [(1000, some b)] [(1000, r), (7, d)] = [r] := rfl
    have e3 : callN [(1000, some b)] [(1000, r), (7, d)] = [d] := rfl
    have e4 : (V.os 7 none 0 n').ren (renL [(1000, r), (7, d)]) = .os d none 0 n' := rfl
    rw [e1, e2, e3, e4]
    exact h

/-- A string appended to bytes of its own. -/
theorem o_appsB (l s : List UInt8) {r n : Nat} (hg : guardV e g = some true) (hv : evs e args = some [.os r none 0 n, .p (.s s)]) (hb : Sg.get sg r = some (.pv 1 (l.map B))) (hn : n = l.length)
    (hsz : l.length + s.length ≤ 140737488355328) (hf : freshOk .apps d ⟨e, sg⟩ [.os r none 0 n, .p (.s s)] = true)
    (h : OpsW P ops ⟨(d, .os d none 0 (l ++ s).length) :: e, (d, some (.pv 1 ((l ++ s).map B))) :: (r, none) :: sg⟩ (fun ts S' => K' (⟨true, [.os r none 0 n, .p (.s s)], .os d none 0 (l ++ s).length, [r], [d], [(d, some (.pv 1 ((l ++ s).map B))), (r, none)]⟩ :: ts) S')) :
    OpsW P (⟨some d, .apps, args, g⟩ :: ops) ⟨e, sg⟩ K' := by
  subst hn
  have hs : sem 0 d .apps [.os r none 0 l.length, .p (.s s)] sg = some ((l.length = (l.map B).length ∧ 1 = 1) ∧ (l.map B).length + s.length ≤ 140737488355328,
      .os d none 0 ((l.map B).length + s.length), [r], (d, some (.pv 1 (l.map B ++ s.map B))) :: [(r, none)]) := by
    simp only [sem, semApps, baseOf, hb]
    rfl
  refine o_op 0 (o := ⟨some d, .apps, args, g⟩) hg hv hs hf ⟨⟨by simp, rfl⟩, by simpa using hsz⟩ (v' := .os d none 0 (l ++ s).length) (by simp) ?_
  have e1 : newOf .apps d = [d] := rfl
  simp only [Option.getD_some, e1, ← List.map_append]
  exact h

/-- A byte stored into an array of its own. -/
theorem o_stB (l : List UInt8) {b : UInt8} {r i : Nat} (hg : guardV e g = some true) (hv : evs e args = some [.ptr r i 0, .p (B b)]) (hb : Sg.get sg r = some (.pv 1 (l.map B))) (hi : i < l.length)
    (h : OpsW P ops ⟨e, (r, some (.pv 1 ((l.set i b).map B))) :: sg⟩ (fun ts S' => K' (⟨true, [.ptr r i 0, .p (B b)], .junk, [r], [], [(r, some (.pv 1 ((l.set i b).map B)))]⟩ :: ts) S')) : OpsW P (⟨none, .store 1, args, g⟩ :: ops) ⟨e, sg⟩ K' := by
  have hs : sem 0 0 (.store 1) [.ptr r i 0, .p (B b)] sg = some (0 = 0 ∧ i < (l.map B).length ∧ (B b).cells.length = 1 ∧ 1 = 1 ∧ (V.p (B b)).cellsV.all V.leaf = true, .junk, [r], [(r, some (.pv 1 ((l.map B).set i (B b))))]) := by
    simp only [sem, semStore, hb]
    rfl
  refine o_op 0 (o := ⟨none, .store 1, args, g⟩) hg hv hs rfl ⟨rfl, by simpa using hi, rfl, rfl, rfl⟩ rfl ?_
  have e1 : (l.map B).set i (B b) = (l.set i b).map B := by rw [List.map_set]
  rw [e1]
  exact h

/-- Bits less, by a power that is given. -/
theorem o_shrN {a : Nat} {k : IntKind} (j : Nat) {x : Int} (hg : guardV e g = some true) (hv : evs e args = some [.p (.i .i64 a), .p (.i k x)]) (hj : x = j ∧ j ≤ 64)
    (h : OpsW P ops ⟨(d, .p (.i .i64 (a / 2 ^ j : Nat))) :: e, sg⟩ (fun ts S' => K' (⟨true, [.p (.i .i64 a), .p (.i k x)], .p (.i .i64 (a / 2 ^ j : Nat)), [], [], []⟩ :: ts) S')) : OpsW P (⟨some d, .bin .shr, args, g⟩ :: ops) ⟨e, sg⟩ K' := by
  obtain ⟨rfl, hj⟩ := hj
  refine o_as _ hg hv rfl rfl (show (0 : Int) ≤ j by omega) ?_ h
  show V.p (.i .i64 ((a : Int).fdiv (2 ^ (min ((j : Int)).toNat 64)))) = _
  have e1 : min ((j : Int)).toNat 64 = j := by omega
  rw [e1, Int.fdiv_eq_ediv_of_nonneg _ (Int.pow_nonneg (by decide))]
  norm_cast
end
end Go.DW

/- Rules for conditions that are known as propositions, and for numbers read from bits. -/
namespace Go.DW
section
variable {P : Program} {nt : Nat} {S : St} {Q : Exit → St → Prop}

theorem D_condP {x : X} {a b : IC} {p : Prop} {inst : Decidable p} (hx : x.ev S.env = some (.p (.b (@decide p inst)))) (h1 : p → D P nt a S Q) (h0 : ¬ p → D P nt b S Q) : D P nt (.cond x a b) S Q :=
  D_cond hx (fun h => h1 (of_decide_eq_true h)) (fun h => h0 (of_decide_eq_false h))

theorem D_condN {x : X} {a b : IC} {p : Prop} {inst : Decidable p} (hx : x.ev S.env = some (.p (.b (!@decide p inst)))) (h1 : ¬ p → D P nt a S Q) (h0 : p → D P nt b S Q) : D P nt (.cond x a b) S Q :=
  D_cond hx (fun h => h1 (of_decide_eq_false (by simpa using h))) (fun h => h0 (of_decide_eq_true (by simpa using h)))

theorem D_condE {x : X} {a b : IC} {u v : Int} (hx : x.ev S.env = some (.p (.b (u == v)))) (h1 : u = v → D P nt a S Q) (h0 : ¬ u = v → D P nt b S Q) : D P nt (.cond x a b) S Q :=
  D_cond hx (fun h => h1 (by simpa using h)) (fun h => h0 (by simpa using h))

theorem D_condNE {x : X} {a b : IC} {u v : Int} (hx : x.ev S.env = some (.p (.b (u != v)))) (h1 : ¬ u = v → D P nt a S Q) (h0 : u = v → D P nt b S Q) : D P nt (.cond x a b) S Q :=
  D_cond hx (fun h => h1 (by simpa using h)) (fun h => h0 (by simpa using h))

theorem D_condS {x : X} {a b : IC} {u v : List UInt8} (hx : x.ev S.env = some (.p (.b (u == v)))) (h1 : u = v → D P nt a S Q) (h0 : ¬ u = v → D P nt b S Q) : D P nt (.cond x a b) S Q :=
  D_cond hx (fun h => h1 (by simpa using h)) (fun h => h0 (by simpa using h))

theorem D_condNS {x : X} {a b : IC} {u v : List UInt8} (hx : x.ev S.env = some (.p (.b (!(u == v))))) (h1 : ¬ u = v → D P nt a S Q) (h0 : u = v → D P nt b S Q) : D P nt (.cond x a b) S Q :=
  D_cond hx (fun h => h1 (by simpa using h)) (fun h => h0 (by simpa using h))

theorem D_condB {x : X} {a b : IC} {c : Bool} (hx : x.ev S.env = some (.p (.b (!c)))) (h1 : c = false → D P nt a S Q) (h0 : c = true → D P nt b S Q) : D P nt (.cond x a b) S Q :=
  D_cond hx (fun h => h1 (by simpa using h)) (fun h => h0 (by simpa using h))

theorem D_condT {x : X} {a b : IC} {t : Bool} (hx : x.ev S.env = some (.p (.b t))) (ht : t = true) (h1 : D P nt a S Q) : D P nt (.cond x a b) S Q :=
  D_cond hx (fun _ => h1) (fun h => by rw [ht] at h; cases h)

theorem D_condF {x : X} {a b : IC} {t : Bool} (hx : x.ev S.env = some (.p (.b t))) (ht : t = false) (h1 : D P nt b S Q) : D P nt (.cond x a b) S Q :=
  D_cond hx (fun h => by rw [ht] at h; cases h) (fun _ => h1)

theorem D_condNT {x : X} {a b : IC} {t : Bool} (hx : x.ev S.env = some (.p (.b (!t)))) (ht : t = false) (h1 : D P nt a S Q) : D P nt (.cond x a b) S Q :=
  D_cond hx (fun _ => h1) (fun h => by rw [ht] at h; cases h)

theorem D_condNF {x : X} {a b : IC} {t : Bool} (hx : x.ev S.env = some (.p (.b (!t)))) (ht : t = true) (h1 : D P nt b S Q) : D P nt (.cond x a b) S Q :=
  D_cond hx (fun h => by rw [ht] at h; cases h) (fun _ => h1)

/-- The state is replaced where the code is still to be run. -/
theorem D_le {c : IC} {T : St} (fz : List Nat) (gh km : List (Nat × Nat)) (hle : Le fz gh km S T) (h : D P nt c T Q) : D P nt c S Q := D_weak fz gh km hle h
end

section
variable {P : Program} {d : Nat} {args : List X} {g : Option (Nat × Bool)} {ops : List IOper} {e : Env} {sg : Sg} {K' : List TE → St → Prop}

/-- Cases of the guard of the next operation, a proposition. -/
theorem o_brgP {d : Option Nat} {k : K} {t : Nat} {want : Bool} {p : Prop} {inst : Decidable p} (ht : Env.get e t = some (.p (.b (@decide p inst))))
    (h1 : p → OpsW P (⟨d, k, args, some (t, want)⟩ :: ops) ⟨(t, .p (.b true)) :: e, sg⟩ K') (h0 : ¬ p → OpsW P (⟨d, k, args, some (t, want)⟩ :: ops) ⟨(t, .p (.b false)) :: e, sg⟩ K') : OpsW P (⟨d, k, args, some (t, want)⟩ :: ops) ⟨e, sg⟩ K' :=
  o_br t ht (fun h => h1 (of_decide_eq_true h)) (fun h => h0 (of_decide_eq_false h))

theorem o_brgE {d : Option Nat} {k : K} {t : Nat} {want : Bool} {u v : Int} (ht : Env.get e t = some (.p (.b (u == v))))
    (h1 : u = v → OpsW P (⟨d, k, args, some (t, want)⟩ :: ops) ⟨(t, .p (.b true)) :: e, sg⟩ K') (h0 : ¬ u = v → OpsW P (⟨d, k, args, some (t, want)⟩ :: ops) ⟨(t, .p (.b false)) :: e, sg⟩ K') : OpsW P (⟨d, k, args, some (t, want)⟩ :: ops) ⟨e, sg⟩ K' :=
  o_br t ht (fun h => h1 (by simpa using h)) (fun h => h0 (by simpa using h))

theorem o_brgN {d : Option Nat} {k : K} {t : Nat} {want : Bool} {c : Bool} (ht : Env.get e t = some (.p (.b (!c))))
    (h1 : c = false → OpsW P (⟨d, k, args, some (t, want)⟩ :: ops) ⟨(t, .p (.b true)) :: e, sg⟩ K') (h0 : c = true → OpsW P (⟨d, k, args, some (t, want)⟩ :: ops) ⟨(t, .p (.b false)) :: e, sg⟩ K') : OpsW P (⟨d, k, args, some (t, want)⟩ :: ops) ⟨e, sg⟩ K' :=
  o_br t ht (fun h => h1 (by simpa using h)) (fun h => h0 (by simpa using h))

/-- Bits more: a number below 2 ^ 7, in front of 7 i others. -/
theorem o_shlN (j : Nat) {a : Nat} {k : IntKind} {x : Int} (hg : guardV e g = some true) (hv : evs e args = some [.p (.i .i64 a), .p (.i k x)]) (hj : x = j ∧ j ≤ 64) (hs : a * 2 ^ j < 9223372036854775808)
    (h : OpsW P ops ⟨(d, .p (.i .i64 (a * 2 ^ j : Nat))) :: e, sg⟩ (fun ts S' => K' (⟨true, [.p (.i .i64 a), .p (.i k x)], .p (.i .i64 (a * 2 ^ j : Nat)), [], [], []⟩ :: ts) S')) : OpsW P (⟨some d, .bin .shl, args, g⟩ :: ops) ⟨e, sg⟩ K' := by
  obtain ⟨rfl, hj⟩ := hj
  refine o_as _ hg hv rfl rfl (show (0 : Int) ≤ j by omega) ?_ h
  show V.p (.i .i64 (IntKind.wrap .i64 ((a : Int) * 2 ^ (min ((j : Int)).toNat 64)))) = _
  have e1 : min ((j : Int)).toNat 64 = j := by omega
  have e2 : ((a : Int) * 2 ^ j) = ((a * 2 ^ j : Nat) : Int) := by rw [Int.natCast_mul, Int.natCast_pow]; rfl
  rw [e1, e2, wrap_i64 (by omega)]

/-- Bits put over others, all of them known as natural numbers. -/
theorem o_orN (j : Nat) {a b : Nat} (hg : guardV e g = some true) (hv : evs e args = some [.p (.i .i64 a), .p (.i .i64 (b * 2 ^ j : Nat))]) (ha : a < 2 ^ j) (hs : a + b * 2 ^ j < 9223372036854775808)
    (h : OpsW P ops ⟨(d, .p (.i .i64 (a + b * 2 ^ j : Nat))) :: e, sg⟩ (fun ts S' => K' (⟨true, [.p (.i .i64 a), .p (.i .i64 (b * 2 ^ j : Nat))], .p (.i .i64 (a + b * 2 ^ j : Nat)), [], [], []⟩ :: ts) S')) : OpsW P (⟨some d, .bin .or, args, g⟩ :: ops) ⟨e, sg⟩ K' := by
  have e1 : ((b * 2 ^ j : Nat) : Int) = (b : Int) * 2 ^ j := by rw [Int.natCast_mul, Int.natCast_pow]; rfl
  have ha' : (a : Int) < 2 ^ j := by have h9 := Int.ofNat_lt.2 ha; rw [Int.natCast_pow] at h9; exact h9
  have hs' : (a : Int) + b * 2 ^ j < 9223372036854775808 := by rw [← e1]; omega
  refine o_as _ hg hv rfl rfl trivial ?_ h
  refine congrArg (fun x => V.p (.i .i64 x)) ?_
  rw [e1]
  have h2 := or_add (a := a) (b := b) j ⟨by omega, ha'⟩ (by omega) hs'
  have h3 : ((a + b * 2 ^ j : Nat) : Int) = (a : Int) + b * 2 ^ j := by rw [Int.natCast_add, e1]
  refine (congrArg (IntKind.wrap .i64) h2).trans ?_
  rw [← h3, wrap_i64 (by omega)]

/-- The other way round: higher bits first. -/
theorem o_orM (j : Nat) {a b : Nat} (hg : guardV e g = some true) (hv : evs e args = some [.p (.i .i64 (b * 2 ^ j : Nat)), .p (.i .i64 a)]) (ha : a < 2 ^ j) (hs : b * 2 ^ j + a < 9223372036854775808)
    (h : OpsW P ops ⟨(d, .p (.i .i64 (b * 2 ^ j + a : Nat))) :: e, sg⟩ (fun ts S' => K' (⟨true, [.p (.i .i64 (b * 2 ^ j : Nat)), .p (.i .i64 a)], .p (.i .i64 (b * 2 ^ j + a : Nat)), [], [], []⟩ :: ts) S')) : OpsW P (⟨some d, .bin .or, args, g⟩ :: ops) ⟨e, sg⟩ K' := by
  have e1 : ((b * 2 ^ j : Nat) : Int) = (b : Int) * 2 ^ j := by rw [Int.natCast_mul, Int.natCast_pow]; rfl
  have ha' : (a : Int) < 2 ^ j := by have h9 := Int.ofNat_lt.2 ha; rw [Int.natCast_pow] at h9; exact h9
  have hs' : (a : Int) + b * 2 ^ j < 9223372036854775808 := by rw [← e1]; omega
  refine o_as _ hg hv rfl rfl trivial ?_ h
  refine congrArg (fun x => V.p (.i .i64 x)) ?_
  rw [e1]
  have h2 := or_add (a := a) (b := b) j ⟨by omega, ha'⟩ (by omega) hs'
  rw [BitVec.or_comm] at h2
  have h3 : ((b * 2 ^ j + a : Nat) : Int) = (a : Int) + b * 2 ^ j := by rw [Int.natCast_add, e1, Int.add_comm]
  refine (congrArg (IntKind.wrap .i64) h2).trans ?_
  rw [← h3, wrap_i64 (by omega)]
theorem o_notT {t : Bool} (hg : guardV e g = some true) (hv : evs e args = some [.p (.b t)]) (ht : t = true)
    (h : OpsW P ops ⟨(d, .p (.b false)) :: e, sg⟩ (fun ts S' => K' (⟨true, [.p (.b t)], .p (.b false), [], [], []⟩ :: ts) S')) : OpsW P (⟨some d, .not, args, g⟩ :: ops) ⟨e, sg⟩ K' :=
  o_as _ hg hv rfl rfl trivial (by rw [ht]; rfl) h

theorem o_notF {t : Bool} (hg : guardV e g = some true) (hv : evs e args = some [.p (.b t)]) (ht : t = false)
    (h : OpsW P ops ⟨(d, .p (.b true)) :: e, sg⟩ (fun ts S' => K' (⟨true, [.p (.b t)], .p (.b true), [], [], []⟩ :: ts) S')) : OpsW P (⟨some d, .not, args, g⟩ :: ops) ⟨e, sg⟩ K' :=
  o_as _ hg hv rfl rfl trivial (by rw [ht]; rfl) h

/-- A slice of no elements, built. -/
theorem o_bs0 {es : Nat} {z : V} (hg : guardV e g = some true) (hv : evs e args = some []) (hf : freshOk (.bslice es z 0 []) d ⟨e, sg⟩ [] = true)
    (h : OpsW P ops ⟨(d, .nils) :: e, sg⟩ (fun ts S' => K' (⟨true, [], .nils, [], [d], []⟩ :: ts) S')) : OpsW P (⟨some d, .bslice es z 0 [], args, g⟩ :: ops) ⟨e, sg⟩ K' :=
  o_op 0 (o := ⟨some d, .bslice es z 0 [], args, g⟩) hg hv rfl hf rfl rfl h

theorem dec_eqI {a : Nat} : ((a : Int) == 0) = decide (a = 0) := by rw [Bool.eq_iff_iff]; simp

/-- Bytes, made. -/
theorem o_mksB (n : Nat) {bx : V} (hg : guardV e g = some true) (hv : evs e args = some [.p (.i .i64 n), .p (.i .i64 n)]) (hn : n ≤ 281474976710656) (hz : bx = .p (.i .u8 0)) (hf : freshOk (.mks 1 1 bx) d ⟨e, sg⟩ [.p (.i .i64 n), .p (.i .i64 n)] = true)
    (h : OpsW P ops ⟨(d, .os d none 0 n) :: e, (d, some (.pv 1 ((List.replicate n (0 : UInt8)).map B))) :: sg⟩ (fun ts S' => K' (⟨true, [.p (.i .i64 n), .p (.i .i64 n)], .os d none 0 n, [], [d], [(d, some (.pv 1 ((List.replicate n (0 : UInt8)).map B)))]⟩ :: ts) S')) : OpsW P (⟨some d, .mks 1 1 bx, args, g⟩ :: ops) ⟨e, sg⟩ K' := by
  subst hz
  have hs : sem 0 d (.mks 1 1 (.p (.i .u8 0))) [.p (.i .i64 n), .p (.i .i64 n)] sg = some (0 ≤ (n : Int) ∧ (n : Int) = n ∧ ((1 : Nat) : Int) * n ≤ 281474976710656 ∧ (PV.i .u8 0).cells.length = 1 ∧ (V.p (.i .u8 0)).cellsV.all V.leaf = true ∧ (n : Int) ≤ 9223372036854775807,
      .os d none 0 (n : Int).toNat, [], [(d, some (.pv 1 (List.replicate (n : Int).toNat (.i .u8 0))))]) := rfl
  refine o_op 0 (o := ⟨some d, .mks 1 1 (.p (.i .u8 0)), args, g⟩) hg hv hs hf ⟨by omega, rfl, by omega, rfl, rfl, by omega⟩ rfl ?_
  have e1 : (List.replicate n (0 : UInt8)).map B = List.replicate n (.i .u8 0) := by rw [List.map_replicate]; rfl
  rw [e1] at h
  exact h

/-- Bits put beside others: the first number has none below j. -/
theorem o_orD (j : Nat) {a b : Nat} (hg : guardV e g = some true) (hv : evs e args = some [.p (.i .i64 a), .p (.i .i64 b)]) (hd : a % 2 ^ j = 0) (hb : b < 2 ^ j) (hs : a + b < 9223372036854775808)
    (h : OpsW P ops ⟨(d, .p (.i .i64 (a + b : Nat))) :: e, sg⟩ (fun ts S' => K' (⟨true, [.p (.i .i64 a), .p (.i .i64 b)], .p (.i .i64 (a + b : Nat)), [], [], []⟩ :: ts) S')) : OpsW P (⟨some d, .bin .or, args, g⟩ :: ops) ⟨e, sg⟩ K' := by
  have e0 : a = a / 2 ^ j * 2 ^ j := by
    have := Nat.div_add_mod a (2 ^ j)
    rw [hd, Nat.add_zero, Nat.mul_comm] at this
    exact this.symm
  rw [e0] at hv h hs
  exact o_orM j hg hv hb hs h

/-- The seven low bits of a byte. -/
theorem o_and7n {b : UInt8} (hg : guardV e g = some true) (hv : evs e args = some [.p (B b), .p (.i .u8 127)])
    (h : OpsW P ops ⟨(d, .p (.i .u8 ((b.toNat % 128 : Nat) : Int))) :: e, sg⟩ (fun ts S' => K' (⟨true, [.p (B b), .p (.i .u8 127)], .p (.i .u8 ((b.toNat % 128 : Nat) : Int)), [], [], []⟩ :: ts) S')) : OpsW P (⟨some d, .bin .and, args, g⟩ :: ops) ⟨e, sg⟩ K' :=
  o_as _ hg hv rfl rfl trivial (by
    have e1 : ((b.toNat % 128 : Nat) : Int) = (b.toNat : Int) % 128 := by omega
    rw [e1]
    exact congrArg (fun x => V.p (.i .u8 x)) ((congrArg (IntKind.wrap .u8) (and127b b)).trans (wrap_u8 (by omega)))) h
end
end Go.DW

/- More rules for calls. -/
namespace Go.DW
section
variable {P : Program} {d : Nat} {args : List X} {g : Option (Nat × Bool)} {ops : List IOper} {e : Env} {sg : Sg} {K' : List TE → St → Prop}

/-- A call that takes values and gives back a pointer to something new. -/
theorem o_callNew {xs : List X} {gd : Option (Nat × Bool)} {f : FuncId} {as asR caps : List V} {b' : Box} (fz : List Nat) (hd : FC P f as [] (.ptr 7 0 0) [(7, some b')])
    (hg : guardV e gd = some true) (hv : evs e xs = some (.fn f caps :: asR)) (hargs : Cvs sg fz [] (asR ++ caps) (V.ren.rens (renL [(7, d)]) as))
    (hbr' : b'.ren (renL [(7, d)]) = b') (hcl : b'.idsIn [7] = true) (hfr : freshB d ⟨e, sg⟩ = true)
    (h : OpsW P ops ⟨(d, .ptr d 0 0) :: e, (d, some b') :: (fzG fz ++ sg)⟩ (fun ts S' => K' (⟨true, .fn f caps :: asR, .ptr d 0 0, fz, [d], (d, some b') :: fzG fz⟩ :: ts) S')) : OpsW P (⟨some d, .call, xs, gd⟩ :: ops) ⟨e, sg⟩ K' := by
  refine o_call fz [(7, d)] [] hd hg hv hargs rfl rfl rfl ⟨trivial, trivial⟩ trivial ?_ rfl ?_ ?_
  · simp only [List.all_cons, List.all_nil, Bool.and_true]
    exact hcl
  · have e3 : callN [] [(7, d)] = [d] := rfl
    rw [e3]
    simp [hfr]
  · have e1 : callΔ (renL [(7, d)]) [] [(7, some b')] [(7, d)] = [(d, some b')] := by
      simp only [callΔ, List.contains_nil, Sg.get]
      rw [hbr']
    have e2 : callR [] [(7, d)] = [] := rfl
    have e3 : callN [] [(7, d)] = [d] := rfl
    have e4 : (V.ptr 7 0 0).ren (renL [(7, d)]) = .ptr d 0 0 := rfl
    rw [e1, e2, e3, e4]
    exact h
end
end Go.DW

/- From the readings of a law's arguments to abstract data, and from a contract to what a law asks. -/
namespace Go.DW
open Go.ChangeShapes Go.WideShapes Go.RowKit

mutual
def pvOf {H : Type} : DataW H → PV
  | .lit (.bool b) => .b b
  | .lit (.int k n) => .i k n
  | .lit (.string s) => .s s
  | .slice elems _ => .sl (pvOfs elems)
  | .agg parts => .ag (pvCells parts)
  | _ => .sl []
def pvOfs {H : Type} : List (DataW H) → List PV
  | [] => []
  | d :: l => pvOf d :: pvOfs l
def pvCells {H : Type} : List (DataW H) → List PV
  | [] => []
  | d :: l => (pvOf d).cells ++ pvCells l
end

theorem pvOfs_eq {H : Type} : ∀ l : List (DataW H), pvOfs l = l.map pvOf
  | [] => rfl
  | _ :: l => by simp only [pvOfs, List.map_cons, pvOfs_eq l]

/-- The shape of a type of plain data. -/
inductive Sh where
  | b
  | i (k : IntKind)
  | te
  | sl (e : Sh)
  | ag (l : List Sh)
  deriving Inhabited

mutual
inductive Fits : Sh → PV → Prop where
  | b (x : Bool) : Fits .b (.b x)
  | i (k : IntKind) (n : Int) (h : (Lit.int k n).wf = true) : Fits (.i k) (.i k n)
  | s (l : List UInt8) (h : l.length ≤ 9223372036854775807) : Fits .te (.s l)
  | sl (s : Sh) (l : List PV) (h : FitsA s l) : Fits (.sl s) (.sl l)
  | ag (ss : List Sh) (cs : List PV) (h : Fitss ss cs) : Fits (.ag ss) (.ag cs)
inductive FitsA : Sh → List PV → Prop where
  | nil (s : Sh) : FitsA s []
  | cons {s : Sh} {x : PV} {l : List PV} (h : Fits s x) (hs : FitsA s l) : FitsA s (x :: l)
inductive Fitss : List Sh → List PV → Prop where
  | nil : Fitss [] []
  | cons {s : Sh} {x : PV} {ss : List Sh} {l : List PV} (h : Fits s x) (hs : Fitss ss l) : Fitss (s :: ss) (x.cells ++ l)
end

theorem FitsA.mem {s : Sh} : ∀ {l : List PV}, FitsA s l → ∀ x ∈ l, Fits s x
  | _, .nil _, x, h => by simp at h
  | _, .cons h hs, x, hx => by
    rcases List.mem_cons.1 hx with rfl | hx
    · exact h
    · exact hs.mem x hx

theorem FitsA.of {s : Sh} : ∀ {l : List PV}, (∀ x ∈ l, Fits s x) → FitsA s l
  | [], _ => .nil s
  | x :: l, h => .cons (h x (by simp)) (FitsA.of fun y hy => h y (by simp [hy]))

def shAll (f : TypeId → Option Sh) : List Field → Option (List Sh)
  | [] => some []
  | x :: l => match f x.type, shAll f l with
    | some s, some r => some (s :: r)
    | _, _ => none

def contig (P : Program) : Nat → List Field → Nat → Bool
  | o, [], n => o == n
  | o, f :: fs, n => f.offset == o && contig P (o + P.cellsOf f.type) fs n

def shOf (P : Program) : Nat → TypeId → Option Sh
  | 0, _ => none
  | n + 1, t => match P.underlying t with
    | some .bool => if P.cellsOf t = 1 then some .b else none
    | some (.int k) => if P.cellsOf t = 1 then some (.i k) else none
    | some .string => if P.cellsOf t = 1 then some .te else none
    | some (.slice e) => match shOf P n e with
      | some s => if P.cellsOf t = 1 ∧ 0 < P.cellsOf e then some (.sl s) else none
      | none => none
    | some (.struct fs) => if contig P 0 fs.toList (P.cellsOf t) = true then (match shAll (shOf P n) fs.toList with
      | some l => some (.ag l)
      | none => none) else none
    | _ => none

section
variable {H : Type} {enc : TypeId × Value → H} {P : Program} {w : World} {base : Nat} {spare : Nat → Bool} {held : Bool}

theorem cell_lt {a : Addr} {v : Value} (h : w.cell? a = some v) : a.block < w.heap.size := by
  unfold World.cell? at h
  split at h
  · rename_i c _ _ hb
    exact (Array.getElem?_eq_some_iff.1 hb).1
  · cases h

/-- What a type's reading gives. -/
def Reads (w : World) (sh : Sh) (n : Nat) (d : DataW H) (cs : List Value) : Prop :=
  Fits sh (pvOf d) ∧ PReps w (fun b => b < w.heap.size) (pvOf d).cells cs ∧ cs.length = n

theorem slice_reps {ok : Nat → Prop} {sh : Sh} {c : Nat} {b o : Nat} {f : List Value → Option (DataW H × List MemPlace)} (hf : ∀ cs x, f cs = some x → Fits sh (pvOf x.1) ∧ PReps w ok (pvOf x.1).cells cs ∧ cs.length = c) :
    ∀ (elems : List (DataW H × List MemPlace)) (k : Nat), (∀ (i : Nat) x, elems[i]? = some x → ∃ cs, f cs = some x ∧ ∀ j, j < c → w.cell? ⟨b, o + (k + i) * c + j, none⟩ = cs[j]?) →
    FitsA sh (pvOfs (elems.map (·.1))) ∧ (∀ x ∈ pvOfs (elems.map (·.1)), x.cells.length = c) ∧ ∃ us, PReps w ok ((pvOfs (elems.map (·.1))).flatMap PV.cells) us ∧ ∀ (j : Nat) u, us[j]? = some u → w.cell? ⟨b, o + k * c + j, none⟩ = some u
  | [], k, _ => ⟨.nil sh, by simp [pvOfs], [], .nil, by simp⟩
  | x :: elems, k, h => by
    obtain ⟨cs, h1, h2⟩ := h 0 x rfl
    obtain ⟨g1, g2, g3⟩ := hf cs x h1
    obtain ⟨f1, f2, us, f3, f4⟩ := slice_reps hf elems (k + 1) (fun i y hy => by
      obtain ⟨cs', q1, q2⟩ := h (i + 1) y (by simpa using hy)
      refine ⟨cs', q1, fun j hj => ?_⟩
      have := q2 j hj
      have e : k + (i + 1) = k + 1 + i := by omega
      rw [e] at this
      exact this)
    have gl := g2.length
    refine ⟨.cons g1 f1, fun y hy => ?_, cs ++ us, ?_, fun j u hu => ?_⟩
    · simp only [List.map_cons, pvOfs, List.mem_cons] at hy
      rcases hy with rfl | hy
      · omega
      · exact f2 y hy
    · simp only [List.map_cons, pvOfs, List.flatMap_cons]
      exact PReps.append f3 g2
    · by_cases hj : j < c
      · rw [List.getElem?_append_left (by omega)] at hu
        have := h2 j hj
        rw [Nat.add_zero] at this
        rw [this, hu]
      · rw [List.getElem?_append_right (by omega)] at hu
        have := f4 _ u hu
        have e : o + (k + 1) * c + (j - cs.length) = o + k * c + j := by
          rw [Nat.add_mul, Nat.one_mul]; omega
        rw [e] at this
        exact this

theorem struct_reps {ok : Nat → Prop} {g : TypeId → List Value → Option (DataW H × List MemPlace)} {sf : TypeId → Option Sh} (hf : ∀ t cs x sh, sf t = some sh → g t cs = some x → Fits sh (pvOf x.1) ∧ PReps w ok (pvOf x.1).cells cs ∧ cs.length = P.cellsOf t) {cs : List Value} :
    ∀ (fs : List Field) (o : Nat) (ss : List Sh) (xs : List (DataW H × List MemPlace)), contig P o fs cs.length = true → shAll sf fs = some ss → xs.length = fs.length →
      (∀ (i : Nat) (f : Field), fs[i]? = some f → g f.type ((cs.drop f.offset).take (P.cellsOf f.type)) = xs[i]?) →
      Fitss ss (pvCells (xs.map (·.1))) ∧ PReps w ok (pvCells (xs.map (·.1))) (cs.drop o)
  | [], o, ss, xs, h1, h2, h3, _ => by
    simp only [contig, beq_iff_eq] at h1
    simp only [shAll, Option.some.injEq] at h2
    have h3 : xs = [] := List.eq_nil_of_length_eq_zero h3
    subst h1 h2 h3
    simp only [List.map_nil, pvCells, List.drop_length]
    exact ⟨.nil, .nil⟩
  | f :: fs, o, ss, [], _, _, h3, _ => by simp at h3
  | f :: fs, o, ss, x :: xs, h1, h2, h3, h4 => by
    simp only [contig, Bool.and_eq_true, beq_iff_eq] at h1
    obtain ⟨rfl, h1⟩ := h1
    simp only [shAll] at h2
    split at h2
    · rename_i s r hs hr
      simp only [Option.some.injEq] at h2
      subst h2
      have hx := h4 0 f rfl
      simp only [List.getElem?_cons_zero] at hx
      obtain ⟨a1, a2, _⟩ := hf _ _ _ _ hs hx
      obtain ⟨b1, b2⟩ := struct_reps hf fs _ _ xs h1 hr (by simpa using h3) (fun i f' hf' => by
        have := h4 (i + 1) f' (by simpa using hf')
        simpa using this)
      simp only [List.map_cons, pvCells]
      refine ⟨.cons a1 b1, ?_⟩
      have := PReps.append b2 a2
      have e : (cs.drop f.offset).take (P.cellsOf f.type) ++ cs.drop (f.offset + P.cellsOf f.type) = cs.drop f.offset := by
        rw [← List.drop_drop]; exact List.take_append_drop _ _
      rw [e] at this
      exact this
    · cases h2

theorem trod_reads : ∀ (n : Nat) {fuel : Nat} {t : TypeId} {cs : List Value} {x : DataW H × List MemPlace} {sh : Sh}, shOf P n t = some sh → DataW.trod enc P w base spare held fuel t cs = some x → Reads w sh (P.cellsOf t) x.1 cs
  | 0, _, _, _, _, _, h, _ => by simp [shOf] at h
  | n + 1, fuel, t, cs, x, sh, hs, h => by
    simp only [shOf] at hs
    split at hs
    · rename_i hu
      split at hs
      · rename_i hc
        cases hs
        obtain ⟨b, rfl, rfl⟩ := DataW.trod_bool hu h
        exact ⟨.b _, .cons (.b _) .nil, hc.symm⟩
      · cases hs
    · rename_i k hu
      split at hs
      · rename_i hc
        cases hs
        obtain ⟨m, rfl, rfl, hw⟩ := DataW.trod_int hu h
        exact ⟨.i _ _ hw, .cons (.i _ _) .nil, hc.symm⟩
      · cases hs
    · rename_i hu
      split at hs
      · rename_i hc
        cases hs
        obtain ⟨s, rfl, rfl, hsz⟩ := DataW.trod_string hu h
        have hsz : s.data.toList.length ≤ 9223372036854775807 := by
          have e : s.data.toList.length = s.size := by rw [Array.length_toList]; rfl
          rw [e]; exact hsz
        exact ⟨.s _ hsz, .cons (PRep.s s.data.toList) .nil, hc.symm⟩
      · cases hs
    · rename_i e hu
      split at hs
      · rename_i s hse
        split at hs
        · rename_i hc
          cases hs
          rcases DataW.trod_slice hu h with ⟨rfl, rfl⟩ | ⟨a, len, cap, elems, rest, m, rfl, rfl, rfl, _, hle, _, hlen, hget, _⟩
          · exact ⟨.sl _ _ (.nil _), .cons (.sl0 _ _) .nil, hc.1.symm⟩
          · obtain ⟨ab, ao, asp⟩ := a
            rcases Nat.eq_zero_or_pos len with h0 | h0
            · subst h0
              have : elems = [] := List.eq_nil_of_length_eq_zero hlen
              subst this
              exact ⟨.sl _ _ (.nil _), .cons (.sl0 _ _) .nil, hc.1.symm⟩
            · have hcells : ∀ (i : Nat) y, elems[i]? = some y → ∃ cs, DataW.trod enc P w base spare held m e cs = some y ∧ ∀ j, j < P.cellsOf e → w.cell? ((((⟨ab, ao, asp⟩ : Addr).add (i * P.cellsOf e))).add j) = cs[j]? := by
                intro i y hy
                have hi : i < len := by rw [← hlen]; exact (List.getElem?_eq_some_iff.1 hy).1
                have := hget i hi
                rw [hy] at this
                rw [Option.bind_eq_some_iff] at this
                obtain ⟨cs, q1, q2⟩ := this
                obtain ⟨_, _, q3⟩ := World.cells?_some q1
                exact ⟨cs, q2, q3⟩
              obtain ⟨y0, hy0⟩ : ∃ y0, elems[0]? = some y0 := ⟨elems[0], by simp⟩
              obtain ⟨cs0, q1, q2⟩ := hcells 0 y0 hy0
              obtain ⟨_, _, r3⟩ := trod_reads n hse q1
              have hc0 : ∃ v0, w.cell? ((((⟨ab, ao, asp⟩ : Addr).add (0 * P.cellsOf e))).add 0) = some v0 := by
                rw [q2 0 hc.2]
                cases cs0 with
                | nil => simp at r3; omega
                | cons v _ => exact ⟨v, rfl⟩
              obtain ⟨v0, hv0⟩ := hc0
              have hsp := World.cell?_spot hv0
              simp [Addr.add] at hsp
              subst hsp
              have hblk := cell_lt hv0
              simp [Addr.add] at hblk
              obtain ⟨f1, f2, us, f3, f4⟩ := slice_reps (w := w) (ok := fun b => b < w.heap.size) (sh := s) (c := P.cellsOf e) (b := ab) (o := ao) (f := DataW.trod enc P w base spare held m e) (fun cs x hx => trod_reads n hse hx) elems 0 (fun i y hy => by
                obtain ⟨cs, g1, g2⟩ := hcells i y hy
                refine ⟨cs, g1, fun j hj => ?_⟩
                have := g2 j hj
                simp only [add_plain] at this
                rw [Nat.zero_add]
                exact this)
              have hl2 : (pvOfs (elems.map (·.1))).length = len := by rw [pvOfs_eq]; simp [hlen]
              refine ⟨.sl _ _ f1, .cons ?_ .nil, hc.1.symm⟩
              have := PRep.sl (w := w) (ok := fun b => b < w.heap.size) (pvOfs (elems.map (·.1))) ab ao cap (P.cellsOf e) us (fun hn => by rw [hn] at hl2; simp at hl2; omega) (by omega) hblk f2 f3 (fun j u hu => by
                have := f4 j u hu
                rw [Nat.zero_mul, Nat.add_zero] at this
                exact this)
              rw [hl2] at this
              exact this
        · cases hs
      · cases hs
    · rename_i fs hu
      split at hs
      · rename_i hcon
        split at hs
        · rename_i l hl
          cases hs
          obtain ⟨xs, m, rfl, rfl, hlen, hxl, hxs⟩ := DataW.trod_struct hu h
          rw [← hlen] at hcon
          obtain ⟨a1, a2⟩ := struct_reps (w := w) (P := P) (ok := fun b => b < w.heap.size) (g := DataW.trod enc P w base spare held m) (sf := shOf P n) (fun t cs x sh q1 q2 => trod_reads n q1 q2) fs.toList 0 l xs hcon hl (by simpa using hxl) (fun i f hf => hxs i f (by simpa using hf))
          rw [List.drop_zero] at a2
          exact ⟨.ag _ _ a1, a2, hlen⟩
        · cases hs
      · cases hs
    · cases hs

/-- An argument, as abstract data. -/
theorem trod_arg {n : Nat} {t : TypeId} {v : Value} {d : DataW H} {ps : List MemPlace} {sh : Sh} {r : Reach} {b0 : Nat} (hs : shOf P n t = some sh) (hval : Value.okWide P w r b0 t v) (h : DataW.Trod enc P w base spare held t v d ps) :
    Fits sh (pvOf d) ∧ PRep w (fun b => b < w.heap.size) (pvOf d) v := by
  obtain ⟨fuel, h⟩ := h
  obtain ⟨h1, h2, h3⟩ := trod_reads n hs h
  refine ⟨h1, ?_⟩
  cases n with
  | zero => simp [shOf] at hs
  | succ n =>
    simp only [shOf] at hs
    split at hs
    · rename_i hu
      obtain ⟨b, rfl⟩ := okWide_bool hu hval
      obtain ⟨b', hb, hx⟩ := DataW.trod_bool hu h
      simp [Value.cells] at hb
      subst hb
      cases hx
      exact .b _
    · rename_i k hu
      obtain ⟨m, rfl⟩ := okWide_int hu hval
      obtain ⟨m', hb, hx, _⟩ := DataW.trod_int hu h
      simp [Value.cells] at hb
      subst hb
      cases hx
      exact .i _ _
    · rename_i hu
      obtain ⟨s, rfl⟩ := okWide_string hu hval
      obtain ⟨s', hb, hx, _⟩ := DataW.trod_string hu h
      simp [Value.cells] at hb
      subst hb
      cases hx
      exact PRep.s s.data.toList
    · rename_i e hu
      obtain ⟨a, len, cap, rfl⟩ := okWide_slice hu hval
      have e1 : (Value.slice a len cap).cells.toList = [.slice a len cap] := rfl
      rw [e1] at h2 h
      have hd : ∃ l, pvOf d = .sl l := by
        rcases DataW.trod_slice hu h with ⟨_, hx⟩ | ⟨_, _, _, elems, _, _, _, _, hx, _⟩ <;> (cases hx; exact ⟨_, rfl⟩)
      obtain ⟨l, hl⟩ := hd
      rw [hl] at h2 ⊢
      cases h2 with
      | cons h _ => exact h
    · rename_i fs hu
      obtain ⟨cs, rfl, _⟩ := okWide_struct hu hval
      have hd : ∃ l, pvOf d = .ag l := by
        obtain ⟨xs, m, _, hx, _⟩ := DataW.trod_struct hu h
        cases hx; exact ⟨_, rfl⟩
      obtain ⟨l, hl⟩ := hd
      rw [hl] at h2 ⊢
      have e1 : (Value.agg cs).cells.toList = cs.toList := rfl
      rw [e1] at h2
      have := PRep.ag l cs.toList h2
      simpa using this
    · cases hs
end

/-! ### Readings of known shapes -/
theorem fits_bytes {l : List PV} (h : FitsA (.i .u8) l) : ∃ bs : List UInt8, l = bs.map B := by
  generalize hs : Sh.i .u8 = s at h
  induction l with
  | nil => exact ⟨[], rfl⟩
  | cons x l ih =>
    cases h with
    | cons h1 h2 =>
      subst hs
      obtain ⟨bs, rfl⟩ := ih h2
      cases h1 with
      | i k n hw =>
        have := bounds_u8 hw
        refine ⟨UInt8.ofNat n.toNat :: bs, ?_⟩
        simp only [List.map_cons, B, UInt8.toNat_ofNat', List.cons.injEq, PV.i.injEq, true_and, and_true]
        omega

theorem fits_sl_bytes {v : PV} (h : Fits (.sl (.i .u8)) v) : ∃ bs : List UInt8, v = .sl (bs.map B) := by
  cases h with
  | sl s l h => obtain ⟨bs, rfl⟩ := fits_bytes h; exact ⟨bs, rfl⟩

theorem fits_i {k : IntKind} {v : PV} (h : Fits (.i k) v) : ∃ n, v = .i k n ∧ (Lit.int k n).wf = true := by
  cases h with
  | i k n hw => exact ⟨n, rfl, hw⟩

theorem fits_b {v : PV} (h : Fits .b v) : ∃ b, v = .b b := by
  cases h with
  | b x => exact ⟨x, rfl⟩

theorem fits_s {v : PV} (h : Fits .te v) : ∃ l, v = .s l ∧ l.length ≤ 9223372036854775807 := by
  cases h with
  | s l h => exact ⟨l, rfl, h⟩

/-! ### What a law asks -/
section
variable {H : Type} {enc : TypeId × Value → H} {P : Program}

theorem keptBut_of {W W' : World} (ho : W'.os = W.os) (hout : W'.output = W.output) (hs : ∀ b, b < W.heap.size → W'.heap[b]? = W.heap[b]?) (may : MemPlace → Prop) : W.keptBut W' may := by
  refine ⟨ho, hout, fun i hi => ?_⟩
  rw [hs i hi]
  split
  · rename_i h1 h2
    rw [h1] at h2
    simp only [Option.some.injEq, Obj.cells.injEq] at h2
    obtain ⟨rfl, rfl, rfl⟩ := h2
    exact ⟨rfl, rfl, rfl, fun _ _ => rfl⟩
  · rename_i h1 h2
    rw [h1] at h2
    simp only [Option.some.injEq, Obj.map.injEq] at h2
    obtain ⟨rfl, rfl⟩ := h2
    exact .inr ⟨rfl, rfl⟩
  · rfl

/-- A law's contract gives what its statement asks. -/
theorem law_post {f : FuncId} {fn : Func} {s : ChangeSpec} {W : World} {args : Array Value} {ds gs : List (DataW H)} {before : List MemPlace} {vs : List V} {apart fresh handsOn again : Bool}
    (hvars : s.vars = []) (hspec : s.fn H (ds ++ gs) = { results := [.lit (.bool true)], args := ds }) (tb : TypeId) (hres : fn.resultTypes = #[tb]) (htb : P.underlying tb = some .bool)
    (hl : laidOutB P = true) (hpar : ∀ t ∈ fn.params.toList, P.readableRec t = true ∧ t < P.types.size)
    (hW : DataW.Whole enc P fn.params.toList s.vars apart W args.toList ds gs before) (hfc : FC P f vs [] (.p (.b true)) []) (hvs : VReps W (fun b => b < W.heap.size) (fun _ _ => none) vs args.toList) :
    Calls P f args W fun e W' => ∃ v, e = .returned v ∧ s.post enc P fn apart fresh handsOn again W args v W' := by
  have hown : ∀ b, ¬ Owned (fun _ _ => none) b := fun b h => by obtain ⟨r, s, L, h, _⟩ := h; cases h
  have hvs2 : VReps W (okOf W (fun _ => False) (fun _ _ => none)) (fun _ _ => none) vs args.toList := hvs.mono (fun b hb => ⟨⟨hb, id, hown b⟩, rfl⟩) (fun _ _ _ _ h => h)
  have hcall := hfc.dc (fun _ => False) (fun _ _ => none) W args.toList hvs2 ⟨fun r b h => (by cases h), fun r s L h => (by cases h), fun _ _ _ _ _ _ h => (by cases h), fun b h => (hown b h).elim, fun b h => h.elim⟩ (fun g x h => (by cases h))
  have ea : args.toList.toArray = args := by simp
  rw [ea] at hcall
  refine hcall.mono fun e W' ⟨u, ρ', he, hev, hv, _, _⟩ => ?_
  subst he
  cases hv with
  | p hp =>
    cases hp
    refine ⟨_, rfl, ?_⟩
    have hsame : ∀ b, b < W.heap.size → W'.heap[b]? = W.heap[b]? := fun b hb => (hev.same b hb (hown b)).1
    have hlt := hW.lt
    have hW0 := hW
    obtain ⟨p, q, hA, hV, hpq, hz, hn⟩ := hW
    rw [hvars] at hV
    obtain ⟨hgs, hq⟩ := trodVars_none hV
    subst hgs hq
    rw [List.append_nil] at hpq
    subst hpq
    have stay : ∀ (sp : Nat → Bool), (∀ x ∈ before, sp x.block = true) → DataW.TrodAll enc P W' 0 sp true fn.params.toList args.toList ds before := by
      intro sp hsp
      have go : ∀ (ts : List TypeId) (vs : List Value) (ds : List (DataW H)) (ps : List MemPlace), (∀ t ∈ ts, P.readableRec t = true ∧ t < P.types.size) → (∀ x ∈ ps, x.block < W.heap.size) → (∀ x ∈ ps, sp x.block = true) →
          DataW.TrodAll enc P W 0 (fun _ => true) true ts vs ds ps → DataW.TrodAll enc P W' 0 sp true ts vs ds ps := by
        intro ts
        induction ts with
        | nil => intro vs ds ps _ _ _ h; obtain ⟨rfl, rfl, rfl⟩ := trodAll_nil h; rfl
        | cons t ts ih =>
          intro vs ds ps ht hps hsp h
          obtain ⟨v, vs', d, ds', a, b, rfl, rfl, rfl, h1, h2⟩ := trodAll_cons h
          refine ⟨a, b, ?_, ih vs' ds' b (fun t ht' => ht t (by simp [ht'])) (fun x hx => hps x (by simp [hx])) (fun x hx => hsp x (by simp [hx])) h2, rfl⟩
          refine WideElems.Trod_stays hl (ht t (by simp)).1 (ht t (by simp)).2 h1 (fun x hx => ?_) (fun x hx => hsp x (by simp [hx]))
          have hb : Below W.heap.size W W' := ⟨hev.os, hev.tape, hev.output, hev.size, hsame⟩
          exact hb.same (hps x (by simp [hx]))
      exact go _ _ _ _ hpar hlt hsp hA
    have hold : ∀ x ∈ before, (fun b => decide (b < W.heap.size)) x.block = true := fun x hx => by simpa using hlt x hx
    have hr1 : ∀ (b : Nat) (sp : Nat → Bool) (hd : Bool), DataW.TrodAll enc P W' b sp hd fn.resultTypes.toList ((Value.bool true).resultList fn.resultTypes.size) (s.fn H (ds ++ [])).results [] := by
      intro b sp hd
      rw [hres, hspec]
      exact trodAll_mk1 (shut_bool htb _)
    have ha1 : ∀ sp : Nat → Bool, (∀ x ∈ before, sp x.block = true) → DataW.TrodAll enc P W' 0 sp true fn.params.toList args.toList (s.fn H (ds ++ [])).args before := by
      intro sp hsp
      rw [hspec]
      exact stay sp hsp
    have hv1 : ∀ sp : Nat → Bool, DataW.TrodVars enc P W' sp s.vars (s.fn H (ds ++ [])).vars [] := by
      intro sp
      rw [hvars, hspec]
      rfl
    refine ⟨ds, [], before, [], before, [], hW0, hr1 _ _ _, ha1 _ hold, hv1 _, keptBut_of hev.os hev.output hsame _, fun _ => ?_⟩
    refine ⟨ok_one hres rfl (okWide_bool_mk htb _), _, _, ([] ++ before) ++ [], ⟨[] ++ before, [], trodAll_append (ha1 _ (fun _ _ => rfl)) (hr1 _ _ _), hv1 _, rfl, ?_, ?_⟩, ?_⟩
    · intro b off hp
      have hp : MemPlace.cell b off ∈ before := by simpa using hp
      have := hz b off hp
      have hb := hsame b (hlt _ hp)
      simpa [World.frozen?, hb] using this
    · intro ha
      simpa using hn ha
    · intro x hx _
      simpa using hx
end
end Go.DW
