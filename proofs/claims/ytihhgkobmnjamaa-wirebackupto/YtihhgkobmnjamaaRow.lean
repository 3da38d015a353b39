/- Proved: the law WireBack of layer 33 returns true at every input that can be read as data, of bulk at most 1048576, and leaves its arguments as they were. -/
import Derived.Test.YtihhgkobmnjamaaRows
import Derived.Test.YtihhgkobmnjamaaOk
import Derived.Test.YtihhgkobmnjamaaFc
namespace Go.Proofs.Ytihhgkobmnjamaa.wireBackUpto
open Go.ChangeShapes Go.WideShapes Go.ChangeAt Go.RowKit Go.DW

theorem own : ownKnob Try.prog.godebug = none := by kernel_rfl
theorem laidOut : laidOutB Try.prog = true := by kernel_rfl

theorem sl_len {H : Type} {d : DataW H} {l : List PV} (h : pvOf d = .sl l) : l.length ≤ Rows.uptoBulk d := by
  cases d with
  | slice elems spare =>
    simp only [pvOf, PV.sl.injEq] at h
    subst h
    rw [pvOfs_eq, List.length_map]
    have : ∀ xs : List (DataW H), xs.length ≤ Rows.uptoBulkAll xs := by
      intro xs
      induction xs with
      | nil => simp
      | cons x xs ih =>
        have h1 : 1 ≤ Rows.uptoBulk x := by
          cases x with
          | lit l => cases l <;> simp [Rows.uptoBulk]
          | _ => simp [Rows.uptoBulk]
        simp only [Rows.uptoBulkAll, List.length_cons]; omega
    have := this elems
    simp only [Rows.uptoBulk]; omega
  | lit l => cases l <;> simp [pvOf] at h <;> (subst h; simp)
  | agg parts => simp [pvOf] at h
  | _ => simp [pvOf] at h; subst h; simp

theorem fits_u8 {v : PV} (h : Fits (.i .u8) v) : ∃ b : UInt8, v = B b := by
  obtain ⟨n, rfl, hw⟩ := fits_i h
  have := bounds_u8 hw
  exact ⟨UInt8.ofNat n.toNat, by simp only [B, UInt8.toNat_ofNat', PV.i.injEq, true_and]; omega⟩

theorem contract (H : Type) (enc : TypeId × Value → H) (W : World) (base : Nat) (args : Array Value) (ds gs : List (DataW H)) (before : List MemPlace)
    (hval0 : ∀ (j : Nat) t v, Try.f6.params[j]? = some t → args[j]? = some v → Value.okWide Try.prog W .any base t v)
    (hW : DataW.Whole enc Try.prog Try.f6.params.toList Rows.wireBackSpec.vars false W args.toList ds gs before) (hk : Rows.uptoSmall H (ds ++ gs) = true) :
    Calls Try.prog 6 args W fun e W' => ∃ v, e = .returned v ∧ Rows.wireBackSpec.post enc Try.prog Try.f6 false true false false W args v W' := by
  have hval := hval0
  obtain ⟨p, q, hA0, hV, _⟩ := id hW
  have hA : DataW.TrodAll enc Try.prog W 0 (fun _ => true) true Try.f6.params.toList args.toList ds p := hA0
  rw [Try.params6] at hA hval
  obtain ⟨v0, vs0, d0, ds0, p0, q0, hargs, rfl, rfl, h0, r0⟩ := trodAll_cons hA
  obtain ⟨v1, vs1, d1, ds1, p1, q1, rfl, rfl, rfl, h1, r1⟩ := trodAll_cons r0
  obtain ⟨rfl, rfl, rfl⟩ := trodAll_nil r1
  obtain rfl : args = #[v0, v1] := by cases args; simp_all
  obtain ⟨rfl, rfl⟩ := trodVars_none hV
  have hb := of_decide_eq_true hk
  simp only [List.append_nil, Rows.uptoBulkAll] at hb
  obtain ⟨f0, e0⟩ := trod_arg (P := Try.prog) (n := 4) (sh := .sl (.i .u8)) (by kernel_rfl) (hval 0 _ v0 rfl rfl) h0
  obtain ⟨f1, e1⟩ := trod_arg (P := Try.prog) (n := 4) (sh := .sl (.i .u8)) (by kernel_rfl) (hval 1 _ v1 rfl rfl) h1
  obtain ⟨a0, g0⟩ := fits_sl_bytes f0
  have l0 := sl_len g0
  rw [List.length_map] at l0
  rw [g0] at e0
  obtain ⟨a1, g1⟩ := fits_sl_bytes f1
  have l1 := sl_len g1
  rw [List.length_map] at l1
  rw [g1] at e1
  exact law_post (fn := Try.f6) (s := Rows.wireBackSpec) rfl rfl 4 rfl Try.underlying4 laidOut (by decide +kernel) hW (Ok33.c_back a0 a1 (by omega)) (.cons (.p e0) (.cons (.p e1) .nil))

set_option maxRecDepth 100000 in
theorem lifted (os : Os) (started : os.Started) (H : Type) (enc : TypeId × Value → H) (F : Stop.Interp) :
    ReturnsInHanded {} Try.checked os 6 .any ((Rows.OpenSpec.upto Rows.wireBackSpec).pre6 enc Try.prog Try.f6 Rows.wireBackUptoRow.domain false) (((Rows.OpenSpec.upto Rows.wireBackSpec).at F).post enc Try.prog Try.f6 false true false false) := by
  refine returnsInHanded_of_cond (C := Try.checked) (s := Rows.OpenSpec.upto Rows.wireBackSpec) (k := Rows.uptoSmall) rfl own started (by kernel_rfl) Try.func6
    (OpenSpec.witness (enc := enc) (C := Try.checked) (s := Rows.OpenSpec.upto Rows.wireBackSpec) (k := Rows.uptoSmall) rfl false ⟨#[], #[.slice none 0 0, .slice none 0 0], []⟩ 8 (by kernel_rfl) (by kernel_rfl) (by kernel_rfl)
      (x := ([.nil, .nil], [], [])) (by kernel_rfl) rfl (by kernel_rfl)) ?_
  intro W base args ds gs before hval hW _ hk _
  exact contract H enc W base args ds gs before hval hW hk

theorem proved : Rows.WireBackUptoSaid :=
  OpenClaim.holds_of_cond 6 Try.f6 rfl rfl rfl rfl rfl rfl rfl ⟨rfl, rfl, rfl, rfl, rfl⟩ rfl rfl rfl rfl rfl (by kernel_rfl) Try.func6 (by kernel_rfl)
    (of_decide_eq_true (by kernel_rfl)) (by unfold Func.isWrapper; first | (rw [if_pos (by decide +kernel)]; kernel_rfl) | (rw [if_neg (by decide +kernel)]; exact ⟨rfl, rfl⟩))
    (fun os started H enc _ F => lifted os started H enc F)
end Go.Proofs.Ytihhgkobmnjamaa.wireBackUpto
