/- Proved: the law WireEncodes of layer 33 returns true at every input that can be read as data, and leaves its arguments as they were. Conditions: none beyond the given statement's own. -/
import Derived.Test.YtihhgkobmnjamaaRows
import Derived.Test.YtihhgkobmnjamaaOk
import Derived.Test.YtihhgkobmnjamaaFc
namespace Go.Proofs.Ytihhgkobmnjamaa.wireEncodes
open Go.ChangeShapes Go.WideShapes Go.ChangeAt Go.RowKit Go.DW

theorem own : ownKnob Try.prog.godebug = none := by kernel_rfl
theorem laidOut : laidOutB Try.prog = true := by kernel_rfl

theorem fits_msg {v : PV} (h : Fits (.ag [.i .i64, .te, .i .i64, .i .i64, .i .i64, .sl (.i .u8)]) v) : ∃ m : Msg, v = m.pv ∧ m.host.length ≤ 9223372036854775807 := by
  cases h with
  | ag ss cs h =>
    cases h with
    | cons h1 h =>
      cases h with
      | cons h2 h =>
        cases h with
        | cons h3 h =>
          cases h with
          | cons h4 h =>
            cases h with
            | cons h5 h =>
              cases h with
              | cons h6 h =>
                cases h
                obtain ⟨kind, rfl, _⟩ := fits_i h1
                obtain ⟨host, rfl, hl⟩ := fits_s h2
                obtain ⟨epoch, rfl, _⟩ := fits_i h3
                obtain ⟨seq, rfl, _⟩ := fits_i h4
                obtain ⟨to, rfl, _⟩ := fits_i h5
                obtain ⟨body, rfl⟩ := fits_sl_bytes h6
                exact ⟨⟨kind, host, epoch, seq, to, body⟩, rfl, hl⟩

set_option maxRecDepth 100000 in
theorem lifted (os : Os) (started : os.Started) (H : Type) (enc : TypeId × Value → H) :
    ReturnsInHanded {} Try.checked os 3 .any (Rows.wireEncodesSpec.pre6 enc Try.prog Try.f3 Rows.wireEncodesRow.domain false) (Rows.wireEncodesSpec.post enc Try.prog Try.f3 false true false false) := by
  refine returnsInHanded_of_change (C := Try.checked) own started (by kernel_rfl) Try.func3
    (ChangeSpec.witness6 (enc := enc) (C := Try.checked) false ⟨#[], #[.slice none 0 0, .agg #[.int .i64 0, .string .empty, .int .i64 0, .int .i64 0, .int .i64 0, .slice none 0 0], .int .u16 0], []⟩ 8 (by kernel_rfl) (by kernel_rfl) (by kernel_rfl) (by kernel_rfl)) ?_
  intro W base args ds gs before hval0 hW hcnd _
  have hval : ∀ (j : Nat) t v, Try.f3.params[j]? = some t → args[j]? = some v → Value.okWide Try.prog W .any base t v := hval0
  obtain ⟨p, q, hA0, hV, _⟩ := id hW
  have hA : DataW.TrodAll enc Try.prog W 0 (fun _ => true) true Try.f3.params.toList args.toList ds p := hA0
  rw [Try.params3] at hA hval
  obtain ⟨v0, v1, v2, d0, d1, d2, p0, p1, p2, rfl, rfl, rfl, h0, h1, h2⟩ := trodAll_three hA
  obtain ⟨rfl, rfl⟩ := trodVars_none hV
  obtain ⟨f0, r0⟩ := trod_arg (P := Try.prog) (n := 4) (sh := .sl (.i .u8)) (by kernel_rfl) (hval 0 _ v0 rfl rfl) h0
  obtain ⟨f1, r1⟩ := trod_arg (P := Try.prog) (n := 4) (sh := .ag [.i .i64, .te, .i .i64, .i .i64, .i .i64, .sl (.i .u8)]) (by kernel_rfl) (hval 1 _ v1 rfl rfl) h1
  obtain ⟨f2, r2⟩ := trod_arg (P := Try.prog) (n := 4) (sh := .i .u16) (by kernel_rfl) (hval 2 _ v2 rfl rfl) h2
  obtain ⟨codes, hc⟩ := fits_sl_bytes f0
  obtain ⟨raw, hr, hrl⟩ := fits_msg f1
  obtain ⟨long, hl, hlw⟩ := fits_i f2
  have hlb := bounds_u16 hlw
  rw [hc] at r0
  rw [hr] at r1
  rw [hl] at r2
  exact law_post (fn := Try.f3) (s := Rows.wireEncodesSpec) rfl rfl 4 rfl Try.underlying4 laidOut (by decide +kernel) hW (Ok33.c_encodes codes raw long hrl ⟨hlb.1, by omega⟩) (.cons (.p r0) (.cons (.p r1) (.cons (.p r2) .nil)))

theorem proved : Rows.WireEncodesSaid :=
  OpenClaim.holds_of_wide 3 Try.f3 rfl rfl rfl rfl rfl rfl rfl ⟨rfl, rfl, rfl, rfl, rfl⟩ rfl rfl rfl rfl rfl (by kernel_rfl) Try.func3 (by kernel_rfl)
    (of_decide_eq_true (by kernel_rfl)) (by unfold Func.isWrapper; first | (rw [if_pos (by decide +kernel)]; kernel_rfl) | (rw [if_neg (by decide +kernel)]; exact ⟨rfl, rfl⟩))
    (fun os started H enc _ => lifted os started H enc)
end Go.Proofs.Ytihhgkobmnjamaa.wireEncodes
