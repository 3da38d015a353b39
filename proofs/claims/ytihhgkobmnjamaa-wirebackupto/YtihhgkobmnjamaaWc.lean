/- Equality of messages, by the reference. -/
import Derived.Test.YtihhgkobmnjamaaWb
import Derived.Test.YtihhgkobmnjamaaWa
import Derived.Test.YtihhgkobmnjamaaFc
namespace Go.DW
set_option maxHeartbeats 4000000
section
variable {P : Program} (hm : P.follows .mixedOrders = true)

theorem msg_eq {a b : Msg} : (a == b) = (decide (a.kind = b.kind) && (a.host == b.host) && decide (a.epoch = b.epoch) && decide (a.seq = b.seq) && decide (a.to_ = b.to_) && (a.body == b.body)) := by
  rcases a with ⟨a1, a2, a3, a4, a5, a6⟩
  rcases b with ⟨b1, b2, b3, b4, b5, b6⟩
  rw [Bool.eq_iff_iff]
  simp [and_assoc]

theorem ref_same {fs f : Nat} (oks : FnOK P fs 10 Ic.ref24_SameBytes [(4, none)]) (ok : FnOK P f 45 (Ic.ref33_Same fs) [(4, none)]) (a b : Msg) :
    FC P f [.p a.pv, .p b.pv] [] (VT (a == b)) [] := by
  refine ok.fc rfl rfl rfl ?_
  rw [msg_eq]
  refine D_seq (D_reg ?_)
  refine o_box (.vs 6 [a.cells.map .p]) rfl rfl rfl rfl rfl rfl ?_
  refine o_box (.vs 6 [b.cells.map .p]) rfl rfl rfl rfl rfl rfl ?_
  refine o_pu rfl rfl rfl rfl trivial ?_
  refine o_nil ?_
  refine D_seq (D_reg ?_)
  refine o_pu rfl rfl rfl rfl trivial ?_
  refine o_pu rfl rfl rfl rfl ⟨rfl, Nat.zero_lt_succ _⟩ ?_
  refine o_pu rfl rfl rfl rfl trivial ?_
  refine o_pu rfl rfl rfl rfl ⟨rfl, Nat.zero_lt_succ _⟩ ?_
  iterate 2 refine o_pu rfl rfl rfl rfl trivial ?_
  refine o_brgE rfl (fun h1 => ?_) (fun h1 => ?_)
  · rw [decide_eq_true h1]
    refine o_pu rfl rfl rfl rfl trivial ?_
    refine o_pu rfl rfl rfl rfl ⟨rfl, Nat.zero_lt_succ _⟩ ?_
    refine o_pu rfl rfl rfl rfl trivial ?_
    refine o_pu rfl rfl rfl rfl ⟨rfl, Nat.zero_lt_succ _⟩ ?_
    iterate 3 refine o_pu rfl rfl rfl rfl trivial ?_
    refine o_brg rfl (fun h2 => ?_) (fun h2 => ?_)
    · rw [h2]
      refine o_pu rfl rfl rfl rfl trivial ?_
      refine o_pu rfl rfl rfl rfl ⟨rfl, Nat.zero_lt_succ _⟩ ?_
      refine o_pu rfl rfl rfl rfl trivial ?_
      refine o_pu rfl rfl rfl rfl ⟨rfl, Nat.zero_lt_succ _⟩ ?_
      iterate 3 refine o_pu rfl rfl rfl rfl trivial ?_
      refine o_brgE rfl (fun h3 => ?_) (fun h3 => ?_)
      · rw [decide_eq_true h3]
        refine o_pu rfl rfl rfl rfl trivial ?_
        refine o_pu rfl rfl rfl rfl ⟨rfl, Nat.zero_lt_succ _⟩ ?_
        refine o_pu rfl rfl rfl rfl trivial ?_
        refine o_pu rfl rfl rfl rfl ⟨rfl, Nat.zero_lt_succ _⟩ ?_
        iterate 3 refine o_pu rfl rfl rfl rfl trivial ?_
        refine o_brgE rfl (fun h4 => ?_) (fun h4 => ?_)
        · rw [decide_eq_true h4]
          refine o_pu rfl rfl rfl rfl trivial ?_
          refine o_pu rfl rfl rfl rfl ⟨rfl, Nat.zero_lt_succ _⟩ ?_
          refine o_pu rfl rfl rfl rfl trivial ?_
          refine o_pu rfl rfl rfl rfl ⟨rfl, Nat.zero_lt_succ _⟩ ?_
          iterate 3 refine o_pu rfl rfl rfl rfl trivial ?_
          refine o_brgE rfl (fun h5 => ?_) (fun h5 => ?_)
          · rw [decide_eq_true h5]
            refine o_pu rfl rfl rfl rfl trivial ?_
            refine o_pu rfl rfl rfl rfl ⟨rfl, Nat.zero_lt_succ _⟩ ?_
            refine o_pu rfl rfl rfl rfl trivial ?_
            refine o_pu rfl rfl rfl rfl ⟨rfl, Nat.zero_lt_succ _⟩ ?_
            refine o_callp (same_bytes oks a.body b.body) rfl rfl rfl rfl rfl ?_
            iterate 2 refine o_pu rfl rfl rfl rfl trivial ?_
            refine o_nil ?_
            refine D_ret ?_
            exact ⟨_, [], [], .tmp rfl (.nil _), rfl, rfl, rfl, rfl, rfl, ⟨⟨_, rfl, .same rfl, rfl⟩, trivial⟩, trivial⟩
          · rw [decide_eq_false h5, Bool.and_false, Bool.false_and]
            iterate 5 refine o_skp rfl ?_
            iterate 2 refine o_pu rfl rfl rfl rfl trivial ?_
            refine o_nil ?_
            refine D_ret ?_
            exact ⟨_, [], [], .tmp rfl (.nil _), rfl, rfl, rfl, rfl, rfl, ⟨⟨_, rfl, .same rfl, rfl⟩, trivial⟩, trivial⟩
        · rw [decide_eq_false h4, Bool.and_false, Bool.false_and, Bool.false_and]
          iterate 5 refine o_skp rfl ?_
          iterate 2 refine o_pu rfl rfl rfl rfl trivial ?_
          iterate 5 refine o_skp rfl ?_
          iterate 2 refine o_pu rfl rfl rfl rfl trivial ?_
          refine o_nil ?_
          refine D_ret ?_
          exact ⟨_, [], [], .tmp rfl (.nil _), rfl, rfl, rfl, rfl, rfl, ⟨⟨_, rfl, .same rfl, rfl⟩, trivial⟩, trivial⟩
      · rw [decide_eq_false h3, Bool.and_false, Bool.false_and, Bool.false_and, Bool.false_and]
        iterate 5 refine o_skp rfl ?_
        iterate 2 refine o_pu rfl rfl rfl rfl trivial ?_
        iterate 5 refine o_skp rfl ?_
        iterate 2 refine o_pu rfl rfl rfl rfl trivial ?_
        iterate 5 refine o_skp rfl ?_
        iterate 2 refine o_pu rfl rfl rfl rfl trivial ?_
        refine o_nil ?_
        refine D_ret ?_
        exact ⟨_, [], [], .tmp rfl (.nil _), rfl, rfl, rfl, rfl, rfl, ⟨⟨_, rfl, .same rfl, rfl⟩, trivial⟩, trivial⟩
    · rw [h2, Bool.and_false, Bool.false_and, Bool.false_and, Bool.false_and, Bool.false_and]
      iterate 5 refine o_skp rfl ?_
      iterate 2 refine o_pu rfl rfl rfl rfl trivial ?_
      iterate 5 refine o_skp rfl ?_
      iterate 2 refine o_pu rfl rfl rfl rfl trivial ?_
      iterate 5 refine o_skp rfl ?_
      iterate 2 refine o_pu rfl rfl rfl rfl trivial ?_
      iterate 5 refine o_skp rfl ?_
      iterate 2 refine o_pu rfl rfl rfl rfl trivial ?_
      refine o_nil ?_
      refine D_ret ?_
      exact ⟨_, [], [], .tmp rfl (.nil _), rfl, rfl, rfl, rfl, rfl, ⟨⟨_, rfl, .same rfl, rfl⟩, trivial⟩, trivial⟩
  · rw [decide_eq_false h1, Bool.false_and, Bool.false_and, Bool.false_and, Bool.false_and, Bool.false_and]
    iterate 5 refine o_skp rfl ?_
    iterate 2 refine o_pu rfl rfl rfl rfl trivial ?_
    iterate 5 refine o_skp rfl ?_
    iterate 2 refine o_pu rfl rfl rfl rfl trivial ?_
    iterate 5 refine o_skp rfl ?_
    iterate 2 refine o_pu rfl rfl rfl rfl trivial ?_
    iterate 5 refine o_skp rfl ?_
    iterate 2 refine o_pu rfl rfl rfl rfl trivial ?_
    iterate 5 refine o_skp rfl ?_
    iterate 2 refine o_pu rfl rfl rfl rfl trivial ?_
    refine o_nil ?_
    refine D_ret ?_
    exact ⟨_, [], [], .tmp rfl (.nil _), rfl, rfl, rfl, rfl, rfl, ⟨⟨_, rfl, .same rfl, rfl⟩, trivial⟩, trivial⟩

structure SlI (a b : List Msg) where
  i : Nat
  hi : i ≤ a.length
  h : (a.drop i == b.drop i) = (a == b)

theorem pv_len (m : Msg) : m.pv.cells.length = 6 := rfl

include hm in
theorem ref_sameList {fs fb f : Nat} (okb : FnOK P fb 10 Ic.ref24_SameBytes [(4, none)]) (oks : FnOK P fs 45 (Ic.ref33_Same fb) [(4, none)]) (ok : FnOK P f 27 (Ic.ref33_SameList fs) [(4, none)]) (a b : List Msg) (ha : a.length ≤ 1000000000) (hb : b.length ≤ 1000000000) :
    FC P f [.p (.sl (a.map Msg.pv)), .p (.sl (b.map Msg.pv))] [] (VT (a == b)) [] := by
  refine ok.fc rfl rfl rfl ?_
  refine D_seq (D_reg ?_)
  refine o_pu rfl rfl rfl rfl trivial ?_
  refine o_nil ?_
  refine D_seq (D_seq (D_reg ?_))
  refine o_pu rfl rfl rfl rfl trivial ?_
  refine o_lenM _ _ rfl rfl ?_
  refine o_pu rfl rfl rfl rfl trivial ?_
  refine o_lenM _ _ rfl rfl ?_
  refine o_pu rfl rfl rfl rfl trivial ?_
  refine o_nil ?_
  refine D_condNE rfl (fun h1 => ?_) (fun h1 => ?_)
  · have e : (a == b) = false := by
      rw [beq_eq_false_iff_ne]; intro h; subst h; exact h1 rfl
    rw [e]
    refine D_seq ?_
    refine D_reg ?_
    refine o_pu rfl rfl rfl rfl trivial ?_
    refine o_nil ?_
    refine D_ret ?_
    exact ⟨_, [], [], .tmp rfl (.nil _), rfl, rfl, rfl, rfl, rfl, ⟨⟨_, rfl, .same rfl, rfl⟩, trivial⟩, trivial⟩
  · have hl : a.length = b.length := by omega
    refine D_skip ?_
    iterate 2 refine D_seq ?_
    refine D_reg ?_
    refine o_pu rfl rfl rfl rfl trivial ?_
    refine o_lenM _ _ rfl rfl ?_
    refine o_pu rfl rfl rfl rfl trivial ?_
    refine o_nil ?_
    refine D_block ?_
    refine D_loop (ι := SlI a b) (fun x => ⟨[(0, .p (.sl (a.map Msg.pv))), (1, .p (.sl (b.map Msg.pv))), (12, VI a.length), (13, VI x.i)], []⟩) (fun x => a.length - x.i) ⟨0, by omega, by rw [List.drop_zero, List.drop_zero]⟩ [] [] [] ⟨rfl, rfl, rfl, rfl, rfl, ⟨⟨_, rfl, .same rfl, rfl⟩, ⟨_, rfl, .same rfl, rfl⟩, ⟨_, rfl, .same rfl, rfl⟩, ⟨_, rfl, .same rfl, rfl⟩, trivial⟩, trivial⟩ (fun x => ?_)
    obtain ⟨i, hi, hx⟩ := x
    simp only
    refine D_seq (D_reg ?_)
    refine o_pu rfl rfl rfl rfl trivial ?_
    refine o_nil ?_
    refine D_seq (D_condP rfl (fun hlt => ?_) (fun hlt => ?_))
    · have hlt : i < a.length := by omega
      rw [drop_cons (mk0 0) hlt, drop_cons (mk0 0) (show i < b.length by omega)] at hx
      refine D_skip (D_seq (D_block (D_seq (D_reg ?_))))
      iterate 2 refine o_pu rfl rfl rfl rfl trivial ?_
      refine o_nil ?_
      refine D_seq (D_any hm ?_)
      refine o_pu rfl rfl rfl rfl trivial ?_
      refine o_pu rfl rfl rfl rfl trivial ?_
      refine o_iadM Msg.pv (mk0 0) a rfl rfl (by omega) rfl ?_
      refine o_as (.p (a.getD (i : Int).toNat (mk0 0)).pv) rfl rfl rfl rfl (Nat.le_refl _) rfl ?_
      refine o_pu rfl rfl rfl rfl trivial ?_
      refine o_pu rfl rfl rfl rfl trivial ?_
      refine o_iadM Msg.pv (mk0 0) b rfl rfl (by omega) rfl ?_
      refine o_as (.p (b.getD (i : Int).toNat (mk0 0)).pv) rfl rfl rfl rfl (Nat.le_refl _) rfl ?_
      have e1 : (i : Int).toNat = i := rfl
      rw [e1]
      generalize a.getD i (mk0 0) = u at *
      generalize b.getD i (mk0 0) = v at *
      refine o_callp (ref_same okb oks u v) rfl rfl rfl rfl rfl ?_
      refine o_pu rfl rfl rfl rfl trivial ?_
      refine o_nil ⟨rfl, ?_⟩
      rw [List.cons_beq_cons] at hx
      refine D_condB rfl (fun h2 => ?_) (fun h2 => ?_)
      · rw [h2, Bool.false_and] at hx
        rw [← hx]
        refine D_seq ?_
        refine D_reg ?_
        refine o_pu rfl rfl rfl rfl trivial ?_
        refine o_nil ?_
        refine D_ret ?_
        exact ⟨_, [], [], .tmp rfl (.nil _), rfl, rfl, rfl, rfl, rfl, ⟨⟨_, rfl, .same rfl, rfl⟩, trivial⟩, trivial⟩
      · rw [h2, Bool.true_and] at hx
        refine D_skip ?_
        refine D_reg ?_
        refine o_i64 rfl rfl rfl rfl trivial (by omega) ?_
        refine o_pu rfl rfl rfl rfl trivial ?_
        refine o_nil ?_
        exact ⟨⟨i + 1, hlt, hx⟩, [], [], [], by simp only; omega, ⟨rfl, rfl, rfl, rfl, rfl, ⟨⟨_, rfl, .same rfl, rfl⟩, ⟨_, rfl, .same rfl, rfl⟩, ⟨_, rfl, .same rfl, rfl⟩, ⟨_, rfl, .same rfl, rfl⟩, trivial⟩, trivial⟩⟩
    · have hge : i = a.length := by omega
      subst hge
      rw [List.drop_length, List.drop_eq_nil_of_le (by omega)] at hx
      rw [← hx]
      refine D_exit ?_
      refine D_seq ?_
      refine D_reg ?_
      refine o_pu rfl rfl rfl rfl trivial ?_
      refine o_nil ?_
      refine D_ret ?_
      exact ⟨_, [], [], .tmp rfl (.nil _), rfl, rfl, rfl, rfl, rfl, ⟨⟨_, rfl, .same rfl, rfl⟩, trivial⟩, trivial⟩
end
end Go.DW

/- Messages, read from bytes. -/
namespace Go.DW
set_option maxHeartbeats 4000000
section
variable {P : Program} (hm : P.follows .mixedOrders = true)

def be32 (b : List UInt8) : Nat := (b.getD 0 0).toNat * 2 ^ 24 + (b.getD 1 0).toNat * 2 ^ 16 + (b.getD 2 0).toNat * 2 ^ 8 + (b.getD 3 0).toNat

def feedF (dec : List UInt8 → Option Msg) : Nat → List UInt8 → List Msg × List UInt8 × Int
  | 0, b => ([], b, 0)
  | f + 1, b =>
    if b.length < 4 then ([], b, 0)
    else if be32 b = 0 ∨ 16512 < be32 b then ([], [], 331)
    else if b.length < 4 + be32 b then ([], b, 0)
    else match dec (b.take (4 + be32 b)) with
      | none => ([], [], 331)
      | some m => (m :: (feedF dec f (b.drop (4 + be32 b))).1, (feedF dec f (b.drop (4 + be32 b))).2)

theorem feedF_more {dec : List UInt8 → Option Msg} : ∀ {f g : Nat} {b : List UInt8}, b.length < f → b.length < g → feedF dec f b = feedF dec g b
  | 0, _, _, h, _ => by omega
  | _ + 1, 0, _, _, h => by omega
  | f + 1, g + 1, b, h1, h2 => by
    simp only [feedF]
    generalize be32 b = n
    by_cases h : b.length < 4
    · rw [if_pos h, if_pos h]
    · rw [feedF_more (f := f) (g := g) (b := b.drop (4 + n)) (by simp; omega) (by simp; omega)]

def feedR (dec : List UInt8 → Option Msg) (b : List UInt8) : List Msg × List UInt8 × Int := feedF dec (b.length + 1) b

theorem feedR_eq {dec : List UInt8 → Option Msg} {b : List UInt8} {n : Nat} (hn : be32 b = n) : feedR dec b =
    if b.length < 4 then ([], b, 0)
    else if n = 0 ∨ 16512 < n then ([], [], 331)
    else if b.length < 4 + n then ([], b, 0)
    else match dec (b.take (4 + n)) with
      | none => ([], [], 331)
      | some m => (m :: (feedR dec (b.drop (4 + n))).1, (feedR dec (b.drop (4 + n))).2) := by
  subst hn
  show feedF dec (b.length + 1) b = _
  rw [feedF]
  generalize be32 b = n
  by_cases h : b.length < 4
  · rw [if_pos h, if_pos h]
  · have e : feedF dec b.length (b.drop (4 + n)) = feedR dec (b.drop (4 + n)) := feedF_more (by simp; omega) (Nat.lt_succ_self _)
    rw [e]

theorem feedR_short {dec : List UInt8 → Option Msg} {b : List UInt8} (h : b.length < 4) : feedR dec b = ([], b, 0) := by rw [feedR_eq rfl, if_pos h]
theorem feedR_bad {dec : List UInt8 → Option Msg} {b : List UInt8} {n : Nat} (hn : be32 b = n) (h : ¬ b.length < 4) (h2 : n = 0 ∨ 16512 < n) : feedR dec b = ([], [], 331) := by rw [feedR_eq hn, if_neg h, if_pos h2]
theorem feedR_part {dec : List UInt8 → Option Msg} {b : List UInt8} {n : Nat} (hn : be32 b = n) (h : ¬ b.length < 4) (h2 : ¬ (n = 0 ∨ 16512 < n)) (h3 : b.length < 4 + n) : feedR dec b = ([], b, 0) := by rw [feedR_eq hn, if_neg h, if_neg h2, if_pos h3]
theorem feedR_none {dec : List UInt8 → Option Msg} {b : List UInt8} {n : Nat} (hn : be32 b = n) (h : ¬ b.length < 4) (h2 : ¬ (n = 0 ∨ 16512 < n)) (h3 : ¬ b.length < 4 + n) (h4 : dec (b.take (4 + n)) = none) : feedR dec b = ([], [], 331) := by
  rw [feedR_eq hn, if_neg h, if_neg h2, if_neg h3, h4]
theorem feedR_some {dec : List UInt8 → Option Msg} {b : List UInt8} {n : Nat} {m : Msg} (hn : be32 b = n) (h : ¬ b.length < 4) (h2 : ¬ (n = 0 ∨ 16512 < n)) (h3 : ¬ b.length < 4 + n) (h4 : dec (b.take (4 + n)) = some m) :
    feedR dec b = (m :: (feedR dec (b.drop (4 + n))).1, (feedR dec (b.drop (4 + n))).2) := by
  rw [feedR_eq hn, if_neg h, if_neg h2, if_neg h3, h4]

/-- What is asked of a function that reads messages. -/
structure FeedEq (dec : List UInt8 → Option Msg) (F : List UInt8 → List Msg × List UInt8 × Int) : Prop where
  short : ∀ b, b.length < 4 → F b = ([], b, 0)
  bad : ∀ b n, be32 b = n → ¬ b.length < 4 → (n = 0 ∨ 16512 < n) → F b = ([], [], 331)
  part : ∀ b n, be32 b = n → ¬ b.length < 4 → ¬ (n = 0 ∨ 16512 < n) → b.length < 4 + n → F b = ([], b, 0)
  none : ∀ b n, be32 b = n → ¬ b.length < 4 → ¬ (n = 0 ∨ 16512 < n) → ¬ b.length < 4 + n → dec (b.take (4 + n)) = none → F b = ([], [], 331)
  some : ∀ b n m, be32 b = n → ¬ b.length < 4 → ¬ (n = 0 ∨ 16512 < n) → ¬ b.length < 4 + n → dec (b.take (4 + n)) = some m → F b = (m :: (F (b.drop (4 + n))).1, (F (b.drop (4 + n))).2)

theorem feedEq (dec : List UInt8 → Option Msg) : FeedEq dec (feedR dec) :=
  ⟨fun _ h => feedR_short h, fun _ _ hn h h2 => feedR_bad hn h h2, fun _ _ hn h h2 h3 => feedR_part hn h h2 h3, fun _ _ hn h h2 h3 h4 => feedR_none hn h h2 h3 h4, fun _ _ _ hn h h2 h3 h4 => feedR_some hn h h2 h3 h4⟩

structure FeedI (F : List UInt8 → List Msg × List UInt8 × Int) (N : Nat) (fin : List Msg × List UInt8 × Int) where
  out : List Msg
  b : List UInt8
  hl : out.length + b.length ≤ N
  h1 : out ++ (F b).1 = fin.1
  h2 : (F b).2 = fin.2

theorem be32_lt (b : List UInt8) : be32 b < 4294967296 := by
  unfold be32
  have h0 := (b.getD 0 0).toNat_lt
  have h1 := (b.getD 1 0).toNat_lt
  have h2 := (b.getD 2 0).toNat_lt
  have h3 := (b.getD 3 0).toNat_lt
  omega

include hm in
theorem wire_feedF {dec : List UInt8 → Option Msg} {F : List UInt8 → List Msg × List UInt8 × Int} (hF : FeedEq dec F) {fd f : Nat} (hdec : ∀ b : List UInt8, b.length ≤ 1000000 → 4 < b.length → FC P fd [VB b] [] (.tup [.p (optM (dec b)).pv, VT (dec b).isSome]) [])
    (ok : FnOK P f 75 (Ic.wire_Feed fd) [(4, none), (5, none), (6, none)]) (rest more : List UInt8) (hl : rest.length + more.length ≤ 1000000000) :
    FC P f [VB rest, VB more] [] (.tup [.p (.sl ((F (rest ++ more)).1.map Msg.pv)), VB (F (rest ++ more)).2.1, VI (F (rest ++ more)).2.2]) [] := by
  refine ok.fc rfl rfl rfl ?_
  refine D_seq (D_reg ?_)
  iterate 3 refine o_pu rfl rfl rfl rfl trivial ?_
  refine o_nil ?_
  refine D_seq (D_reg ?_)
  refine o_pu rfl rfl rfl rfl trivial ?_
  refine o_appN B rest (by_ := 1) (c := True) (R := []) rfl rfl rfl trivial (fun _ _ => ⟨rfl, rfl⟩) (by omega) rfl ?_
  refine o_pu rfl rfl rfl rfl trivial ?_
  refine o_appM B rest more (by_ := 1) (c := True) (R := []) rfl rfl rfl rfl rfl trivial (fun _ _ => ⟨rfl, rfl⟩) (by omega) rfl ?_
  refine o_pu rfl rfl rfl rfl trivial ?_
  refine o_nil ?_
  refine D_seq ?_
  refine D_reg ?_
  refine o_pu rfl rfl rfl rfl trivial ?_
  refine o_nil ?_
  refine D_seq ?_
  have hN : (rest ++ more).length ≤ 1000000000 := by simp; omega
  generalize rest ++ more = b0 at hN ⊢
  generalize hfin : F b0 = fin
  refine D_block ?_
  refine D_loop (ι := FeedI F 1000000000 fin) (fun x => ⟨[(7, VB x.b), (8, .os 500 none 0 x.out.length)], [(500, some (.pv 6 (x.out.map Msg.pv)))]⟩) (fun x => x.b.length) ⟨[], b0, by simpa using hN, by rw [hfin]; rfl, by rw [hfin]⟩ [16] [(500, 6)] [(500, 500)]
    ⟨rfl, rfl, rfl, rfl, rfl, ⟨⟨_, rfl, .fz rfl rfl (by simp), rfl⟩, ⟨_, rfl, .gho rfl, rfl⟩, trivial⟩, ⟨⟨rfl, rfl, _, rfl, .same⟩, trivial⟩⟩ (fun x => ?_)
  obtain ⟨out, b, hl, h1, h2⟩ := x
  simp only
  refine D_seq (D_seq (D_reg ?_))
  refine o_pu rfl rfl rfl rfl trivial ?_
  refine o_lenM _ _ rfl rfl ?_
  refine o_pu rfl rfl rfl rfl trivial ?_
  refine o_nil ?_
  refine D_condP rfl (fun h4 => ?_) (fun h4 => ?_)
  · have h4 : ¬ b.length < 4 := by omega
    have c0 : (b.getD (0 : Int).toNat 0).toNat < 256 := UInt8.toNat_lt _
    have c1 : (b.getD (1 : Int).toNat 0).toNat < 256 := UInt8.toNat_lt _
    have c2 : (b.getD (2 : Int).toNat 0).toNat < 256 := UInt8.toNat_lt _
    have c3 : (b.getD (3 : Int).toNat 0).toNat < 256 := UInt8.toNat_lt _
    refine D_skip (D_block (D_seq (D_any hm ?_)))
    refine o_pu rfl rfl rfl rfl trivial ?_
    refine o_iadM B 0 b rfl rfl (by omega) rfl ?_
    refine o_ldB rfl rfl ?_
    refine o_cvB rfl rfl ?_
    refine o_shlN 24 rfl rfl ⟨rfl, by decide⟩ (by omega) ?_
    refine o_pu rfl rfl rfl rfl trivial ?_
    refine o_iadM B 0 b rfl rfl (by omega) rfl ?_
    refine o_ldB rfl rfl ?_
    refine o_cvB rfl rfl ?_
    refine o_shlN 16 rfl rfl ⟨rfl, by decide⟩ (by omega) ?_
    refine o_orD 24 rfl rfl (by omega) (by omega) (by omega) ?_
    refine o_pu rfl rfl rfl rfl trivial ?_
    refine o_iadM B 0 b rfl rfl (by omega) rfl ?_
    refine o_ldB rfl rfl ?_
    refine o_cvB rfl rfl ?_
    refine o_shlN 8 rfl rfl ⟨rfl, by decide⟩ (by omega) ?_
    refine o_orD 16 rfl rfl (by omega) (by omega) (by omega) ?_
    refine o_pu rfl rfl rfl rfl trivial ?_
    refine o_iadM B 0 b rfl rfl (by omega) rfl ?_
    refine o_ldB rfl rfl ?_
    refine o_cvB rfl rfl ?_
    refine o_orD 8 rfl rfl (by omega) (by omega) (by omega) ?_
    have eb : (b.getD (0 : Int).toNat 0).toNat * 2 ^ 24 + (b.getD (1 : Int).toNat 0).toNat * 2 ^ 16 + (b.getD (2 : Int).toNat 0).toNat * 2 ^ 8 + (b.getD (3 : Int).toNat 0).toNat = be32 b := by
      rw [be32, show (0 : Int).toNat = 0 from rfl, show (1 : Int).toNat = 1 from rfl, show (2 : Int).toNat = 2 from rfl, show (3 : Int).toNat = 3 from rfl]
    have hbe := be32_lt b
    rw [eb]
    generalize hn : be32 b = n at hbe ⊢
    refine o_pu rfl rfl rfl rfl trivial ?_
    refine o_nil ⟨rfl, ?_⟩
    have bad : ∀ (_ : n = 0 ∨ 16512 < n), (out, ([] : List UInt8), (331 : Int)) = fin := fun hq => by
      rw [hF.bad b n hn h4 hq] at h1 h2
      rw [← Prod.eta fin, ← h1, ← h2]; simp
    refine D_seq (D_seq (D_reg ?_))
    iterate 3 refine o_pu rfl rfl rfl rfl trivial ?_
    refine o_brgE rfl (fun h5 => ?_) (fun h5 => ?_)
    · rw [← bad (.inl (by omega))]
      iterate 2 refine o_skp rfl ?_
      refine o_pu rfl rfl rfl rfl trivial ?_
      refine o_nil ?_
      refine D_condT rfl (by with_reducible rfl) ?_
      refine D_seq ?_
      refine D_reg ?_
      iterate 4 refine o_pu rfl rfl rfl rfl trivial ?_
      refine o_nil ?_
      refine D_ret ?_
      exact ⟨_, [500], [], .tmp rfl (.tmp rfl (.tmp rfl (.nil _))), rfl, rfl, rfl, rfl, rfl, ⟨⟨_, rfl, .tup (.cons (.fz rfl rfl (by simp)) (.cons .nil (.cons (.same rfl) .nil))), rfl⟩, trivial⟩, trivial⟩
    iterate 3 refine o_pu rfl rfl rfl rfl trivial ?_
    refine o_nil ?_
    refine D_condP rfl (fun h6 => ?_) (fun h6 => ?_)
    · rw [← bad (.inr (by omega))]
      refine D_seq ?_
      refine D_reg ?_
      iterate 4 refine o_pu rfl rfl rfl rfl trivial ?_
      refine o_nil ?_
      refine D_ret ?_
      exact ⟨_, [500], [], .tmp rfl (.tmp rfl (.tmp rfl (.nil _))), rfl, rfl, rfl, rfl, rfl, ⟨⟨_, rfl, .tup (.cons (.fz rfl rfl (by simp)) (.cons .nil (.cons (.same rfl) .nil))), rfl⟩, trivial⟩, trivial⟩
    have h56 : ¬ (n = 0 ∨ 16512 < n) := by omega
    refine D_skip (D_seq (D_reg ?_))
    refine o_pu rfl rfl rfl rfl trivial ?_
    refine o_i64 rfl rfl rfl rfl trivial (by omega) ?_
    refine o_pu rfl rfl rfl rfl trivial ?_
    refine o_nil ?_
    refine D_seq (D_seq (D_reg ?_))
    refine o_pu rfl rfl rfl rfl trivial ?_
    refine o_lenM _ _ rfl rfl ?_
    iterate 2 refine o_pu rfl rfl rfl rfl trivial ?_
    refine o_nil ?_
    refine D_condP rfl (fun h7 => ?_) (fun h7 => ?_)
    · rw [hF.part b n hn h4 h56 (by omega)] at h1 h2
      rw [List.append_nil] at h1
      have e : (out, b, (0 : Int)) = fin := by rw [← Prod.eta fin, ← h1, ← h2]
      rw [← e]
      refine D_exit ?_
      refine D_seq (D_reg ?_)
      iterate 2 refine o_pu rfl rfl rfl rfl trivial ?_
      refine o_appN B b (by_ := 1) (c := True) (R := []) rfl rfl rfl trivial (fun _ _ => ⟨rfl, rfl⟩) (by omega) rfl ?_
      iterate 3 refine o_pu rfl rfl rfl rfl trivial ?_
      refine o_nil ?_
      refine D_ret ?_
      exact ⟨_, [500, 74], [], .tmp rfl (.tmp rfl (.tmp rfl (.nil _))), rfl, rfl, rfl, rfl, rfl, ⟨⟨_, rfl, .tup (.cons (.fz rfl rfl (by simp)) (.cons (.fz rfl rfl (by simp)) (.cons (.same rfl) .nil))), rfl⟩, trivial⟩, trivial⟩
    refine D_skip (D_seq (D_reg ?_))
    iterate 2 refine o_pu rfl rfl rfl rfl trivial ?_
    refine o_takeM B _ rfl rfl (by omega) ?_
    have e8 : (4 + (n : Int)).toNat = 4 + n := by omega
    rw [e8]
    refine o_callp (hdec (b.take (4 + n)) (by simp; omega) (by simp; omega)) rfl rfl rfl rfl rfl ?_
    generalize hw : dec (b.take (4 + n)) = w
    iterate 3 refine o_pu rfl rfl rfl rfl trivial ?_
    refine o_box zMsg rfl rfl rfl rfl rfl rfl ?_
    refine o_st 0 (.vs 6 [(optM w).cells.map .p]) rfl rfl rfl ⟨Nat.zero_lt_succ _, rfl, by decide, rfl⟩ rfl ?_
    refine o_pu rfl rfl rfl rfl trivial ?_
    refine o_nil ?_
    iterate 2 refine D_seq ?_
    refine D_reg ?_
    iterate 2 refine o_pu rfl rfl rfl rfl trivial ?_
    refine o_nil ?_
    refine D_condB rfl (fun h9 => ?_) (fun h9 => ?_)
    · rw [hF.none b n hn h4 h56 (by omega) (by rw [hw]; simpa using h9)] at h1 h2
      rw [List.append_nil] at h1
      have e : (out, ([] : List UInt8), (331 : Int)) = fin := by rw [← Prod.eta fin, ← h1, ← h2]
      rw [← e]
      refine D_seq ?_
      refine D_reg ?_
      iterate 4 refine o_pu rfl rfl rfl rfl trivial ?_
      refine o_nil ?_
      refine D_ret ?_
      exact ⟨_, [500], [], .tmp rfl (.tmp rfl (.tmp rfl (.nil _))), rfl, rfl, rfl, rfl, rfl, ⟨⟨_, rfl, .tup (.cons (.fz rfl rfl (by simp)) (.cons .nil (.cons (.same rfl) .nil))), rfl⟩, trivial⟩, trivial⟩
    obtain ⟨m, hmm⟩ := Option.isSome_iff_exists.1 h9
    subst hmm
    rw [hF.some b n m hn h4 h56 (by omega) hw] at h1 h2
    dsimp only at h1 h2
    refine D_skip (D_seq (D_reg ?_))
    refine o_pu rfl rfl rfl rfl trivial ?_
    refine o_as (.p m.pv) rfl rfl rfl rfl ⟨Nat.zero_lt_succ _, Nat.le_refl _, rfl⟩ rfl ?_
    refine o_bs (.pv 6 ([m].map Msg.pv)) rfl rfl rfl rfl rfl rfl rfl rfl rfl ?_
    refine o_appM Msg.pv out [m] (by_ := 72) (c := 1 = 1) (R := [67]) rfl rfl rfl rfl rfl rfl (fun _ _ => ⟨rfl, rfl⟩) (by simp; omega) rfl ?_
    refine o_pu rfl rfl rfl rfl trivial ?_
    refine o_nil ?_
    refine D_reg ?_
    iterate 2 refine o_pu rfl rfl rfl rfl trivial ?_
    refine o_dropM B _ rfl rfl (by omega) (cells_B _) ?_
    refine o_pu rfl rfl rfl rfl trivial ?_
    refine o_nil ?_
    rw [e8]
    have q2 : ∀ X : List Msg, out ++ m :: X = fin.1 → out ++ [m] ++ X = fin.1 := fun X h => by rw [← h]; simp
    exact ⟨⟨out ++ [m], b.drop (4 + n), by simp; omega, q2 _ h1, h2⟩, [], [], [(500, 68)], by simp; omega, ⟨rfl, rfl, rfl, rfl, rfl, ⟨⟨_, rfl, .same rfl, rfl⟩, ⟨_, rfl, .same rfl, rfl⟩, trivial⟩, ⟨⟨rfl, rfl, _, rfl, .same⟩, trivial⟩⟩⟩
  · rw [hF.short b (by omega)] at h1 h2
    rw [List.append_nil] at h1
    have e : (out, b, (0 : Int)) = fin := by rw [← Prod.eta fin, ← h1, ← h2]
    rw [← e]
    refine D_exit ?_
    refine D_seq (D_reg ?_)
    iterate 2 refine o_pu rfl rfl rfl rfl trivial ?_
    refine o_appN B b (by_ := 1) (c := True) (R := []) rfl rfl rfl trivial (fun _ _ => ⟨rfl, rfl⟩) (by omega) rfl ?_
    iterate 3 refine o_pu rfl rfl rfl rfl trivial ?_
    refine o_nil ?_
    refine D_ret ?_
    exact ⟨_, [500, 74], [], .tmp rfl (.tmp rfl (.tmp rfl (.nil _))), rfl, rfl, rfl, rfl, rfl, ⟨⟨_, rfl, .tup (.cons (.fz rfl rfl (by simp)) (.cons (.fz rfl rfl (by simp)) (.cons (.same rfl) .nil))), rfl⟩, trivial⟩, trivial⟩
end
end Go.DW

/- Messages, read from bytes by the reference. -/
namespace Go.DW
set_option maxHeartbeats 4000000
section
variable {P : Program} (hm : P.follows .mixedOrders = true)

def rdecF (rd : List UInt8 → Msg × Bool) (b : List UInt8) : Option Msg :=
  if (rd (b.drop 4)).2 = true ∧ encE (rd (b.drop 4)).1 = 0 ∧ encB (rd (b.drop 4)).1 = b then some (rd (b.drop 4)).1 else none

include hm in
theorem ref_feedF {rd : List UInt8 → Msg × Bool} {F : List UInt8 → List Msg × List UInt8 × Int} (hF : FeedEq (rdecF rd) F) {fd fe fs f : Nat} (hdec : ∀ b : List UInt8, b.length ≤ 1000000 → 0 < b.length → FC P fd [VB b] [] (.tup [.p (rd b).1.pv, VT (rd b).2]) [])
    (hrh : ∀ b : List UInt8, b.length ≤ 1000000 → (rd b).1.host.length ≤ 1000000) (henc : ∀ m : Msg, m.host.length ≤ 9223372036854775807 → FC P fe [.p m.pv] [] (.tup [VB (encB m), VI (encE m)]) []) (oks : FnOK P fs 10 Ic.ref24_SameBytes [(4, none)])
    (ok : FnOK P f 95 (Ic.ref33_Feed fs fe fd) [(4, none), (5, none), (6, none)]) (rest more : List UInt8) (hl : rest.length + more.length ≤ 1000000000) :
    FC P f [VB rest, VB more] [] (.tup [.p (.sl ((F (rest ++ more)).1.map Msg.pv)), VB (F (rest ++ more)).2.1, VI (F (rest ++ more)).2.2]) [] := by
  refine ok.fc rfl rfl rfl ?_
  refine D_seq (D_reg ?_)
  iterate 3 refine o_pu rfl rfl rfl rfl trivial ?_
  refine o_nil ?_
  refine D_seq (D_reg ?_)
  refine o_bs0 rfl rfl rfl ?_
  refine o_pu rfl rfl rfl rfl trivial ?_
  refine o_appN B rest (by_ := 1) (c := True) (R := []) rfl rfl rfl trivial (fun _ _ => ⟨rfl, rfl⟩) (by omega) rfl ?_
  refine o_pu rfl rfl rfl rfl trivial ?_
  refine o_appM B rest more (by_ := 1) (c := True) (R := []) rfl rfl rfl rfl rfl trivial (fun _ _ => ⟨rfl, rfl⟩) (by omega) rfl ?_
  refine o_pu rfl rfl rfl rfl trivial ?_
  refine o_nil ?_
  refine D_seq ?_
  refine D_reg ?_
  refine o_pu rfl rfl rfl rfl trivial ?_
  refine o_nil ?_
  refine D_seq ?_
  have hN : (rest ++ more).length ≤ 1000000000 := by simp; omega
  generalize rest ++ more = b0 at hN ⊢
  generalize hfin : F b0 = fin
  refine D_block ?_
  refine D_loop (ι := FeedI F 1000000000 fin) (fun x => ⟨[(7, VB x.b), (8, .os 500 none 0 x.out.length)], [(500, some (.pv 6 (x.out.map Msg.pv)))]⟩) (fun x => x.b.length) ⟨[], b0, by simpa using hN, by rw [hfin]; rfl, by rw [hfin]⟩ [18] [(500, 6)] [(500, 500)]
    ⟨rfl, rfl, rfl, rfl, rfl, ⟨⟨_, rfl, .fz rfl rfl (by simp), rfl⟩, ⟨_, rfl, .gho rfl, rfl⟩, trivial⟩, ⟨⟨rfl, rfl, _, rfl, .same⟩, trivial⟩⟩ (fun x => ?_)
  obtain ⟨out, b, hl, h1, h2⟩ := x
  simp only
  refine D_seq (D_seq (D_reg ?_))
  refine o_pu rfl rfl rfl rfl trivial ?_
  refine o_lenM _ _ rfl rfl ?_
  refine o_pu rfl rfl rfl rfl trivial ?_
  refine o_nil ?_
  refine D_condP rfl (fun h4 => ?_) (fun h4 => ?_)
  · have h4 : ¬ b.length < 4 := by omega
    have c0 : (b.getD (0 : Int).toNat 0).toNat < 256 := UInt8.toNat_lt _
    have c1 : (b.getD (1 : Int).toNat 0).toNat < 256 := UInt8.toNat_lt _
    have c2 : (b.getD (2 : Int).toNat 0).toNat < 256 := UInt8.toNat_lt _
    have c3 : (b.getD (3 : Int).toNat 0).toNat < 256 := UInt8.toNat_lt _
    refine D_skip (D_block (D_seq (D_any hm ?_)))
    refine o_pu rfl rfl rfl rfl trivial ?_
    refine o_iadM B 0 b rfl rfl (by omega) rfl ?_
    refine o_ldB rfl rfl ?_
    refine o_cvB rfl rfl ?_
    refine o_shlN 24 rfl rfl ⟨rfl, by decide⟩ (by omega) ?_
    refine o_pu rfl rfl rfl rfl trivial ?_
    refine o_iadM B 0 b rfl rfl (by omega) rfl ?_
    refine o_ldB rfl rfl ?_
    refine o_cvB rfl rfl ?_
    refine o_shlN 16 rfl rfl ⟨rfl, by decide⟩ (by omega) ?_
    refine o_orD 24 rfl rfl (by omega) (by omega) (by omega) ?_
    refine o_pu rfl rfl rfl rfl trivial ?_
    refine o_iadM B 0 b rfl rfl (by omega) rfl ?_
    refine o_ldB rfl rfl ?_
    refine o_cvB rfl rfl ?_
    refine o_shlN 8 rfl rfl ⟨rfl, by decide⟩ (by omega) ?_
    refine o_orD 16 rfl rfl (by omega) (by omega) (by omega) ?_
    refine o_pu rfl rfl rfl rfl trivial ?_
    refine o_iadM B 0 b rfl rfl (by omega) rfl ?_
    refine o_ldB rfl rfl ?_
    refine o_cvB rfl rfl ?_
    refine o_orD 8 rfl rfl (by omega) (by omega) (by omega) ?_
    have eb : (b.getD (0 : Int).toNat 0).toNat * 2 ^ 24 + (b.getD (1 : Int).toNat 0).toNat * 2 ^ 16 + (b.getD (2 : Int).toNat 0).toNat * 2 ^ 8 + (b.getD (3 : Int).toNat 0).toNat = be32 b := by
      rw [be32, show (0 : Int).toNat = 0 from rfl, show (1 : Int).toNat = 1 from rfl, show (2 : Int).toNat = 2 from rfl, show (3 : Int).toNat = 3 from rfl]
    have hbe := be32_lt b
    rw [eb]
    generalize hn : be32 b = n at hbe ⊢
    refine o_pu rfl rfl rfl rfl trivial ?_
    refine o_nil ⟨rfl, ?_⟩
    have bad : ∀ (_ : n = 0 ∨ 16512 < n), (out, ([] : List UInt8), (331 : Int)) = fin := fun hq => by
      rw [hF.bad b n hn h4 hq] at h1 h2
      rw [← Prod.eta fin, ← h1, ← h2]; simp
    refine D_seq (D_seq (D_reg ?_))
    iterate 3 refine o_pu rfl rfl rfl rfl trivial ?_
    refine o_brgP rfl (fun h5 => ?_) (fun h5 => ?_)
    · rw [← bad (.inl (by omega))]
      iterate 2 refine o_skp rfl ?_
      refine o_pu rfl rfl rfl rfl trivial ?_
      refine o_nil ?_
      refine D_condT rfl (by with_reducible rfl) ?_
      refine D_seq ?_
      refine D_reg ?_
      iterate 4 refine o_pu rfl rfl rfl rfl trivial ?_
      refine o_nil ?_
      refine D_ret ?_
      exact ⟨_, [500], [], .tmp rfl (.tmp rfl (.tmp rfl (.nil _))), rfl, rfl, rfl, rfl, rfl, ⟨⟨_, rfl, .tup (.cons (.fz rfl rfl (by simp)) (.cons .nil (.cons (.same rfl) .nil))), rfl⟩, trivial⟩, trivial⟩
    iterate 3 refine o_pu rfl rfl rfl rfl trivial ?_
    refine o_nil ?_
    refine D_condP rfl (fun h6 => ?_) (fun h6 => ?_)
    · rw [← bad (.inr (by omega))]
      refine D_seq ?_
      refine D_reg ?_
      iterate 4 refine o_pu rfl rfl rfl rfl trivial ?_
      refine o_nil ?_
      refine D_ret ?_
      exact ⟨_, [500], [], .tmp rfl (.tmp rfl (.tmp rfl (.nil _))), rfl, rfl, rfl, rfl, rfl, ⟨⟨_, rfl, .tup (.cons (.fz rfl rfl (by simp)) (.cons .nil (.cons (.same rfl) .nil))), rfl⟩, trivial⟩, trivial⟩
    have h56 : ¬ (n = 0 ∨ 16512 < n) := by omega
    refine D_skip (D_seq (D_seq (D_reg ?_)))
    refine o_pu rfl rfl rfl rfl trivial ?_
    refine o_lenM _ _ rfl rfl ?_
    refine o_pu rfl rfl rfl rfl trivial ?_
    refine o_i64 rfl rfl rfl rfl trivial (by omega) ?_
    refine o_pu rfl rfl rfl rfl trivial ?_
    refine o_nil ?_
    refine D_condP rfl (fun h7 => ?_) (fun h7 => ?_)
    · rw [hF.part b n hn h4 h56 (by omega)] at h1 h2
      rw [List.append_nil] at h1
      have e : (out, b, (0 : Int)) = fin := by rw [← Prod.eta fin, ← h1, ← h2]
      rw [← e]
      refine D_exit ?_
      refine D_seq ?_
      refine D_reg ?_
      iterate 5 refine o_pu rfl rfl rfl rfl trivial ?_
      refine o_nil ?_
      refine D_ret ?_
      exact ⟨_, [500], [], .tmp rfl (.tmp rfl (.tmp rfl (.nil _))), rfl, rfl, rfl, rfl, rfl, ⟨⟨_, rfl, .tup (.cons (.fz rfl rfl (by simp)) (.cons (.same rfl) (.cons (.same rfl) .nil))), rfl⟩, trivial⟩, trivial⟩
    refine D_skip (D_seq (D_reg ?_))
    iterate 2 refine o_pu rfl rfl rfl rfl trivial ?_
    refine o_i64 rfl rfl rfl rfl trivial (by omega) ?_
    refine o_slcM B _ rfl rfl (by omega) (cells_B _) ?_
    have e8 : (4 + (n : Int)).toNat = 4 + n := by omega
    have e9 : (4 : Int).toNat = 4 := rfl
    have e10 : 4 + n - 4 = n := by omega
    rw [e8, e9, e10]
    have hdl : (b.take (4 + n)).drop 4 = (b.drop 4).take n := by rw [List.drop_take, e10]
    refine o_callp (hdec ((b.drop 4).take n) (by simp; omega) (by simp; omega)) rfl rfl rfl rfl rfl ?_
    have hh := hrh ((b.drop 4).take n) (by simp; omega)
    have hdd : ∀ m v, rd ((b.drop 4).take n) = (m, v) → rdecF rd (b.take (4 + n)) = if v = true ∧ encE m = 0 ∧ encB m = b.take (4 + n) then some m else none := fun m v h => by
      unfold rdecF; rw [hdl, h]
    revert hh hdd
    generalize rd ((b.drop 4).take n) = w
    intro hh hdd
    obtain ⟨m, v⟩ := w
    have hdd := hdd m v rfl
    dsimp only at hh ⊢
    iterate 3 refine o_pu rfl rfl rfl rfl trivial ?_
    refine o_box zMsg rfl rfl rfl rfl rfl rfl ?_
    refine o_st 0 (.vs 6 [m.cells.map .p]) rfl rfl rfl ⟨Nat.zero_lt_succ _, rfl, by decide, rfl⟩ rfl ?_
    refine o_pu rfl rfl rfl rfl trivial ?_
    refine o_nil ?_
    refine D_seq (D_reg ?_)
    refine o_as (.p m.pv) rfl rfl rfl rfl ⟨Nat.zero_lt_succ _, Nat.le_refl _, rfl⟩ rfl ?_
    refine o_callp (henc m (by omega)) rfl rfl rfl rfl rfl ?_
    iterate 5 refine o_pu rfl rfl rfl rfl trivial ?_
    refine o_nil ?_
    have no : rdecF rd (b.take (4 + n)) = none → (out, ([] : List UInt8), (331 : Int)) = fin := fun q => by
      rw [hF.none b n hn h4 h56 (by omega) q] at h1 h2
      rw [← Prod.eta fin, ← h1, ← h2]; simp
    refine D_seq (D_seq (D_reg ?_))
    iterate 3 refine o_pu rfl rfl rfl rfl trivial ?_
    refine o_brgN rfl (fun h9 => ?_) (fun h9 => ?_)
    · rw [h9] at hdd
      rw [← no (by rw [hdd, if_neg (by simp)])]
      iterate 2 refine o_skp rfl ?_
      iterate 2 refine o_pu rfl rfl rfl rfl trivial ?_
      iterate 7 refine o_skp rfl ?_
      refine o_pu rfl rfl rfl rfl trivial ?_
      refine o_nil ?_
      refine D_condT rfl (by with_reducible rfl) ?_
      refine D_seq ?_
      refine D_reg ?_
      iterate 4 refine o_pu rfl rfl rfl rfl trivial ?_
      refine o_nil ?_
      refine D_ret ?_
      exact ⟨_, [500], [], .tmp rfl (.tmp rfl (.tmp rfl (.nil _))), rfl, rfl, rfl, rfl, rfl, ⟨⟨_, rfl, .tup (.cons (.fz rfl rfl (by simp)) (.cons .nil (.cons (.same rfl) .nil))), rfl⟩, trivial⟩, trivial⟩
    iterate 4 refine o_pu rfl rfl rfl rfl trivial ?_
    refine o_br 75 (b := encE m != 0) rfl (fun h10 => ?_) (fun h10 => ?_)
    · rw [← no (by rw [hdd, if_neg]; intro h; rw [h.2.1] at h10; cases h10)]
      iterate 7 refine o_skp rfl ?_
      refine o_pu rfl rfl rfl rfl trivial ?_
      refine o_nil ?_
      refine D_condT rfl (by with_reducible rfl) ?_
      refine D_seq ?_
      refine D_reg ?_
      iterate 4 refine o_pu rfl rfl rfl rfl trivial ?_
      refine o_nil ?_
      refine D_ret ?_
      exact ⟨_, [500], [], .tmp rfl (.tmp rfl (.tmp rfl (.nil _))), rfl, rfl, rfl, rfl, rfl, ⟨⟨_, rfl, .tup (.cons (.fz rfl rfl (by simp)) (.cons .nil (.cons (.same rfl) .nil))), rfl⟩, trivial⟩, trivial⟩
    iterate 3 refine o_pu rfl rfl rfl rfl trivial ?_
    refine o_i64 rfl rfl rfl rfl trivial (by omega) ?_
    refine o_takeM B _ rfl rfl (by omega) ?_
    refine o_callp (same_bytes oks (encB m) (b.take (4 + n))) rfl rfl rfl rfl rfl ?_
    iterate 2 refine o_pu rfl rfl rfl rfl trivial ?_
    refine o_nil ?_
    rw [e8]

    refine D_condNS rfl (fun h11 => ?_) (fun h11 => ?_)
    · rw [← no (by rw [hdd, if_neg (fun h => h11 h.2.2)])]
      refine D_seq ?_
      refine D_reg ?_
      iterate 4 refine o_pu rfl rfl rfl rfl trivial ?_
      refine o_nil ?_
      refine D_ret ?_
      exact ⟨_, [500], [], .tmp rfl (.tmp rfl (.tmp rfl (.nil _))), rfl, rfl, rfl, rfl, rfl, ⟨⟨_, rfl, .tup (.cons (.fz rfl rfl (by simp)) (.cons .nil (.cons (.same rfl) .nil))), rfl⟩, trivial⟩, trivial⟩
    have h10 : encE m = 0 := by simpa using h10
    rw [if_pos ⟨h9, h10, h11⟩] at hdd
    rw [hF.some b n m hn h4 h56 (by omega) hdd] at h1 h2
    dsimp only at h1 h2
    refine D_skip (D_any hm ?_)
    refine o_pu rfl rfl rfl rfl trivial ?_
    refine o_as (.p m.pv) rfl rfl rfl rfl ⟨Nat.zero_lt_succ _, Nat.le_refl _, rfl⟩ rfl ?_
    refine o_bs (.pv 6 ([m].map Msg.pv)) rfl rfl rfl rfl rfl rfl rfl rfl rfl ?_
    refine o_appM Msg.pv out [m] (by_ := 72) (c := 1 = 1) (R := [87]) rfl rfl rfl rfl rfl rfl (fun _ _ => ⟨rfl, rfl⟩) (by simp; omega) rfl ?_
    iterate 2 refine o_pu rfl rfl rfl rfl trivial ?_
    refine o_i64 rfl rfl rfl rfl trivial (by omega) ?_
    refine o_dropM B _ rfl rfl (by omega) (cells_B _) ?_
    iterate 2 refine o_pu rfl rfl rfl rfl trivial ?_
    refine o_nil ⟨rfl, ?_⟩
    rw [e8]
    have q2 : ∀ X : List Msg, out ++ m :: X = fin.1 → out ++ [m] ++ X = fin.1 := fun X h => by rw [← h]; simp
    exact ⟨⟨out ++ [m], b.drop (4 + n), by simp; omega, q2 _ h1, h2⟩, [], [], [(500, 88)], by simp; omega, ⟨rfl, rfl, rfl, rfl, rfl, ⟨⟨_, rfl, .same rfl, rfl⟩, ⟨_, rfl, .same rfl, rfl⟩, trivial⟩, ⟨⟨rfl, rfl, _, rfl, .same⟩, trivial⟩⟩⟩
  · rw [hF.short b (by omega)] at h1 h2
    rw [List.append_nil] at h1
    have e : (out, b, (0 : Int)) = fin := by rw [← Prod.eta fin, ← h1, ← h2]
    rw [← e]
    refine D_exit ?_
    refine D_seq ?_
    refine D_reg ?_
    iterate 5 refine o_pu rfl rfl rfl rfl trivial ?_
    refine o_nil ?_
    refine D_ret ?_
    exact ⟨_, [500], [], .tmp rfl (.tmp rfl (.tmp rfl (.nil _))), rfl, rfl, rfl, rfl, rfl, ⟨⟨_, rfl, .tup (.cons (.fz rfl rfl (by simp)) (.cons (.same rfl) (.cons (.same rfl) .nil))), rfl⟩, trivial⟩, trivial⟩
end
end Go.DW

/- The messages that the statements make. -/
namespace Go.DW
set_option maxHeartbeats 4000000
section
variable {P : Program} (hm : P.follows .mixedOrders = true)

theorem kPick_mem {l : List UInt8} {a : Nat} {xs : List Int} (hx : 0 < xs.length) : kPick l a xs ∈ xs := by
  have h1 := kInt_nonneg (l := l) (a := a) (n := xs.length)
  have h2 := kInt_lt (l := l) (a := a) (n := xs.length) (by omega)
  unfold kPick
  have : (kInt l a xs.length).1.toNat < xs.length := by omega
  simp [List.getD, this]

theorem kWord_mem {l : List UInt8} {a : Nat} {xs : List (List UInt8)} (hx : 0 < xs.length) : kWord l a xs ∈ xs := by
  have h1 := kInt_nonneg (l := l) (a := a) (n := xs.length)
  have h2 := kInt_lt (l := l) (a := a) (n := xs.length) (by omega)
  unfold kWord
  have : (kInt l a xs.length).1.toNat < xs.length := by omega
  simp [List.getD, this]

abbrev seqs : List Int := [1, 2, 127, 128, 300, 1099511627776]

def kMsg1 (l : List UInt8) (p j : Int) (a : Nat) : Msg × Nat :=
  if j = 0 then (⟨1, kWord l a hosts, 1 + (kInt l (kInt l a 4).2 3).1, p, 0, []⟩, (kInt l (kInt l a 4).2 3).2)
  else if j = 1 then (⟨2, [], 0, p - (kInt l a 2).1, 0, []⟩, (kInt l a 2).2)
  else if j = 2 then (⟨4, [], 0, p, min (p + (kInt l a 200).1) 1099511627776, []⟩, (kInt l a 200).2)
  else if j = 3 then (⟨5, [], 0, p - (kInt l a 2).1, 0, []⟩, (kInt l a 2).2)
  else if j = 4 then (⟨6 + (kInt l a 2).1, [], 0, 0, 0, []⟩, (kInt l a 2).2)
  else (⟨3, [], 0, p, 0, 1 :: (kBytes l (kInt l a (30 + 1)).1.toNat (kInt l a (30 + 1)).2).1⟩, (kBytes l (kInt l a (30 + 1)).1.toNat (kInt l a (30 + 1)).2).2)

def kMsg (l : List UInt8) (a : Nat) : Msg × Nat := kMsg1 l (kPick l a seqs) (kInt l (kInt l a seqs.length).2 7).1 (kInt l (kInt l a seqs.length).2 7).2

theorem kMsg_le {l : List UInt8} {a : Nat} (ha : a ≤ l.length) : (kMsg l a).2 ≤ l.length := by
  unfold kMsg
  have h2 : (kInt l (kInt l a seqs.length).2 7).2 ≤ l.length := kInt_le (kInt_le ha)
  generalize (kInt l (kInt l a seqs.length).2 7).2 = b at h2 ⊢
  unfold kMsg1
  (repeat' split) <;> first | exact kInt_le (kInt_le h2) | exact kInt_le h2 | exact kBytes_le _ _ _ (kInt_le h2)

theorem hosts_ok : ∀ x ∈ hosts, hostOk x = true := by decide

theorem kMsg_ok {l : List UInt8} {a : Nat} : validOk (kMsg l a).1 = true := by
  unfold kMsg
  have hp := kPick_mem (l := l) (a := a) (xs := seqs) (by decide)
  generalize kPick l a seqs = p at hp ⊢
  generalize (kInt l (kInt l a seqs.length).2 7).2 = b
  generalize (kInt l (kInt l a seqs.length).2 7).1 = j
  have hp : 1 ≤ p ∧ p ≤ 1099511627776 := by
    simp only [seqs, List.mem_cons, List.not_mem_nil, or_false] at hp
    omega
  have k2 : 0 ≤ (kInt l b 2).1 ∧ (kInt l b 2).1 < 2 := ⟨kInt_nonneg, kInt_lt (by decide)⟩
  have k3 : 0 ≤ (kInt l (kInt l b 4).2 3).1 ∧ (kInt l (kInt l b 4).2 3).1 < 3 := ⟨kInt_nonneg, kInt_lt (by decide)⟩
  have k200 : 0 ≤ (kInt l b 200).1 ∧ (kInt l b 200).1 < 200 := ⟨kInt_nonneg, kInt_lt (by decide)⟩
  have k31 : 0 ≤ (kInt l b (30 + 1)).1 ∧ (kInt l b (30 + 1)).1 < 30 + 1 := ⟨kInt_nonneg, kInt_lt (by decide)⟩
  have hh := hosts_ok _ (kWord_mem (l := l) (a := b) (xs := hosts) (by decide))
  have hb := kBytes_len l (kInt l b (30 + 1)).1.toNat (kInt l b (30 + 1)).2
  rw [validOk_eq]
  unfold kMsg1
  generalize (kInt l b 2).1 = x2 at *
  generalize (kInt l (kInt l b 4).2 3).1 = x3 at *
  generalize (kInt l b 200).1 = x200 at *
  generalize kWord l b hosts = h at *
  generalize (kBytes l (kInt l b (30 + 1)).1.toNat (kInt l b (30 + 1)).2).1 = bs at *
  (repeat' split) <;> simp [vc1, vc2, vc3, vc4, least, hh] <;> omega

include hm in
theorem law_message {fi fp fw fh fb f : Nat} (oki : FnOK P fi 40 Ic.mill_Case_Int [(4, none)]) (okp : FnOK P fp 12 (Ic.mill_Case_Pick fi) [(4, none)]) (okw : FnOK P fw 12 (Ic.mill_Case_word fi) [(4, none)]) (okh : FnOK P fh 6 (Ic.mill_Case_Host fw) [(2, none)])
    (okb : FnOK P fb 25 (Ic.mill_Case_Bytes fi fp) [(4, none)]) (ok : FnOK P f 53 (Ic.law33_message fb fh fi fp) [(2, some (true, 6))]) (l : List UInt8) (a : Nat) (hl : l.length ≤ 1000) (ha : a ≤ l.length) :
    FC P f [.ptr 1000 0 0] [(1000, some (cb l a))] (.p (kMsg l a).1.pv) [(1000, some (cb l (kMsg l a).2))] := by
  refine ok.fc rfl rfl rfl ?_
  unfold kMsg
  refine D_seq (D_reg ?_)
  refine o_box zMsg rfl rfl rfl rfl rfl rfl ?_
  refine o_nil ?_
  refine D_seq (D_reg ?_)
  refine o_pu rfl rfl rfl rfl trivial ?_
  refine o_bs (.pv 1 (seqs.map PI)) rfl rfl rfl rfl rfl rfl rfl rfl rfl ?_
  refine o_callC [5] 1000 (mill_pick hm oki okp l a seqs hl ha (by decide)) rfl rfl (.cons (.same rfl) (.cons (.fz rfl rfl rfl) .nil)) rfl rfl rfl rfl rfl rfl ?_
  have hp := kPick_mem (l := l) (a := a) (xs := seqs) (by decide)
  have ha1 : (kInt l a seqs.length).2 ≤ l.length := kInt_le ha
  generalize kPick l a seqs = p at hp ⊢
  generalize (kInt l a seqs.length).2 = b at ha1 ⊢
  have hp : 1 ≤ p ∧ p ≤ 1099511627776 := by
    simp only [seqs, List.mem_cons, List.not_mem_nil, or_false] at hp
    omega
  refine o_pu rfl rfl rfl rfl trivial ?_
  refine o_nil ?_
  refine D_seq (D_seq (D_reg ?_))
  refine o_pu rfl rfl rfl rfl trivial ?_
  refine o_callC [] 1000 (mill_int hm oki l b 7 hl ha1) rfl rfl cvs_same rfl rfl rfl rfl rfl rfl ?_
  have ha2 : (kInt l b 7).2 ≤ l.length := kInt_le ha1
  generalize (kInt l b 7).2 = c at ha2 ⊢
  generalize (kInt l b 7).1 = j
  have k2 : 0 ≤ (kInt l c 2).1 ∧ (kInt l c 2).1 < 2 := ⟨kInt_nonneg, kInt_lt (by decide)⟩
  have k3 : 0 ≤ (kInt l (kInt l c 4).2 3).1 ∧ (kInt l (kInt l c 4).2 3).1 < 3 := ⟨kInt_nonneg, kInt_lt (by decide)⟩
  have k200 : 0 ≤ (kInt l c 200).1 ∧ (kInt l c 200).1 < 200 := ⟨kInt_nonneg, kInt_lt (by decide)⟩
  have hb := kBytes_len l (kInt l c (30 + 1)).1.toNat (kInt l c (30 + 1)).2
  have k31 : 0 ≤ (kInt l c (30 + 1)).1 ∧ (kInt l c (30 + 1)).1 < 30 + 1 := ⟨kInt_nonneg, kInt_lt (by decide)⟩
  refine o_nil ?_
  refine D_block ?_
  unfold kMsg1
  refine D_seq ?_
  refine D_reg ?_
  iterate 2 refine o_pu rfl rfl rfl rfl trivial ?_
  refine o_nil ?_
  refine D_condE rfl (fun h0 => ?_) (fun h0 => ?_)
  · rw [if_pos h0]
    refine D_seq ?_
    refine D_reg ?_
    refine o_pu rfl rfl rfl rfl trivial ?_
    refine o_callC [] 1000 (mill_host hm oki okw okh l c hl ha2) rfl rfl cvs_same rfl rfl rfl rfl rfl rfl ?_
    refine o_pu rfl rfl rfl rfl trivial ?_
    refine o_callC [] 1000 (mill_int hm oki l (kInt l c 4).2 3 hl (kInt_le ha2)) rfl rfl cvs_same rfl rfl rfl rfl rfl rfl ?_
    refine o_i64 rfl rfl rfl rfl trivial (by omega) ?_
    refine o_pu rfl rfl rfl rfl trivial ?_
    refine o_bld (.agg [.p (.i .i64 1), VS (kWord l c hosts), VI (1 + (kInt l (kInt l c 4).2 3).1), VI p, VI 0, .nils]) rfl rfl rfl rfl rfl rfl ?_
    refine o_st 0 (.vs 6 [[.p (.i .i64 1), VS (kWord l c hosts), VI (1 + (kInt l (kInt l c 4).2 3).1), VI p, VI 0, .nils]]) rfl rfl rfl ⟨Nat.zero_lt_succ _, rfl, by decide, rfl⟩ rfl ?_
    refine o_nil ?_
    refine D_ret ?_
    exact ⟨_, [], [(1000, 1000)], .cell 0 rfl rfl ⟨Nat.zero_lt_succ _, Nat.le_refl _, rfl⟩ (.nil _), rfl, rfl, rfl, rfl, rfl, ⟨⟨_, rfl, .aggp (.cons (.same rfl) (.cons (.same rfl) (.cons (.same rfl) (.cons (.same rfl) (.cons (.same rfl) (.cons .nil .nil)))))), rfl⟩, trivial⟩, ⟨⟨rfl, rfl, _, rfl, .same⟩, trivial⟩⟩
  rw [if_neg h0]
  refine D_seq ?_
  refine D_reg ?_
  iterate 2 refine o_pu rfl rfl rfl rfl trivial ?_
  refine o_nil ?_
  refine D_condE rfl (fun h1 => ?_) (fun h1 => ?_)
  · rw [if_pos h1]
    refine D_seq ?_
    refine D_reg ?_
    iterate 2 refine o_pu rfl rfl rfl rfl trivial ?_
    refine o_callC [] 1000 (mill_int hm oki l c 2 hl ha2) rfl rfl cvs_same rfl rfl rfl rfl rfl rfl ?_
    refine o_i64 rfl rfl rfl rfl trivial (by omega) ?_
    refine o_bld (.agg [VI 2, VS [], VI 0, VI (p - (kInt l c 2).1), VI 0, .nils]) rfl rfl rfl rfl rfl rfl ?_
    refine o_st 0 (.vs 6 [[VI 2, VS [], VI 0, VI (p - (kInt l c 2).1), VI 0, .nils]]) rfl rfl rfl ⟨Nat.zero_lt_succ _, rfl, by decide, rfl⟩ rfl ?_
    refine o_nil ?_
    refine D_ret ?_
    exact ⟨_, [], [(1000, 1000)], .cell 0 rfl rfl ⟨Nat.zero_lt_succ _, Nat.le_refl _, rfl⟩ (.nil _), rfl, rfl, rfl, rfl, rfl, ⟨⟨_, rfl, .aggp (.cons (.same rfl) (.cons (.same rfl) (.cons (.same rfl) (.cons (.same rfl) (.cons (.same rfl) (.cons .nil .nil)))))), rfl⟩, trivial⟩, ⟨⟨rfl, rfl, _, rfl, .same⟩, trivial⟩⟩
  rw [if_neg h1]
  refine D_seq ?_
  refine D_reg ?_
  iterate 2 refine o_pu rfl rfl rfl rfl trivial ?_
  refine o_nil ?_
  refine D_condE rfl (fun h2 => ?_) (fun h2 => ?_)
  · rw [if_pos h2]
    refine D_seq ?_
    refine D_reg ?_
    iterate 3 refine o_pu rfl rfl rfl rfl trivial ?_
    refine o_callC [] 1000 (mill_int hm oki l c 200 hl ha2) rfl rfl cvs_same rfl rfl rfl rfl rfl rfl ?_
    refine o_i64 rfl rfl rfl rfl trivial (by omega) ?_
    refine o_pu rfl rfl rfl rfl trivial ?_
    refine o_bld (.agg [VI 4, VS [], VI 0, VI p, VI (min (p + (kInt l c 200).1) 1099511627776), .nils]) rfl rfl rfl rfl rfl rfl ?_
    refine o_st 0 (.vs 6 [[VI 4, VS [], VI 0, VI p, VI (min (p + (kInt l c 200).1) 1099511627776), .nils]]) rfl rfl rfl ⟨Nat.zero_lt_succ _, rfl, by decide, rfl⟩ rfl ?_
    refine o_nil ?_
    refine D_ret ?_
    exact ⟨_, [], [(1000, 1000)], .cell 0 rfl rfl ⟨Nat.zero_lt_succ _, Nat.le_refl _, rfl⟩ (.nil _), rfl, rfl, rfl, rfl, rfl, ⟨⟨_, rfl, .aggp (.cons (.same rfl) (.cons (.same rfl) (.cons (.same rfl) (.cons (.same rfl) (.cons (.same rfl) (.cons .nil .nil)))))), rfl⟩, trivial⟩, ⟨⟨rfl, rfl, _, rfl, .same⟩, trivial⟩⟩
  rw [if_neg h2]
  refine D_seq ?_
  refine D_reg ?_
  iterate 2 refine o_pu rfl rfl rfl rfl trivial ?_
  refine o_nil ?_
  refine D_condE rfl (fun h3 => ?_) (fun h3 => ?_)
  · rw [if_pos h3]
    refine D_seq ?_
    refine D_reg ?_
    iterate 2 refine o_pu rfl rfl rfl rfl trivial ?_
    refine o_callC [] 1000 (mill_int hm oki l c 2 hl ha2) rfl rfl cvs_same rfl rfl rfl rfl rfl rfl ?_
    refine o_i64 rfl rfl rfl rfl trivial (by omega) ?_
    refine o_bld (.agg [VI 5, VS [], VI 0, VI (p - (kInt l c 2).1), VI 0, .nils]) rfl rfl rfl rfl rfl rfl ?_
    refine o_st 0 (.vs 6 [[VI 5, VS [], VI 0, VI (p - (kInt l c 2).1), VI 0, .nils]]) rfl rfl rfl ⟨Nat.zero_lt_succ _, rfl, by decide, rfl⟩ rfl ?_
    refine o_nil ?_
    refine D_ret ?_
    exact ⟨_, [], [(1000, 1000)], .cell 0 rfl rfl ⟨Nat.zero_lt_succ _, Nat.le_refl _, rfl⟩ (.nil _), rfl, rfl, rfl, rfl, rfl, ⟨⟨_, rfl, .aggp (.cons (.same rfl) (.cons (.same rfl) (.cons (.same rfl) (.cons (.same rfl) (.cons (.same rfl) (.cons .nil .nil)))))), rfl⟩, trivial⟩, ⟨⟨rfl, rfl, _, rfl, .same⟩, trivial⟩⟩
  rw [if_neg h3]
  refine D_seq ?_
  refine D_reg ?_
  iterate 2 refine o_pu rfl rfl rfl rfl trivial ?_
  refine o_nil ?_
  refine D_condE rfl (fun h4 => ?_) (fun h4 => ?_)
  · rw [if_pos h4]
    refine D_seq ?_
    refine D_reg ?_
    refine o_pu rfl rfl rfl rfl trivial ?_
    refine o_callC [] 1000 (mill_int hm oki l c 2 hl ha2) rfl rfl cvs_same rfl rfl rfl rfl rfl rfl ?_
    refine o_i64 rfl rfl rfl rfl trivial (by omega) ?_
    refine o_bld (.agg [VI (6 + (kInt l c 2).1), VS [], VI 0, VI 0, VI 0, .nils]) rfl rfl rfl rfl rfl rfl ?_
    refine o_st 0 (.vs 6 [[VI (6 + (kInt l c 2).1), VS [], VI 0, VI 0, VI 0, .nils]]) rfl rfl rfl ⟨Nat.zero_lt_succ _, rfl, by decide, rfl⟩ rfl ?_
    refine o_nil ?_
    refine D_ret ?_
    exact ⟨_, [], [(1000, 1000)], .cell 0 rfl rfl ⟨Nat.zero_lt_succ _, Nat.le_refl _, rfl⟩ (.nil _), rfl, rfl, rfl, rfl, rfl, ⟨⟨_, rfl, .aggp (.cons (.same rfl) (.cons (.same rfl) (.cons (.same rfl) (.cons (.same rfl) (.cons (.same rfl) (.cons .nil .nil)))))), rfl⟩, trivial⟩, ⟨⟨rfl, rfl, _, rfl, .same⟩, trivial⟩⟩
  rw [if_neg h4]
  refine D_skip (D_seq (D_reg ?_))
  refine o_pu rfl rfl rfl rfl trivial ?_
  refine o_bs (.pv 1 ([1].map B)) rfl rfl rfl rfl rfl rfl rfl rfl rfl ?_
  refine o_pu rfl rfl rfl rfl trivial ?_
  refine o_callC [] 1000 (mill_bytes hm oki okp okb l c 30 hl ha2 (by decide)) rfl rfl cvs_same rfl rfl rfl rfl rfl rfl ?_
  refine o_appM B [1] (kBytes l (kInt l c (30 + 1)).1.toNat (kInt l c (30 + 1)).2).1 (by_ := 1) (c := True) (R := []) rfl rfl rfl rfl rfl trivial (fun _ _ => ⟨rfl, rfl⟩) (by simp at hb k31 ⊢; omega) rfl ?_
  refine o_bld (.agg [VI 3, VS [], VI 0, VI p, VI 0, .os 51 none 0 ([1] ++ (kBytes l (kInt l c (30 + 1)).1.toNat (kInt l c (30 + 1)).2).1).length]) rfl rfl rfl rfl rfl rfl ?_
  refine o_st 0 (.vs 6 [[VI 3, VS [], VI 0, VI p, VI 0, .os 51 none 0 ([1] ++ (kBytes l (kInt l c (30 + 1)).1.toNat (kInt l c (30 + 1)).2).1).length]]) rfl rfl rfl ⟨Nat.zero_lt_succ _, rfl, by decide, rfl⟩ rfl ?_
  refine o_nil ?_
  refine D_ret ?_
  exact ⟨_, [51], [(1000, 1000)], .cell 0 rfl rfl ⟨Nat.zero_lt_succ _, Nat.le_refl _, rfl⟩ (.nil _), rfl, rfl, rfl, rfl, rfl, ⟨⟨_, rfl, .aggp (.cons (.same rfl) (.cons (.same rfl) (.cons (.same rfl) (.cons (.same rfl) (.cons (.same rfl) (.cons (.fz rfl rfl (by simp)) .nil)))))), rfl⟩, trivial⟩, ⟨⟨rfl, rfl, _, rfl, .same⟩, trivial⟩⟩

def kSpoil (l : List UInt8) (a : Nat) (m : Msg) : Msg × Nat :=
  let n := kPick l a [-1, 0, 1, 1099511627777]
  let j := (kInt l (kInt l a 4).2 6).1
  let c := (kInt l (kInt l a 4).2 6).2
  if j = 0 then ({ m with kind := (kInt l c 9).1 }, (kInt l c 9).2)
  else if j = 1 then ({ m with host := kWord l c texts }, (kInt l c 10).2)
  else if j = 2 then ({ m with epoch := n }, c)
  else if j = 3 then ({ m with seq := n }, c)
  else if j = 4 then ({ m with to_ := n }, c)
  else ({ m with body := (kBytes l (kInt l c (2 + 1)).1.toNat (kInt l c (2 + 1)).2).1 }, (kBytes l (kInt l c (2 + 1)).1.toNat (kInt l c (2 + 1)).2).2)

theorem kSpoil_le {l : List UInt8} {a : Nat} {m : Msg} (ha : a ≤ l.length) : (kSpoil l a m).2 ≤ l.length := by
  unfold kSpoil
  have h2 : (kInt l (kInt l a 4).2 6).2 ≤ l.length := kInt_le (kInt_le ha)
  generalize (kInt l (kInt l a 4).2 6).2 = b at h2 ⊢
  dsimp only
  (repeat' split) <;> first | exact h2 | exact kInt_le h2 | exact kBytes_le _ _ _ (kInt_le h2)

theorem texts_len : ∀ x ∈ texts, x.length ≤ 5 := by decide

theorem kSpoil_host {l : List UInt8} {a : Nat} {m : Msg} (hh : m.host.length ≤ 1000) : (kSpoil l a m).1.host.length ≤ 1000 := by
  unfold kSpoil
  dsimp only
  (repeat' split) <;> first | exact hh | (have := texts_len _ (kWord_mem (l := l) (a := (kInt l (kInt l a 4).2 6).2) (xs := texts) (by decide)); simp only; omega)

include hm in
theorem law_spoilt {fi fp ft fb f : Nat} (oki : FnOK P fi 40 Ic.mill_Case_Int [(4, none)]) (okp : FnOK P fp 12 (Ic.mill_Case_Pick fi) [(4, none)]) (okt : FnOK P ft 12 (Ic.mill_Case_Text fi) [(2, none)])
    (okb : FnOK P fb 25 (Ic.mill_Case_Bytes fi fp) [(4, none)]) (ok : FnOK P f 37 (Ic.law33_spoilt fb fi fp ft) [(4, some (true, 6))]) (l : List UInt8) (a : Nat) (m : Msg) (hl : l.length ≤ 1000) (ha : a ≤ l.length) :
    FC P f [.ptr 1000 0 0, .p m.pv] [(1000, some (cb l a))] (.p (kSpoil l a m).1.pv) [(1000, some (cb l (kSpoil l a m).2))] := by
  refine ok.fc rfl rfl rfl ?_
  refine D_seq (D_reg ?_)
  refine o_box (.vs 6 [m.cells.map .p]) rfl rfl rfl rfl rfl rfl ?_
  refine o_box zMsg rfl rfl rfl rfl rfl rfl ?_
  refine o_nil ?_
  refine D_seq (D_reg ?_)
  refine o_pu rfl rfl rfl rfl trivial ?_
  refine o_bs (.pv 1 (([-1, 0, 1, 1099511627777] : List Int).map PI)) rfl rfl rfl rfl rfl rfl rfl rfl rfl ?_
  refine o_callC [7] 1000 (mill_pick hm oki okp l a [-1, 0, 1, 1099511627777] hl ha (by decide)) rfl rfl (.cons (.same rfl) (.cons (.fz rfl rfl rfl) .nil)) rfl rfl rfl rfl rfl rfl ?_
  have ha1 : (kInt l a 4).2 ≤ l.length := kInt_le ha
  have e4 : (kInt l a (([-1, 0, 1, 1099511627777] : List Int).length : Int)) = kInt l a 4 := rfl
  rw [e4]
  unfold kSpoil
  generalize kPick l a [-1, 0, 1, 1099511627777] = p
  generalize (kInt l a 4).2 = b at ha1 ⊢
  refine o_pu rfl rfl rfl rfl trivial ?_
  refine o_nil ?_
  refine D_seq (D_seq (D_reg ?_))
  refine o_pu rfl rfl rfl rfl trivial ?_
  refine o_callC [] 1000 (mill_int hm oki l b 6 hl ha1) rfl rfl cvs_same rfl rfl rfl rfl rfl rfl ?_
  have ha2 : (kInt l b 6).2 ≤ l.length := kInt_le ha1
  generalize (kInt l b 6).2 = c at ha2 ⊢
  generalize (kInt l b 6).1 = j
  dsimp only
  refine o_nil ?_
  refine D_block ?_
  refine D_seq ?_
  refine D_reg ?_
  iterate 2 refine o_pu rfl rfl rfl rfl trivial ?_
  refine o_nil ?_
  refine D_condE rfl (fun h0 => ?_) (fun h0 => ?_)
  · rw [if_pos h0]
    refine D_reg ?_
    refine o_pu rfl rfl rfl rfl trivial ?_
    refine o_callC [] 1000 (mill_int hm oki l c 9 hl ha2) rfl rfl cvs_same rfl rfl rfl rfl rfl rfl ?_
    refine o_pu rfl rfl rfl rfl trivial ?_
    refine o_st 0 (.vs 6 [({ m with kind := (kInt l c 9).1 } : Msg).cells.map .p]) rfl rfl rfl ⟨Nat.zero_lt_succ _, rfl, by decide, rfl⟩ rfl ?_
    refine o_nil ?_
    refine D_seq ?_
    refine D_reg ?_
    refine o_as (.p (({ m with kind := (kInt l c 9).1 } : Msg)).pv) rfl rfl rfl rfl ⟨Nat.zero_lt_succ _, Nat.le_refl _, rfl⟩ rfl ?_
    refine o_st 0 (.vs 6 [(({ m with kind := (kInt l c 9).1 } : Msg)).cells.map .p]) rfl rfl rfl ⟨Nat.zero_lt_succ _, rfl, by decide, rfl⟩ rfl ?_
    refine o_nil ?_
    refine D_ret ?_
    exact ⟨_, [], [(1000, 1000)], .cell 0 rfl rfl ⟨Nat.zero_lt_succ _, Nat.le_refl _, rfl⟩ (.nil _), rfl, rfl, rfl, rfl, rfl, ⟨⟨_, rfl, .same rfl, rfl⟩, trivial⟩, ⟨⟨rfl, rfl, _, rfl, .same⟩, trivial⟩⟩
  rw [if_neg h0]
  refine D_seq ?_
  refine D_reg ?_
  iterate 2 refine o_pu rfl rfl rfl rfl trivial ?_
  refine o_nil ?_
  refine D_condE rfl (fun h1 => ?_) (fun h1 => ?_)
  · rw [if_pos h1]
    refine D_reg ?_
    refine o_pu rfl rfl rfl rfl trivial ?_
    refine o_callC [] 1000 (mill_text hm oki okt l c hl ha2) rfl rfl cvs_same rfl rfl rfl rfl rfl rfl ?_
    refine o_pu rfl rfl rfl rfl trivial ?_
    refine o_st 0 (.vs 6 [({ m with host := kWord l c texts } : Msg).cells.map .p]) rfl rfl rfl ⟨Nat.zero_lt_succ _, rfl, by decide, rfl⟩ rfl ?_
    refine o_nil ?_
    refine D_seq ?_
    refine D_reg ?_
    refine o_as (.p (({ m with host := kWord l c texts } : Msg)).pv) rfl rfl rfl rfl ⟨Nat.zero_lt_succ _, Nat.le_refl _, rfl⟩ rfl ?_
    refine o_st 0 (.vs 6 [(({ m with host := kWord l c texts } : Msg)).cells.map .p]) rfl rfl rfl ⟨Nat.zero_lt_succ _, rfl, by decide, rfl⟩ rfl ?_
    refine o_nil ?_
    refine D_ret ?_
    exact ⟨_, [], [(1000, 1000)], .cell 0 rfl rfl ⟨Nat.zero_lt_succ _, Nat.le_refl _, rfl⟩ (.nil _), rfl, rfl, rfl, rfl, rfl, ⟨⟨_, rfl, .same rfl, rfl⟩, trivial⟩, ⟨⟨rfl, rfl, _, rfl, .same⟩, trivial⟩⟩
  rw [if_neg h1]
  refine D_seq ?_
  refine D_reg ?_
  iterate 2 refine o_pu rfl rfl rfl rfl trivial ?_
  refine o_nil ?_
  refine D_condE rfl (fun h2 => ?_) (fun h2 => ?_)
  · rw [if_pos h2]
    refine D_reg ?_
    iterate 2 refine o_pu rfl rfl rfl rfl trivial ?_
    refine o_st 0 (.vs 6 [({ m with epoch := p } : Msg).cells.map .p]) rfl rfl rfl ⟨Nat.zero_lt_succ _, rfl, by decide, rfl⟩ rfl ?_
    refine o_nil ?_
    refine D_seq ?_
    refine D_reg ?_
    refine o_as (.p (({ m with epoch := p } : Msg)).pv) rfl rfl rfl rfl ⟨Nat.zero_lt_succ _, Nat.le_refl _, rfl⟩ rfl ?_
    refine o_st 0 (.vs 6 [(({ m with epoch := p } : Msg)).cells.map .p]) rfl rfl rfl ⟨Nat.zero_lt_succ _, rfl, by decide, rfl⟩ rfl ?_
    refine o_nil ?_
    refine D_ret ?_
    exact ⟨_, [], [(1000, 1000)], .cell 0 rfl rfl ⟨Nat.zero_lt_succ _, Nat.le_refl _, rfl⟩ (.nil _), rfl, rfl, rfl, rfl, rfl, ⟨⟨_, rfl, .same rfl, rfl⟩, trivial⟩, ⟨⟨rfl, rfl, _, rfl, .same⟩, trivial⟩⟩
  rw [if_neg h2]
  refine D_seq ?_
  refine D_reg ?_
  iterate 2 refine o_pu rfl rfl rfl rfl trivial ?_
  refine o_nil ?_
  refine D_condE rfl (fun h3 => ?_) (fun h3 => ?_)
  · rw [if_pos h3]
    refine D_reg ?_
    iterate 2 refine o_pu rfl rfl rfl rfl trivial ?_
    refine o_st 0 (.vs 6 [({ m with seq := p } : Msg).cells.map .p]) rfl rfl rfl ⟨Nat.zero_lt_succ _, rfl, by decide, rfl⟩ rfl ?_
    refine o_nil ?_
    refine D_seq ?_
    refine D_reg ?_
    refine o_as (.p (({ m with seq := p } : Msg)).pv) rfl rfl rfl rfl ⟨Nat.zero_lt_succ _, Nat.le_refl _, rfl⟩ rfl ?_
    refine o_st 0 (.vs 6 [(({ m with seq := p } : Msg)).cells.map .p]) rfl rfl rfl ⟨Nat.zero_lt_succ _, rfl, by decide, rfl⟩ rfl ?_
    refine o_nil ?_
    refine D_ret ?_
    exact ⟨_, [], [(1000, 1000)], .cell 0 rfl rfl ⟨Nat.zero_lt_succ _, Nat.le_refl _, rfl⟩ (.nil _), rfl, rfl, rfl, rfl, rfl, ⟨⟨_, rfl, .same rfl, rfl⟩, trivial⟩, ⟨⟨rfl, rfl, _, rfl, .same⟩, trivial⟩⟩
  rw [if_neg h3]
  refine D_seq ?_
  refine D_reg ?_
  iterate 2 refine o_pu rfl rfl rfl rfl trivial ?_
  refine o_nil ?_
  refine D_condE rfl (fun h4 => ?_) (fun h4 => ?_)
  · rw [if_pos h4]
    refine D_reg ?_
    iterate 2 refine o_pu rfl rfl rfl rfl trivial ?_
    refine o_st 0 (.vs 6 [({ m with to_ := p } : Msg).cells.map .p]) rfl rfl rfl ⟨Nat.zero_lt_succ _, rfl, by decide, rfl⟩ rfl ?_
    refine o_nil ?_
    refine D_seq ?_
    refine D_reg ?_
    refine o_as (.p (({ m with to_ := p } : Msg)).pv) rfl rfl rfl rfl ⟨Nat.zero_lt_succ _, Nat.le_refl _, rfl⟩ rfl ?_
    refine o_st 0 (.vs 6 [(({ m with to_ := p } : Msg)).cells.map .p]) rfl rfl rfl ⟨Nat.zero_lt_succ _, rfl, by decide, rfl⟩ rfl ?_
    refine o_nil ?_
    refine D_ret ?_
    exact ⟨_, [], [(1000, 1000)], .cell 0 rfl rfl ⟨Nat.zero_lt_succ _, Nat.le_refl _, rfl⟩ (.nil _), rfl, rfl, rfl, rfl, rfl, ⟨⟨_, rfl, .same rfl, rfl⟩, trivial⟩, ⟨⟨rfl, rfl, _, rfl, .same⟩, trivial⟩⟩
  rw [if_neg h4]
  refine D_reg ?_
  refine o_pu rfl rfl rfl rfl trivial ?_
  refine o_callC [] 1000 (mill_bytes hm oki okp okb l c 2 hl ha2 (by decide)) rfl rfl cvs_same rfl rfl rfl rfl rfl rfl ?_
  refine o_pu rfl rfl rfl rfl trivial ?_
  refine o_st 0 (.vs 6 [({ m with body := (kBytes l (kInt l c (2 + 1)).1.toNat (kInt l c (2 + 1)).2).1 } : Msg).cells.map .p]) rfl rfl rfl ⟨Nat.zero_lt_succ _, rfl, by decide, rfl⟩ rfl ?_
  refine o_nil ?_
  refine D_seq ?_
  refine D_reg ?_
  refine o_as (.p (({ m with body := (kBytes l (kInt l c (2 + 1)).1.toNat (kInt l c (2 + 1)).2).1 } : Msg)).pv) rfl rfl rfl rfl ⟨Nat.zero_lt_succ _, Nat.le_refl _, rfl⟩ rfl ?_
  refine o_st 0 (.vs 6 [(({ m with body := (kBytes l (kInt l c (2 + 1)).1.toNat (kInt l c (2 + 1)).2).1 } : Msg)).cells.map .p]) rfl rfl rfl ⟨Nat.zero_lt_succ _, rfl, by decide, rfl⟩ rfl ?_
  refine o_nil ?_
  refine D_ret ?_
  exact ⟨_, [], [(1000, 1000)], .cell 0 rfl rfl ⟨Nat.zero_lt_succ _, Nat.le_refl _, rfl⟩ (.nil _), rfl, rfl, rfl, rfl, rfl, ⟨⟨_, rfl, .same rfl, rfl⟩, trivial⟩, ⟨⟨rfl, rfl, _, rfl, .same⟩, trivial⟩⟩
end
end Go.DW

/- The example of the chapter, and streams of messages. -/
namespace Go.DW
set_option maxHeartbeats 4000000
section
variable {P : Program} (hm : P.follows .mixedOrders = true)

abbrev beat : Msg := ⟨6, [], 0, 0, 0, []⟩
theorem beat_ok : validOk beat = true := by rw [validOk_eq]; simp [vc1, vc2, vc3, vc4]
theorem beat_enc : enc beat = [0, 0, 0, 1, 6] := by simp [enc, encBody, encHost, encSeq, encTo, lenBytes]; decide
theorem beat_dec : wdec [0, 0, 0, 1, 6] = some beat := by
  have e : wdec [0, 0, 0, 1, 6] = if validOk beat = true ∧ [0, 0, 0, 1, 6] = enc beat then some beat else none := rfl
  rw [e, if_pos ⟨beat_ok, beat_enc.symm⟩]
theorem beat_feed : feedR wdec ([0, 0, 0, 1, 6] ++ [0]) = ([beat], [0], 0) := by
  rw [feedR_some (n := 1) (m := beat) (by decide) (by decide) (by decide) (by decide) beat_dec]
  have e : ([0, 0, 0, 1, 6] ++ [0] : List UInt8).drop (4 + 1) = [0] := rfl
  rw [e, feedR_short (by decide)]

theorem law_begun {fs fe ff f : Nat} (oks : FnOK P fs 10 Ic.ref24_SameBytes [(4, none)]) (henc : ∀ m : Msg, m.host.length ≤ 9223372036854775807 → FC P fe [.p m.pv] [] (.tup [VB (encB m), VI (encE m)]) [])
    (hfeed : ∀ rest more : List UInt8, rest.length + more.length ≤ 1000000000 → FC P ff [VB rest, VB more] [] (.tup [.p (.sl ((feedR wdec (rest ++ more)).1.map Msg.pv)), VB (feedR wdec (rest ++ more)).2.1, VI (feedR wdec (rest ++ more)).2.2]) [])
    (ok : FnOK P f 46 (Ic.law33_begun fs fe ff) [(0, none)]) : FC P f [] [] (VT true) [] := by
  refine ok.fc rfl rfl rfl ?_
  have h1 := henc beat (by decide)
  rw [encB_ok beat_ok, encE_ok beat_ok, beat_enc] at h1
  have h2 := hfeed [0, 0, 0, 1, 6] [0] (by decide)
  rw [beat_feed] at h2
  dsimp only at h2
  refine D_seq (D_reg ?_)
  refine o_pu rfl rfl rfl rfl trivial ?_
  refine o_nil ?_
  refine D_seq (D_reg ?_)
  refine o_bld (.agg [VI 6, VS [], VI 0, VI 0, VI 0, .nils]) rfl rfl rfl rfl rfl rfl ?_
  refine o_call [] [] [] h1 rfl rfl (.cons (.aggp (.cons (.same rfl) (.cons (.same rfl) (.cons (.same rfl) (.cons (.same rfl) (.cons (.same rfl) (.cons .nil .nil))))))) .nil) rfl rfl rfl trivial trivial rfl rfl rfl ?_
  iterate 5 refine o_pu rfl rfl rfl rfl trivial ?_
  refine o_nil ?_
  refine D_seq (D_reg ?_)
  refine o_pu rfl rfl rfl rfl trivial ?_
  refine o_bs (.pv 1 ([0].map B)) rfl rfl rfl rfl rfl rfl rfl rfl rfl ?_
  refine o_callf [13] h2 rfl rfl (.cons (.same rfl) (.cons (.fz rfl rfl rfl) .nil)) rfl rfl ?_
  iterate 7 refine o_pu rfl rfl rfl rfl trivial ?_
  refine o_nil ?_
  refine D_seq (D_reg ?_)
  iterate 8 refine o_pu rfl rfl rfl rfl trivial ?_
  refine o_bs (.pv 1 ([0, 0, 0, 1, 6].map B)) rfl rfl rfl rfl rfl rfl rfl rfl rfl ?_
  refine o_callf [26] (same_bytes oks [0, 0, 0, 1, 6] [0, 0, 0, 1, 6]) rfl rfl (.cons (.same rfl) (.cons (.fz rfl rfl rfl) .nil)) rfl rfl ?_
  iterate 3 refine o_pu rfl rfl rfl rfl trivial ?_
  refine o_lenM _ _ rfl rfl ?_
  iterate 4 refine o_pu rfl rfl rfl rfl trivial ?_
  refine o_iadM Msg.pv beat [beat] rfl rfl ⟨by decide, by decide⟩ rfl ?_
  refine o_pu rfl rfl rfl rfl trivial ?_
  refine o_as (VI 6) rfl rfl rfl rfl (Nat.zero_lt_succ _) rfl ?_
  iterate 4 refine o_pu rfl rfl rfl rfl trivial ?_
  refine o_lenM _ _ rfl rfl ?_
  iterate 3 refine o_pu rfl rfl rfl rfl trivial ?_
  refine o_nil ?_
  refine D_ret ?_
  exact ⟨_, [], [], .tmp rfl (.nil _), rfl, rfl, rfl, rfl, rfl, ⟨⟨_, rfl, .same rfl, rfl⟩, trivial⟩, trivial⟩

def kStream (l : List UInt8) : Nat → Nat → List Msg × Nat
  | 0, a => ([], a)
  | k + 1, a => ((kMsg l a).1 :: (kStream l k (kMsg l a).2).1, (kStream l k (kMsg l a).2).2)

theorem kStream_len (l : List UInt8) : ∀ (k a : Nat), (kStream l k a).1.length = k
  | 0, _ => rfl
  | k + 1, a => by simp only [kStream, List.length_cons, kStream_len l k]

theorem kStream_ok (l : List UInt8) : ∀ (k a : Nat), ∀ m ∈ (kStream l k a).1, validOk m = true
  | 0, _, _, h => by simp [kStream] at h
  | k + 1, a, m, h => by
    simp only [kStream, List.mem_cons] at h
    rcases h with rfl | h
    · exact kMsg_ok
    · exact kStream_ok l k _ m h

theorem kStream_le (l : List UInt8) : ∀ (k a : Nat), a ≤ l.length → (kStream l k a).2 ≤ l.length
  | 0, _, h => h
  | k + 1, _, h => kStream_le l k _ (kMsg_le h)

theorem enc_len {m : Msg} (h : validOk m = true) : (enc m).length ≤ 16404 := by
  have := encBody_len (nums h)
  simp [enc, lenBytes]; omega

theorem host_len {m : Msg} (h : validOk m = true) : m.host.length ≤ 1000 := by
  by_cases hk : m.kind = 1
  · have hh := (nums h).host hk
    simp [hostOk] at hh; omega
  · rw [validOk_eq] at h
    simp only [Bool.and_eq_true] at h
    have h1 := h.1.1.1.2
    rw [decide_eq_false hk] at h1
    simp [vc1] at h1
    simp [h1]

structure StrI (l : List UInt8) (fin : List Msg × Nat) where
  out : List Msg
  a : Nat
  k : Nat
  ha : a ≤ l.length
  hk : out.length + k ≤ 4
  hv : ∀ m ∈ out, validOk m = true
  h1 : out ++ (kStream l k a).1 = fin.1
  h2 : (kStream l k a).2 = fin.2

theorem flat_len {out : List Msg} (hv : ∀ m ∈ out, validOk m = true) : (out.flatMap enc).length ≤ out.length * 16404 := by
  induction out with
  | nil => simp
  | cons m out ih =>
    have h1 := enc_len (hv m (by simp))
    have h2 := ih (fun m hm => hv m (by simp [hm]))
    simp only [List.flatMap_cons, List.length_append, List.length_cons]
    omega

def kStr (l : List UInt8) (a : Nat) : List Msg × Nat := kStream l (kInt l a 5).1.toNat (kInt l a 5).2

include hm in
theorem law_stream {fi fg fe f : Nat} (oki : FnOK P fi 40 Ic.mill_Case_Int [(4, none)]) (l : List UInt8) (hmsg : ∀ a, a ≤ l.length → FC P fg [.ptr 1000 0 0] [(1000, some (cb l a))] (.p (kMsg l a).1.pv) [(1000, some (cb l (kMsg l a).2))])
    (henc : ∀ m : Msg, m.host.length ≤ 9223372036854775807 → FC P fe [.p m.pv] [] (.tup [VB (encB m), VI (encE m)]) []) (ok : FnOK P f 32 (Ic.law33_stream fg fi fe) [(2, none), (3, none)]) (a : Nat) (hl : l.length ≤ 1000) (ha : a ≤ l.length) :
    FC P f [.ptr 1000 0 0] [(1000, some (cb l a))] (.tup [.p (.sl ((kStr l a).1.map Msg.pv)), VB ((kStr l a).1.flatMap enc)]) [(1000, some (cb l (kStr l a).2))] := by
  refine ok.fc rfl rfl rfl ?_
  unfold kStr
  have k1 := kInt_nonneg (l := l) (a := a) (n := 5)
  have k2 := kInt_lt (l := l) (a := a) (n := 5) (by omega)
  generalize hfin : kStream l (kInt l a 5).1.toNat (kInt l a 5).2 = fin
  refine D_seq ?_
  refine D_reg ?_
  iterate 2 refine o_pu rfl rfl rfl rfl trivial ?_
  refine o_nil ?_
  refine D_seq ?_
  refine D_reg ?_
  refine o_pu rfl rfl rfl rfl trivial ?_
  refine o_nil ?_
  refine D_seq ?_
  refine D_reg ?_
  refine o_pu rfl rfl rfl rfl trivial ?_
  refine o_nil ?_
  iterate 2 refine D_seq ?_
  refine D_reg ?_
  refine o_pu rfl rfl rfl rfl trivial ?_
  refine o_callC [] 1000 (mill_int hm oki l a 5 hl ha) rfl rfl cvs_same rfl rfl rfl rfl rfl rfl ?_
  refine o_pu rfl rfl rfl rfl trivial ?_
  refine o_nil ?_
  refine D_block ?_
  refine D_loop (ι := StrI l fin) (fun x => ⟨[(0, .ptr 1000 0 0), (4, .os 500 none 0 x.out.length), (5, .os 501 none 0 (x.out.flatMap enc).length), (6, VI x.k)], [(1000, some (cb l x.a)), (500, some (.pv 6 (x.out.map Msg.pv))), (501, some (.pv 1 ((x.out.flatMap enc).map B)))]⟩) (fun x => x.k)
    ⟨[], (kInt l a 5).2, (kInt l a 5).1.toNat, kInt_le ha, by simp; omega, by simp, by rw [hfin]; rfl, by rw [hfin]⟩ [] [(500, 6), (501, 1)] [(1000, 1000), (500, 500), (501, 501)]
    ⟨rfl, rfl, rfl, rfl, rfl, ⟨⟨_, rfl, .same rfl, rfl⟩, ⟨_, rfl, .gho rfl, rfl⟩, ⟨_, rfl, .gho rfl, rfl⟩, ⟨_, rfl, ?_, rfl⟩, trivial⟩, ⟨⟨rfl, rfl, _, rfl, .same⟩, ⟨rfl, rfl, _, rfl, .same⟩, ⟨rfl, rfl, _, rfl, .same⟩, trivial⟩⟩ (fun x => ?_)
  · have e : ((kInt l a 5).1.toNat : Int) = (kInt l a 5).1 := by omega
    simp only [V.ren]
    rw [e]
    exact .same rfl
  obtain ⟨out, b, k, hb, hk, hv, h1, h2⟩ := x
  simp only
  have hfl := flat_len hv
  refine D_seq (D_seq (D_reg ?_))
  iterate 2 refine o_pu rfl rfl rfl rfl trivial ?_
  refine o_nil ?_
  refine D_condP rfl (fun h => ?_) (fun h => ?_)
  · obtain ⟨k', rfl⟩ : ∃ k', k = k' + 1 := ⟨k - 1, by omega⟩
    simp only [kStream] at h1 h2
    have hmb := hmsg b hb
    have hvm := kMsg_ok (l := l) (a := b)
    have hle := kMsg_le (l := l) (a := b) hb
    generalize kMsg l b = y at hmb hvm hle h1 h2 ⊢
    obtain ⟨m, c⟩ := y
    dsimp only at hmb hvm hle h1 h2
    have hhl := host_len hvm
    have hel := enc_len hvm
    have hen := henc m (by omega)
    rw [encB_ok hvm, encE_ok hvm] at hen
    refine D_skip ?_
    refine D_seq (D_block (D_seq (D_reg ?_)))
    refine o_pu rfl rfl rfl rfl trivial ?_
    refine o_callC [] 1000 hmb rfl rfl cvs_same rfl rfl rfl rfl rfl rfl ?_
    refine o_box zMsg rfl rfl rfl rfl rfl rfl ?_
    refine o_st 0 (.vs 6 [m.cells.map .p]) rfl rfl rfl ⟨Nat.zero_lt_succ _, rfl, by decide, rfl⟩ rfl ?_
    refine o_nil ?_
    refine D_seq (D_reg ?_)
    refine o_as (.p m.pv) rfl rfl rfl rfl ⟨Nat.zero_lt_succ _, Nat.le_refl _, rfl⟩ rfl ?_
    refine o_callp hen rfl rfl rfl rfl rfl ?_
    iterate 5 refine o_pu rfl rfl rfl rfl trivial ?_
    refine o_nil ?_
    refine D_reg ?_
    refine o_pu rfl rfl rfl rfl trivial ?_
    refine o_as (.p m.pv) rfl rfl rfl rfl ⟨Nat.zero_lt_succ _, Nat.le_refl _, rfl⟩ rfl ?_
    refine o_bs (.pv 6 ([m].map Msg.pv)) rfl rfl rfl rfl rfl rfl rfl rfl rfl ?_
    refine o_appM Msg.pv out [m] (by_ := 72) (c := 1 = 1) (R := [25]) rfl rfl rfl rfl rfl rfl (fun _ _ => ⟨rfl, rfl⟩) (by simp; omega) rfl ?_
    iterate 2 refine o_pu rfl rfl rfl rfl trivial ?_
    refine o_appM B (out.flatMap enc) (enc m) (by_ := 1) (c := True) (R := []) rfl rfl rfl rfl rfl trivial (fun _ _ => ⟨rfl, rfl⟩) (by omega) rfl ?_
    iterate 2 refine o_pu rfl rfl rfl rfl trivial ?_
    refine o_nil ?_
    refine D_reg ?_
    refine o_pu rfl rfl rfl rfl trivial ?_
    refine o_i64 rfl rfl rfl rfl trivial (by omega) ?_
    refine o_pu rfl rfl rfl rfl trivial ?_
    refine o_nil ?_
    have e1 : out.flatMap enc ++ enc m = (out ++ [m]).flatMap enc := by simp
    rw [e1]
    have e2 : ((k' + 1 : Nat) : Int) - 1 = k' := by omega
    rw [e2]
    have q2 : ∀ X : List Msg, out ++ m :: X = fin.1 → out ++ [m] ++ X = fin.1 := fun X h => by rw [← h]; simp
    exact ⟨⟨out ++ [m], c, k', hle, by simp; omega, fun x hx => by
      rcases List.mem_append.1 hx with h | h
      · exact hv x h
      · simp at h; subst h; exact hvm, q2 _ h1, h2⟩, [], [], [(1000, 1000), (500, 26), (501, 29)], Nat.lt_succ_self _, ⟨rfl, rfl, rfl, rfl, rfl, ⟨⟨_, rfl, .same rfl, rfl⟩, ⟨_, rfl, .same rfl, rfl⟩, ⟨_, rfl, .same rfl, rfl⟩, ⟨_, rfl, .same rfl, rfl⟩, trivial⟩, ⟨⟨rfl, rfl, _, rfl, .same⟩, ⟨rfl, rfl, _, rfl, .same⟩, ⟨rfl, rfl, _, rfl, .same⟩, trivial⟩⟩⟩
  · have hk0 : k = 0 := by omega
    subst hk0
    simp only [kStream, List.append_nil] at h1 h2
    subst h1 h2
    refine D_exit ?_
    refine D_seq ?_
    refine D_reg ?_
    iterate 4 refine o_pu rfl rfl rfl rfl trivial ?_
    refine o_nil ?_
    refine D_ret ?_
    exact ⟨_, [500, 501], [(1000, 1000)], .tmp rfl (.tmp rfl (.nil _)), rfl, rfl, rfl, rfl, rfl, ⟨⟨_, rfl, .tup (.cons (.fz rfl rfl (by simp)) (.cons (.fz rfl rfl (by simp)) .nil)), rfl⟩, trivial⟩, ⟨⟨rfl, rfl, _, rfl, .same⟩, trivial⟩⟩
end
end Go.DW

/- The law of the bytes of messages: the walk. -/
namespace Go.DW
set_option maxHeartbeats 4000000
section
variable {P : Program} (hm : P.follows .mixedOrders = true)

abbrev bigM (n : Nat) : Msg := ⟨3, [], 0, 1, 0, List.replicate n 0⟩

abbrev weLst (l : List UInt8) (raw : Msg) (n : Nat) : List Msg :=
  [(kMsg l 0).1, (kSpoil l (kMsg l 0).2 (kMsg l 0).1).1, (kSpoil l (kSpoil l (kSpoil l (kMsg l 0).2 (kMsg l 0).1).2 (kMsg l 0).1).2 (kSpoil l (kSpoil l (kMsg l 0).2 (kMsg l 0).1).2 (kMsg l 0).1).1).1, raw, bigM n]

include hm in
theorem law_encodes {fn fm fp fe re fs fv rv fb f : Nat} (okn : FnOK P fn 15 Ic.mill_New [(4, none)])
    (hmsg : ∀ (l : List UInt8) (a : Nat), l.length ≤ 1000 → a ≤ l.length → FC P fm [.ptr 1000 0 0] [(1000, some (cb l a))] (.p (kMsg l a).1.pv) [(1000, some (cb l (kMsg l a).2))])
    (hsp : ∀ (l : List UInt8) (a : Nat) (m : Msg), l.length ≤ 1000 → a ≤ l.length → FC P fp [.ptr 1000 0 0, .p m.pv] [(1000, some (cb l a))] (.p (kSpoil l a m).1.pv) [(1000, some (cb l (kSpoil l a m).2))])
    (henc : ∀ m : Msg, m.host.length ≤ 9223372036854775807 → FC P fe [.p m.pv] [] (.tup [VB (encB m), VI (encE m)]) [])
    (hrenc : ∀ m : Msg, m.host.length ≤ 9223372036854775807 → FC P re [.p m.pv] [] (.tup [VB (encB m), VI (encE m)]) [])
    (oks : FnOK P fs 10 Ic.ref24_SameBytes [(4, none)])
    (hv : ∀ m : Msg, m.host.length ≤ 9223372036854775807 → FC P fv [.p m.pv] [] (VT (validOk m)) []) (hrv : ∀ m : Msg, m.host.length ≤ 9223372036854775807 → FC P rv [.p m.pv] [] (VT (validOk m)) [])
    (hbeg : FC P fb [] [] (VT true) []) (ok : FnOK P f 75 (Ic.law33_WireEncodes fb fm fp fn fs re rv fe fv) [(6, none)])
    (codes : List UInt8) (raw : Msg) (long : Int) (hr : raw.host.length ≤ 9223372036854775807) (hlong : 0 ≤ long ∧ long < 65536) :
    FC P f [VB codes, .p raw.pv, .p (.i .u16 long)] [] (VT true) [] := by
  refine ok.fc rfl rfl rfl ?_
  refine D_seq (D_reg ?_)
  refine o_box (.vs 6 [raw.cells.map .p]) rfl rfl rfl rfl rfl rfl ?_
  refine o_pu rfl rfl rfl rfl trivial ?_
  refine o_nil ?_
  refine D_seq ?_
  refine D_reg ?_
  refine o_pu rfl rfl rfl rfl trivial ?_
  refine o_callNew (b' := cb (codes.take 100) 0) [] (mill_new okn codes 100) rfl rfl cvs_same rfl rfl rfl ?_
  refine o_pu rfl rfl rfl rfl trivial ?_
  refine o_nil ?_
  refine D_seq ?_
  refine D_reg ?_
  refine o_pu rfl rfl rfl rfl trivial ?_
  have hl : (codes.take 100).length ≤ 1000 := by simp; omega
  generalize codes.take 100 = l at hl ⊢
  refine o_callC [] 17 (hmsg l 0 hl (by omega)) rfl rfl cvs_same rfl rfl rfl rfl rfl rfl ?_
  refine o_box zMsg rfl rfl rfl rfl rfl rfl ?_
  refine o_st 0 (.vs 6 [(kMsg l 0).1.cells.map .p]) rfl rfl rfl ⟨Nat.zero_lt_succ _, rfl, by decide, rfl⟩ rfl ?_
  refine o_nil ?_
  refine D_seq ?_
  refine D_reg ?_
  refine o_pu rfl rfl rfl rfl trivial ?_
  refine o_i64 rfl rfl rfl rfl trivial (by omega) ?_
  refine o_rem rfl rfl (by omega) ?_
  refine o_i64 rfl rfl rfl rfl trivial (by omega) ?_
  obtain ⟨n, hn⟩ : ∃ n : Nat, 16318 + long % 5 = n := ⟨(16318 + long % 5).toNat, by omega⟩
  rw [hn]
  refine o_mksB n rfl rfl (by omega) rfl rfl ?_
  refine o_bld (.agg [VI 3, VS [], VI 0, VI 1, VI 0, .os 24 none 0 n]) rfl rfl rfl rfl rfl rfl ?_
  refine o_box zMsg rfl rfl rfl rfl rfl rfl ?_
  refine o_st 0 (.vs 6 [[VI 3, VS [], VI 0, VI 1, VI 0, .os 24 none 0 n]]) rfl rfl rfl ⟨Nat.zero_lt_succ _, rfl, by decide, rfl⟩ rfl ?_
  refine o_nil ?_
  refine D_weak [24] [] [(4, 4), (8, 8), (9, 9), (17, 17)] (T := ⟨[(4, .ptr 4 0 0), (7, .ptr 17 0 0), (8, .ptr 8 0 0), (9, .ptr 9 0 0)], [(4, some (.vs 6 [raw.cells.map .p])), (8, some (.vs 6 [(kMsg l 0).1.cells.map .p])), (9, some (.vs 6 [(bigM n).cells.map .p])), (17, some (cb l (kMsg l 0).2))]⟩)
    ⟨rfl, rfl, rfl, rfl, rfl, ⟨⟨_, rfl, .same rfl, rfl⟩, ⟨_, rfl, .same rfl, rfl⟩, ⟨_, rfl, .same rfl, rfl⟩, ⟨_, rfl, .same rfl, rfl⟩, trivial⟩,
      ⟨⟨rfl, rfl, _, rfl, .same⟩, ⟨rfl, rfl, _, rfl, .same⟩, ⟨rfl, rfl, _, rfl, .one (.cons (.same rfl) (.cons (.same rfl) (.cons (.same rfl) (.cons (.same rfl) (.cons (.same rfl) (.cons (.fz rfl rfl (by simp)) .nil))))))⟩, ⟨rfl, rfl, _, rfl, .same⟩, trivial⟩⟩ ?_
  have hk0 := kMsg_le (l := l) (a := 0) (by omega)
  have hm0 := host_len (kMsg_ok (l := l) (a := 0))
  have hok0 := kMsg_ok (l := l) (a := 0)
  obtain ⟨ms, hms⟩ : ∃ ms, ms = weLst l raw n := ⟨_, rfl⟩
  have hall : ∀ x ∈ ms, x.host.length ≤ 9223372036854775807 := by
    intro x hx
    rw [hms] at hx
    have q1 := kSpoil_host (l := l) (a := (kMsg l 0).2) hm0
    have q2 := kSpoil_host (l := l) (a := (kSpoil l (kMsg l 0).2 (kMsg l 0).1).2) hm0
    have q3 := kSpoil_host (l := l) (a := (kSpoil l (kSpoil l (kMsg l 0).2 (kMsg l 0).1).2 (kMsg l 0).1).2) q2
    simp only [weLst, List.mem_cons, List.not_mem_nil, or_false] at hx
    rcases hx with rfl | rfl | rfl | rfl | rfl
    · omega
    · omega
    · omega
    · omega
    · simp
  have hlen : ms.length = 5 := by rw [hms]; rfl
  unfold weLst at hms
  generalize kMsg l 0 = y0 at *
  obtain ⟨m0, a0⟩ := y0
  dsimp only at *
  refine D_seq (D_seq (D_any hm ?_))
  refine o_as (.p m0.pv) rfl rfl rfl rfl ⟨Nat.zero_lt_succ _, Nat.le_refl _, rfl⟩ rfl ?_
  refine o_pu rfl rfl rfl rfl trivial ?_
  refine o_as (.p m0.pv) rfl rfl rfl rfl ⟨Nat.zero_lt_succ _, Nat.le_refl _, rfl⟩ rfl ?_
  refine o_callC [] 17 (hsp l a0 m0 hl hk0) rfl rfl cvs_same rfl rfl rfl rfl rfl rfl ?_
  have hk1 := kSpoil_le (l := l) (a := a0) (m := m0) hk0
  generalize kSpoil l a0 m0 = y1 at *
  obtain ⟨m1, a1⟩ := y1
  dsimp only at *
  refine o_pu rfl rfl rfl rfl trivial ?_
  refine o_pu rfl rfl rfl rfl trivial ?_
  refine o_as (.p m0.pv) rfl rfl rfl rfl ⟨Nat.zero_lt_succ _, Nat.le_refl _, rfl⟩ rfl ?_
  refine o_callC [] 17 (hsp l a1 m0 hl hk1) rfl rfl cvs_same rfl rfl rfl rfl rfl rfl ?_
  have hk2 := kSpoil_le (l := l) (a := a1) (m := m0) hk1
  generalize kSpoil l a1 m0 = y2 at *
  obtain ⟨m2, a2⟩ := y2
  dsimp only at *
  refine o_callC [] 17 (hsp l a2 m2 hl hk2) rfl rfl cvs_same rfl rfl rfl rfl rfl rfl ?_
  generalize kSpoil l a2 m2 = y3 at *
  obtain ⟨m3, a3⟩ := y3
  dsimp only at *
  refine o_as (.p raw.pv) rfl rfl rfl rfl ⟨Nat.zero_lt_succ _, Nat.le_refl _, rfl⟩ rfl ?_
  refine o_as (.p (bigM n).pv) rfl rfl rfl rfl ⟨Nat.zero_lt_succ _, Nat.le_refl _, rfl⟩ rfl ?_
  refine o_bs (.pv 6 (ms.map Msg.pv)) rfl rfl rfl rfl rfl rfl rfl rfl (by rw [hms]; rfl) ?_
  iterate 2 refine o_pu rfl rfl rfl rfl trivial ?_
  refine o_nil ⟨rfl, ?_⟩
  refine D_block ?_
  refine D_loop (ι := { i : Nat // i ≤ 5 }) (fun x => ⟨[(8, .ptr 8 0 0), (37, .p (.sl (ms.map Msg.pv))), (38, VI 5), (39, VI x.1)], [(8, some (.vs 6 [m0.cells.map .p]))]⟩) (fun x => 5 - x.1) ⟨0, by decide⟩ [37] [] [(8, 8)]
    ⟨rfl, rfl, rfl, rfl, rfl, ⟨⟨_, rfl, .same rfl, rfl⟩, ⟨_, rfl, .fz rfl rfl (by simp [hlen]), rfl⟩, ⟨_, rfl, .same rfl, rfl⟩, ⟨_, rfl, .same rfl, rfl⟩, trivial⟩, ⟨⟨rfl, rfl, _, rfl, .same⟩, trivial⟩⟩ (fun x => ?_)
  obtain ⟨i, hi⟩ := x
  dsimp only
  refine D_seq (D_reg ?_)
  refine o_pu rfl rfl rfl rfl trivial ?_
  refine o_nil ?_
  refine D_seq (D_condP rfl (fun hlt => ?_) (fun hlt => ?_))
  · have hlt : i < ms.length := by omega
    have hx := hall (ms.getD i (mk0 0)) (by simp [List.getD, hlt])
    refine D_skip (D_seq (D_block (D_seq (D_reg ?_))))
    refine o_iadM Msg.pv (mk0 0) ms rfl rfl (by omega) rfl ?_
    have e1 : (i : Int).toNat = i := rfl
    rw [e1]
    generalize ms.getD i (mk0 0) = x at hx ⊢
    refine o_as (.p x.pv) rfl rfl rfl rfl (Nat.le_refl _) rfl ?_
    refine o_box zMsg rfl rfl rfl rfl rfl rfl ?_
    refine o_st 0 (.vs 6 [x.cells.map .p]) rfl rfl rfl ⟨Nat.zero_lt_succ _, rfl, by decide, rfl⟩ rfl ?_
    refine o_nil ?_
    refine D_seq (D_reg ?_)
    refine o_as (.p x.pv) rfl rfl rfl rfl ⟨Nat.zero_lt_succ _, Nat.le_refl _, rfl⟩ rfl ?_
    refine o_callp (henc x (by omega)) rfl rfl rfl rfl rfl ?_
    iterate 5 refine o_pu rfl rfl rfl rfl trivial ?_
    refine o_nil ?_
    refine D_seq (D_reg ?_)
    refine o_as (.p x.pv) rfl rfl rfl rfl ⟨Nat.zero_lt_succ _, Nat.le_refl _, rfl⟩ rfl ?_
    refine o_callp (hrenc x (by omega)) rfl rfl rfl rfl rfl ?_
    iterate 5 refine o_pu rfl rfl rfl rfl trivial ?_
    refine o_nil ?_
    refine D_seq (D_any hm ?_)
    iterate 4 refine o_pu rfl rfl rfl rfl trivial ?_
    refine o_is 56 (b := encE x != encE x) false rfl (by simp) ?_
    iterate 2 refine o_pu rfl rfl rfl rfl trivial ?_
    refine o_callp (same_bytes oks (encB x) (encB x)) rfl rfl rfl rfl rfl ?_
    iterate 3 refine o_pu rfl rfl rfl rfl trivial ?_
    refine o_is 62 (b := !(encB x == encB x)) false rfl (by simp) ?_
    refine o_as (.p x.pv) rfl rfl rfl rfl ⟨Nat.zero_lt_succ _, Nat.le_refl _, rfl⟩ rfl ?_
    refine o_callp (hv x (by omega)) rfl rfl rfl rfl rfl ?_
    refine o_as (.p x.pv) rfl rfl rfl rfl ⟨Nat.zero_lt_succ _, Nat.le_refl _, rfl⟩ rfl ?_
    refine o_callp (hrv x (by omega)) rfl rfl rfl rfl rfl ?_
    iterate 2 refine o_pu rfl rfl rfl rfl trivial ?_
    refine o_nil ⟨rfl, ?_⟩
    refine D_condF (t := !(validOk x == validOk x)) rfl (by simp) ?_
    refine D_skip ?_
    refine D_reg ?_
    refine o_i64 rfl rfl rfl rfl trivial (by omega) ?_
    refine o_pu rfl rfl rfl rfl trivial ?_
    refine o_nil ?_
    exact ⟨⟨i + 1, by omega⟩, [], [], [(8, 8)], by simp only; omega, ⟨rfl, rfl, rfl, rfl, rfl, ⟨⟨_, rfl, .same rfl, rfl⟩, ⟨_, rfl, .same rfl, rfl⟩, ⟨_, rfl, .same rfl, rfl⟩, ⟨_, rfl, .same rfl, rfl⟩, trivial⟩, ⟨⟨rfl, rfl, _, rfl, .same⟩, trivial⟩⟩⟩
  · have hge : i = 5 := by omega
    subst hge
    refine D_exit ?_
    refine D_seq (D_reg ?_)
    refine o_as (.p m0.pv) rfl rfl rfl rfl ⟨Nat.zero_lt_succ _, Nat.le_refl _, rfl⟩ rfl ?_
    have hv0 := hv m0 (by omega)
    rw [hok0] at hv0
    refine o_callp hv0 rfl rfl rfl rfl rfl ?_
    refine o_pu rfl rfl rfl rfl trivial ?_
    refine o_callp hbeg rfl rfl rfl rfl rfl ?_
    iterate 2 refine o_pu rfl rfl rfl rfl trivial ?_
    refine o_nil ?_
    refine D_ret ?_
    exact ⟨_, [], [], .tmp rfl (.nil _), rfl, rfl, rfl, rfl, rfl, ⟨⟨_, rfl, .same rfl, rfl⟩, trivial⟩, trivial⟩
end
end Go.DW
