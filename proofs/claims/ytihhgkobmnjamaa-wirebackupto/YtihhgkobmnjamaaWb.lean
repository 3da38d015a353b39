/- The bytes of a message, by the reference. -/
import Derived.Test.YtihhgkobmnjamaaWa
import Derived.Test.YtihhgkobmnjamaaFc
namespace Go.DW
section
variable {P : Program} (hm : P.follows .mixedOrders = true)

def lenBytes (n : Nat) : List UInt8 := [byteOf (n / 16777216 : Nat), byteOf (n / 65536 : Nat), byteOf (n / 256 : Nat), byteOf n]

def encHost (m : Msg) : List UInt8 := if m.kind = 1 then byteOf m.host.length :: (m.host ++ vint m.epoch.toNat) else []
def encSeq (m : Msg) : List UInt8 := if 1 ≤ m.kind ∧ m.kind ≤ 5 then vint m.seq.toNat else []
def encTo (m : Msg) : List UInt8 := if m.kind = 4 then vint m.to_.toNat else []
def encBody (m : Msg) : List UInt8 := byteOf m.kind :: (encHost m ++ (encSeq m ++ (encTo m ++ m.body)))
def enc (m : Msg) : List UInt8 := lenBytes (encBody m).length ++ encBody m

/-- What is known of the numbers of a valid message. -/
structure Nums (m : Msg) : Prop where
  kind : 1 ≤ m.kind ∧ m.kind ≤ 7
  host : m.kind = 1 → hostOk m.host = true
  epoch : m.kind = 1 → 1 ≤ m.epoch ∧ m.epoch ≤ 1099511627776
  seq : (1 ≤ m.kind ∧ m.kind ≤ 5) → 0 ≤ m.seq ∧ m.seq ≤ 1099511627776
  to_ : m.kind = 4 → 0 ≤ m.to_ ∧ m.to_ ≤ 1099511627776
  body : m.body.length ≤ 16320

theorem nums {m : Msg} (h : validOk m = true) : Nums m := by
  rw [validOk_eq] at h
  simp only [Bool.and_eq_true, Bool.not_eq_true', decide_eq_true_eq] at h
  obtain ⟨⟨⟨⟨h0, h1⟩, h2⟩, h3⟩, h4⟩ := h
  have hleast : 0 ≤ least m.kind := by unfold least; split <;> omega
  have hseq : (1 ≤ m.kind ∧ m.kind ≤ 5) → 0 ≤ m.seq ∧ m.seq ≤ 1099511627776 := by
    intro hk
    rw [decide_eq_true hk] at h2
    simp [vc2] at h2
    omega
  refine ⟨h0, fun hk => ?_, fun hk => ?_, hseq, fun hk => ?_, ?_⟩
  · rw [decide_eq_true hk] at h1
    simp [vc1] at h1
    exact h1.1.1
  · rw [decide_eq_true hk] at h1
    simp [vc1] at h1
    exact ⟨h1.1.2, h1.2⟩
  · rw [decide_eq_true hk] at h3
    simp [vc3] at h3
    have := hseq (by omega)
    omega
  · by_cases hk : m.kind = 3
    · rw [decide_eq_true hk] at h4
      simp [vc4] at h4
      omega
    · rw [decide_eq_false hk] at h4
      simp [vc4] at h4
      simp [h4]
end
end Go.DW

/- The reference writes the bytes of a message. -/
namespace Go.DW
section
variable {P : Program} (hm : P.follows .mixedOrders = true)

abbrev reSt (m : Msg) (out : List UInt8) : St := ⟨[(1, .ptr 1 0 0), (4, VT (decide (m.kind = 1))), (5, VT (decide (1 ≤ m.kind ∧ m.kind ≤ 5))), (6, VT (decide (m.kind = 4))), (7, VT (decide (m.kind = 3))), (8, .os 500 none 0 out.length)], [(1, some (.vs 6 [m.cells.map .p])), (500, some (.pv 1 (out.map B)))]⟩

theorem encHost_len {m : Msg} (hn : Nums m) : (encHost m).length ≤ 30 := by
  unfold encHost
  split
  · rename_i hk
    have hh := hn.host hk
    have hl16 : m.host.length ≤ 16 := by simp [hostOk] at hh; omega
    have hep := hn.epoch hk
    have hvl := vint_len 8 m.epoch.toNat (by omega)
    simp; omega
  · simp

theorem encSeq_len {m : Msg} (hn : Nums m) : (encSeq m).length ≤ 9 := by
  unfold encSeq
  split
  · rename_i hk
    have hx := hn.seq hk
    exact vint_len 8 m.seq.toNat (by omega)
  · simp

theorem encTo_len {m : Msg} (hn : Nums m) : (encTo m).length ≤ 9 := by
  unfold encTo
  split
  · rename_i hk
    have hx := hn.to_ hk
    exact vint_len 8 m.to_.toNat (by omega)
  · simp

include hm in
theorem ref_encode {f fh fu fv fp : Nat} (okh : FnOK P fh 36 Ic.ref25_HostName [(2, none)]) (oku : FnOK P fu 16 Ic.ref33_uses [(2, none), (3, none), (4, none), (5, none)]) (okv : FnOK P fv 129 (Ic.ref33_Valid fh fu) [(2, none)]) (okp : FnOK P fp 21 Ic.ref25_Put [(4, none)])
    (ok : FnOK P f 70 (Ic.ref33_Encode fp fv fu) [(2, none), (3, none)]) (m : Msg) (hs : m.host.length ≤ 9223372036854775807) (hv : validOk m = true) :
    FC P f [.p m.pv] [] (.tup [VB (enc m), VI 0]) [] := by
  have hn := nums hv
  refine ok.fc rfl rfl rfl ?_
  refine D_seq (D_reg ?_)
  refine o_box (.vs 6 [m.cells.map .p]) rfl rfl rfl rfl rfl rfl ?_
  iterate 2 refine o_pu rfl rfl rfl rfl trivial ?_
  refine o_nil ?_
  refine D_seq (D_seq (D_reg ?_))
  refine o_as (.p m.pv) rfl rfl rfl rfl ⟨Nat.zero_lt_succ _, Nat.le_refl _, rfl⟩ rfl ?_
  have hvf := ref_valid okh oku okv m hs
  rw [hv] at hvf
  refine o_callp hvf rfl rfl rfl rfl rfl ?_
  refine o_pu rfl rfl rfl rfl trivial ?_
  refine o_nil ?_
  refine D_cond rfl (fun h => by cases h) (fun _ => ?_)
  refine D_skip ?_
  refine D_seq (D_reg ?_)
  refine o_pu rfl rfl rfl rfl trivial ?_
  refine o_pu rfl rfl rfl rfl ⟨rfl, Nat.zero_lt_succ _⟩ ?_
  refine o_callp (ref_uses oku m.kind) rfl rfl rfl rfl rfl ?_
  iterate 9 refine o_pu rfl rfl rfl rfl trivial ?_
  refine o_nil ?_
  refine D_cut (ι := Unit) (fun _ => reSt m [byteOf m.kind]) (D_reg ?_) (fun _ => ?_)
  · refine o_pu rfl rfl rfl rfl trivial ?_
    refine o_pu rfl rfl rfl rfl ⟨rfl, Nat.zero_lt_succ _⟩ ?_
    refine o_cvb rfl rfl ?_
    refine o_bs (.pv 1 ([byteOf m.kind].map B)) rfl rfl rfl rfl rfl rfl rfl rfl rfl ?_
    refine o_pu rfl rfl rfl rfl trivial ?_
    refine o_nil ?_
    exact ⟨(), [], [], [(1, 1), (500, 24)], ⟨rfl, rfl, rfl, rfl, rfl, ⟨⟨_, rfl, .same rfl, rfl⟩, ⟨_, rfl, .same rfl, rfl⟩, ⟨_, rfl, .same rfl, rfl⟩, ⟨_, rfl, .same rfl, rfl⟩, ⟨_, rfl, .same rfl, rfl⟩, ⟨_, rfl, .same rfl, rfl⟩, trivial⟩, ⟨⟨rfl, rfl, _, rfl, .same⟩, ⟨rfl, rfl, _, rfl, .same⟩, trivial⟩⟩⟩
  refine D_cut (ι := Unit) (fun _ => reSt m ([byteOf m.kind] ++ encHost m)) (D_seq (D_reg ?_)) (fun _ => ?_)
  · by_cases hk : m.kind = 1
    · have hh : hostOk m.host = true := hn.host hk
      have hl16 : m.host.length ≤ 16 := by simp [hostOk] at hh; omega
      have hep := hn.epoch hk
      have e0 : [byteOf m.kind] ++ encHost m = [byteOf m.kind] ++ [byteOf m.host.length] ++ m.host ++ vint m.epoch.toNat := by simp [encHost, hk]
      have e1 : m.epoch = (m.epoch.toNat : Int) := by omega
      have hvl := vint_len 8 m.epoch.toNat (by omega)
      unfold reSt
      rw [decide_eq_true hk, e0]
      refine o_pu rfl rfl rfl rfl trivial ?_
      refine o_nil ?_
      refine D_cond rfl (fun _ => ?_) (fun h => by cases h)
      refine D_seq (D_any hm ?_)
      iterate 2 refine o_pu rfl rfl rfl rfl trivial ?_
      refine o_pu rfl rfl rfl rfl ⟨rfl, Nat.zero_lt_succ _⟩ ?_
      refine o_pu rfl rfl rfl rfl trivial ?_
      refine o_cvb rfl rfl ?_
      refine o_bs (.pv 1 ([byteOf m.host.length].map B)) rfl rfl rfl rfl rfl rfl rfl rfl rfl ?_
      refine o_appM B [byteOf m.kind] [byteOf m.host.length] (c := 1 = 1) (R := [31]) rfl rfl rfl rfl rfl rfl (fun _ _ => ⟨rfl, rfl⟩) (by simp) rfl ?_
      refine o_pu rfl rfl rfl rfl trivial ?_
      refine o_pu rfl rfl rfl rfl ⟨rfl, Nat.zero_lt_succ _⟩ ?_
      refine o_appsB ([byteOf m.kind] ++ [byteOf m.host.length]) m.host rfl rfl rfl rfl (by simp; omega) rfl ?_
      refine o_pu rfl rfl rfl rfl trivial ?_
      refine o_nil ⟨rfl, ?_⟩
      refine D_reg ?_
      iterate 2 refine o_pu rfl rfl rfl rfl trivial ?_
      refine o_pu rfl rfl rfl rfl ⟨rfl, Nat.zero_lt_succ _⟩ ?_
      have hput := ref_put okp ([byteOf m.kind] ++ [byteOf m.host.length] ++ m.host) m.epoch.toNat (by omega) (by simp; omega)
      rw [← e1] at hput
      refine o_callA [] 35 hput rfl rfl (.cons (.same rfl) (.cons (.same rfl) .nil)) rfl rfl rfl rfl rfl rfl ?_
      refine o_pu rfl rfl rfl rfl trivial ?_
      refine o_nil ?_
      exact ⟨(), [], [], [(1, 1), (500, 39)], ⟨rfl, rfl, rfl, rfl, rfl, ⟨⟨_, rfl, .same rfl, rfl⟩, ⟨_, rfl, .same rfl, rfl⟩, ⟨_, rfl, .same rfl, rfl⟩, ⟨_, rfl, .same rfl, rfl⟩, ⟨_, rfl, .same rfl, rfl⟩, ⟨_, rfl, .same rfl, rfl⟩, trivial⟩, ⟨⟨rfl, rfl, _, rfl, .same⟩, ⟨rfl, rfl, _, rfl, .same⟩, trivial⟩⟩⟩
    · have e0 : encHost m = [] := by simp [encHost, hk]
      unfold reSt
      rw [decide_eq_false hk, e0]
      refine o_pu rfl rfl rfl rfl trivial ?_
      refine o_nil ?_
      refine D_cond rfl (fun h => by cases h) (fun _ => ?_)
      refine D_skip ?_
      exact ⟨(), [], [], [(1, 1), (500, 500)], ⟨rfl, rfl, rfl, rfl, rfl, ⟨⟨_, rfl, .same rfl, rfl⟩, ⟨_, rfl, .same rfl, rfl⟩, ⟨_, rfl, .same rfl, rfl⟩, ⟨_, rfl, .same rfl, rfl⟩, ⟨_, rfl, .same rfl, rfl⟩, ⟨_, rfl, .same rfl, rfl⟩, trivial⟩, ⟨⟨rfl, rfl, _, rfl, .same⟩, ⟨rfl, rfl, _, rfl, .same⟩, trivial⟩⟩⟩
  have hlen : ([byteOf m.kind] ++ encHost m).length ≤ 100 := by have := encHost_len hn; simp; omega
  refine D_cut (ι := Unit) (fun _ => reSt m ([byteOf m.kind] ++ encHost m ++ encSeq m)) (D_seq (D_reg ?_)) (fun _ => ?_)
  · generalize hp : [byteOf m.kind] ++ encHost m = out at hlen ⊢
    by_cases hk : 1 ≤ m.kind ∧ m.kind ≤ 5
    · have hx := hn.seq hk
      have e0 : encSeq m = vint m.seq.toNat := by simp [encSeq, hk]
      have e1 : m.seq = (m.seq.toNat : Int) := by omega
      have hvl := vint_len 8 m.seq.toNat (by omega)
      unfold reSt
      rw [decide_eq_true hk, e0]
      refine o_pu rfl rfl rfl rfl trivial ?_
      refine o_nil ?_
      refine D_cond rfl (fun _ => ?_) (fun h => by cases h)
      refine D_reg ?_
      iterate 2 refine o_pu rfl rfl rfl rfl trivial ?_
      refine o_pu rfl rfl rfl rfl ⟨rfl, Nat.zero_lt_succ _⟩ ?_
      have hput := ref_put okp out m.seq.toNat (by omega) (by omega)
      rw [← e1] at hput
      refine o_callA [] 500 hput rfl rfl (.cons (.same rfl) (.cons (.same rfl) .nil)) rfl rfl rfl rfl rfl rfl ?_
      refine o_pu rfl rfl rfl rfl trivial ?_
      refine o_nil ?_
      exact ⟨(), [], [], [(1, 1), (500, 44)], ⟨rfl, rfl, rfl, rfl, rfl, ⟨⟨_, rfl, .same rfl, rfl⟩, ⟨_, rfl, .same rfl, rfl⟩, ⟨_, rfl, .same rfl, rfl⟩, ⟨_, rfl, .same rfl, rfl⟩, ⟨_, rfl, .same rfl, rfl⟩, ⟨_, rfl, .same rfl, rfl⟩, trivial⟩, ⟨⟨rfl, rfl, _, rfl, .same⟩, ⟨rfl, rfl, _, rfl, .same⟩, trivial⟩⟩⟩
    · have e0 : encSeq m = [] := by simp [encSeq, hk]
      unfold reSt
      rw [decide_eq_false hk, e0, List.append_nil]
      refine o_pu rfl rfl rfl rfl trivial ?_
      refine o_nil ?_
      refine D_cond rfl (fun h => by cases h) (fun _ => ?_)
      refine D_skip ?_
      exact ⟨(), [], [], [(1, 1), (500, 500)], ⟨rfl, rfl, rfl, rfl, rfl, ⟨⟨_, rfl, .same rfl, rfl⟩, ⟨_, rfl, .same rfl, rfl⟩, ⟨_, rfl, .same rfl, rfl⟩, ⟨_, rfl, .same rfl, rfl⟩, ⟨_, rfl, .same rfl, rfl⟩, ⟨_, rfl, .same rfl, rfl⟩, trivial⟩, ⟨⟨rfl, rfl, _, rfl, .same⟩, ⟨rfl, rfl, _, rfl, .same⟩, trivial⟩⟩⟩
  have hlen : ([byteOf m.kind] ++ encHost m ++ encSeq m).length ≤ 200 := by have := encHost_len hn; have := encSeq_len hn; simp; omega
  refine D_cut (ι := Unit) (fun _ => reSt m ([byteOf m.kind] ++ encHost m ++ encSeq m ++ encTo m)) (D_seq (D_reg ?_)) (fun _ => ?_)
  · generalize hp : [byteOf m.kind] ++ encHost m ++ encSeq m = out at hlen ⊢
    by_cases hk : m.kind = 4
    · have hx := hn.to_ hk
      have e0 : encTo m = vint m.to_.toNat := by simp [encTo, hk]
      have e1 : m.to_ = (m.to_.toNat : Int) := by omega
      have hvl := vint_len 8 m.to_.toNat (by omega)
      unfold reSt
      rw [decide_eq_true hk, e0]
      refine o_pu rfl rfl rfl rfl trivial ?_
      refine o_nil ?_
      refine D_cond rfl (fun _ => ?_) (fun h => by cases h)
      refine D_reg ?_
      iterate 2 refine o_pu rfl rfl rfl rfl trivial ?_
      refine o_pu rfl rfl rfl rfl ⟨rfl, Nat.zero_lt_succ _⟩ ?_
      have hput := ref_put okp out m.to_.toNat (by omega) (by omega)
      rw [← e1] at hput
      refine o_callA [] 500 hput rfl rfl (.cons (.same rfl) (.cons (.same rfl) .nil)) rfl rfl rfl rfl rfl rfl ?_
      refine o_pu rfl rfl rfl rfl trivial ?_
      refine o_nil ?_
      exact ⟨(), [], [], [(1, 1), (500, 49)], ⟨rfl, rfl, rfl, rfl, rfl, ⟨⟨_, rfl, .same rfl, rfl⟩, ⟨_, rfl, .same rfl, rfl⟩, ⟨_, rfl, .same rfl, rfl⟩, ⟨_, rfl, .same rfl, rfl⟩, ⟨_, rfl, .same rfl, rfl⟩, ⟨_, rfl, .same rfl, rfl⟩, trivial⟩, ⟨⟨rfl, rfl, _, rfl, .same⟩, ⟨rfl, rfl, _, rfl, .same⟩, trivial⟩⟩⟩
    · have e0 : encTo m = [] := by simp [encTo, hk]
      unfold reSt
      rw [decide_eq_false hk, e0, List.append_nil]
      refine o_pu rfl rfl rfl rfl trivial ?_
      refine o_nil ?_
      refine D_cond rfl (fun h => by cases h) (fun _ => ?_)
      refine D_skip ?_
      exact ⟨(), [], [], [(1, 1), (500, 500)], ⟨rfl, rfl, rfl, rfl, rfl, ⟨⟨_, rfl, .same rfl, rfl⟩, ⟨_, rfl, .same rfl, rfl⟩, ⟨_, rfl, .same rfl, rfl⟩, ⟨_, rfl, .same rfl, rfl⟩, ⟨_, rfl, .same rfl, rfl⟩, ⟨_, rfl, .same rfl, rfl⟩, trivial⟩, ⟨⟨rfl, rfl, _, rfl, .same⟩, ⟨rfl, rfl, _, rfl, .same⟩, trivial⟩⟩⟩
  have hlen : ([byteOf m.kind] ++ encHost m ++ encSeq m ++ encTo m).length ≤ 300 := by have := encHost_len hn; have := encSeq_len hn; have := encTo_len hn; simp; omega
  have hb := hn.body
  have e0 : [byteOf m.kind] ++ encHost m ++ encSeq m ++ encTo m ++ m.body = encBody m := by simp [encBody]
  generalize hp : [byteOf m.kind] ++ encHost m ++ encSeq m ++ encTo m = out at hlen e0 ⊢
  have hbl : (encBody m).length ≤ 17000 := by rw [← e0, List.length_append]; omega
  refine D_seq (D_reg ?_)
  iterate 2 refine o_pu rfl rfl rfl rfl trivial ?_
  refine o_pu rfl rfl rfl rfl ⟨rfl, Nat.zero_lt_succ _⟩ ?_
  refine o_appM B out m.body (c := True) (R := []) rfl rfl rfl rfl rfl trivial (fun _ _ => ⟨rfl, rfl⟩) (by omega) rfl ?_
  rw [e0]
  refine o_pu rfl rfl rfl rfl trivial ?_
  refine o_nil ?_
  refine D_seq (D_reg ?_)
  iterate 3 refine o_pu rfl rfl rfl rfl trivial ?_
  refine o_nil ?_
  refine D_seq (D_reg ?_)
  refine o_pu rfl rfl rfl rfl trivial ?_
  refine o_shrN 24 rfl rfl ⟨rfl, by decide⟩ ?_
  refine o_cvb rfl rfl ?_
  refine o_pu rfl rfl rfl rfl trivial ?_
  refine o_shrN 16 rfl rfl ⟨rfl, by decide⟩ ?_
  refine o_cvb rfl rfl ?_
  refine o_pu rfl rfl rfl rfl trivial ?_
  refine o_shrN 8 rfl rfl ⟨rfl, by decide⟩ ?_
  refine o_cvb rfl rfl ?_
  refine o_pu rfl rfl rfl rfl trivial ?_
  refine o_cvb rfl rfl ?_
  refine o_bs (.pv 1 ((lenBytes (encBody m).length).map B)) rfl rfl rfl rfl rfl rfl rfl rfl rfl ?_
  refine o_pu rfl rfl rfl rfl trivial ?_
  refine o_appM B (lenBytes (encBody m).length) (encBody m) (c := (encBody m).length = ((encBody m).map B).length) (R := [53]) rfl rfl rfl rfl rfl (by simp) (fun _ _ => ⟨rfl, rfl⟩) (by simp [lenBytes]; omega) rfl ?_
  iterate 2 refine o_pu rfl rfl rfl rfl trivial ?_
  refine o_nil ?_
  refine D_ret ?_
  exact ⟨_, [69], [], .tmp rfl (.tmp rfl (.nil _)), rfl, rfl, rfl, rfl, rfl, ⟨⟨_, rfl, .tup (.cons (.fz rfl rfl (by simp [enc])) (.cons (.same rfl) .nil)), rfl⟩, trivial⟩, trivial⟩
end
end Go.DW

/- Numbers, read from bytes. -/
namespace Go.DW
section
variable {P : Program} (hm : P.follows .mixedOrders = true)

/-- A number, read: how many bytes it has. -/
def vrd : List UInt8 → Nat → Nat → Option (Nat × Nat)
  | [], _, _ => none
  | c :: l, i, n => if i = 9 then none else if c.toNat < 128 then some (n + (c.toNat % 128) * 2 ^ (7 * i), i + 1) else vrd l (i + 1) (n + (c.toNat % 128) * 2 ^ (7 * i))

structure VrI (b : List UInt8) where
  i : Nat
  n : Nat
  hi : i ≤ b.length
  h9 : i ≤ 9
  hn : n < 2 ^ (7 * i)
  h : vrd (b.drop i) i n = vrd b 0 0

theorem vrd_step {c : UInt8} {i n : Nat} (h9 : i < 9) (hn : n < 2 ^ (7 * i)) : c.toNat % 128 * 2 ^ (7 * i) < 9223372036854775808 ∧ n + c.toNat % 128 * 2 ^ (7 * i) < 9223372036854775808 ∧ n + c.toNat % 128 * 2 ^ (7 * i) < 2 ^ (7 * (i + 1)) := by
  have hp : 2 ^ (7 * i) ≤ 2 ^ 56 := Nat.pow_le_pow_right (by decide) (by omega)
  have h7 : c.toNat % 128 * 2 ^ (7 * i) ≤ 127 * 2 ^ (7 * i) := Nat.mul_le_mul_right _ (by omega)
  have e : 2 ^ (7 * (i + 1)) = 128 * 2 ^ (7 * i) := by rw [Nat.mul_add, Nat.pow_add, Nat.mul_comm]
  rw [e]
  omega

theorem drop_cons {α : Type} (d : α) {l : List α} {i : Nat} (h : i < l.length) : l.drop i = l.getD i d :: l.drop (i + 1) := by
  rw [List.drop_eq_getElem_cons h]
  simp [List.getD, h]

def wnum (b : List UInt8) : Int × List UInt8 × Bool := match vrd b 0 0 with
  | some (n, k) => (n, b.drop k, true)
  | none => (0, [], false)

include hm in
theorem wire_number {f : Nat} (ok : FnOK P f 33 Ic.wire_number [(2, none), (3, none), (4, none)]) (b : List UInt8) (hb : b.length < 4611686018427387904) :
    FC P f [VB b] [] (.tup [VI (wnum b).1, VB (wnum b).2.1, VT (wnum b).2.2]) [] := by
  refine ok.fc rfl rfl rfl ?_
  refine D_seq ?_
  refine D_reg ?_
  iterate 3 refine o_pu rfl rfl rfl rfl trivial ?_
  refine o_nil ?_
  refine D_seq ?_
  refine D_reg ?_
  refine o_pu rfl rfl rfl rfl trivial ?_
  refine o_nil ?_
  iterate 2 refine D_seq ?_
  refine D_reg ?_
  refine o_pu rfl rfl rfl rfl trivial ?_
  refine o_lenM _ _ rfl rfl ?_
  refine o_pu rfl rfl rfl rfl trivial ?_
  refine o_nil ?_
  refine D_block ?_
  refine D_loop (ι := VrI b) (fun x => ⟨[(0, VB b), (5, VI x.n), (8, VB b), (9, VI b.length), (10, VI x.i)], []⟩) (fun x => b.length - x.i) ⟨0, 0, by omega, by omega, by decide, rfl⟩ [] [] [] ⟨rfl, rfl, rfl, rfl, rfl, ⟨⟨_, rfl, .same rfl, rfl⟩, ⟨_, rfl, .same rfl, rfl⟩, ⟨_, rfl, .same rfl, rfl⟩, ⟨_, rfl, .same rfl, rfl⟩, ⟨_, rfl, .same rfl, rfl⟩, trivial⟩, trivial⟩ (fun x => ?_)
  obtain ⟨i, n, hi, h9, hn, hx⟩ := x
  simp only
  refine D_seq (D_reg ?_)
  refine o_pu rfl rfl rfl rfl trivial ?_
  refine o_nil ?_
  refine D_seq (D_condP rfl (fun hlt => ?_) (fun hlt => ?_))
  · have hlt : i < b.length := by omega
    rw [drop_cons 0 hlt] at hx
    simp only [vrd] at hx
    refine D_skip ?_
    refine D_seq (D_block (D_seq (D_reg ?_)))
    refine o_pu rfl rfl rfl rfl trivial ?_
    refine o_iadM B 0 _ rfl rfl (by omega) rfl ?_
    refine o_ldB rfl rfl ?_
    iterate 2 refine o_pu rfl rfl rfl rfl trivial ?_
    refine o_nil ?_
    refine D_seq (D_seq (D_reg ?_))
    iterate 2 refine o_pu rfl rfl rfl rfl trivial ?_
    refine o_nil ?_
    refine D_condE rfl (fun h => ?_) (fun h => ?_)
    · rw [if_pos (by omega)] at hx
      have e : wnum b = (0, [], false) := by unfold wnum; rw [← hx]
      refine D_exit ?_
      refine D_seq ?_
      refine D_reg ?_
      iterate 3 refine o_pu rfl rfl rfl rfl trivial ?_
      refine o_nil ?_
      refine D_ret ?_
      rw [e]
      exact ⟨_, [], [], .tmp rfl (.tmp rfl (.tmp rfl (.nil _))), rfl, rfl, rfl, rfl, rfl, ⟨⟨_, rfl, .tup (.cons (.same rfl) (.cons .nil (.cons (.same rfl) .nil))), rfl⟩, trivial⟩, trivial⟩
    · rw [if_neg (by omega)] at hx
      obtain ⟨q1, q2, q3⟩ := vrd_step (c := b.getD i 0) (i := i) (n := n) (by omega) hn
      generalize hc : b.getD i 0 = c at *
      have hc' : b.getD (i : Int).toNat 0 = c := hc
      rw [hc']
      refine D_skip (D_seq (D_reg ?_))
      refine o_pu rfl rfl rfl rfl trivial ?_
      refine o_pu rfl rfl rfl rfl trivial ?_
      refine o_and7n rfl rfl ?_
      refine o_i64 rfl rfl rfl rfl trivial (by omega) ?_
      refine o_pu rfl rfl rfl rfl trivial ?_
      refine o_i64 rfl rfl rfl rfl trivial (by omega) ?_
      refine o_shlN (7 * i) rfl rfl ⟨by omega, by omega⟩ q1 ?_
      refine o_orN (7 * i) rfl rfl hn q2 ?_
      refine o_pu rfl rfl rfl rfl trivial ?_
      refine o_nil ?_
      refine D_seq ?_
      refine D_reg ?_
      iterate 2 refine o_pu rfl rfl rfl rfl trivial ?_
      refine o_nil ?_
      refine D_condP rfl (fun h2 => ?_) (fun h2 => ?_)
      · rw [if_pos (by omega)] at hx
        have e : wnum b = (((n + c.toNat % 128 * 2 ^ (7 * i) : Nat) : Int), b.drop (i + 1), true) := by unfold wnum; rw [← hx]
        have e2 : ((i : Int) + 1).toNat = i + 1 := by omega
        refine D_seq ?_
        refine D_any hm ?_
        iterate 3 refine o_pu rfl rfl rfl rfl trivial ?_
        refine o_i64 rfl rfl rfl rfl trivial (by omega) ?_
        refine o_dropM B _ rfl rfl (by omega) (cells_B _) ?_
        iterate 3 refine o_pu rfl rfl rfl rfl trivial ?_
        refine o_nil ⟨rfl, ?_⟩
        refine D_ret ?_
        rw [e, e2]
        exact ⟨_, [], [], .tmp rfl (.tmp rfl (.tmp rfl (.nil _))), rfl, rfl, rfl, rfl, rfl, ⟨⟨_, rfl, .same rfl, rfl⟩, trivial⟩, trivial⟩
      · rw [if_neg (by omega)] at hx
        refine D_skip ?_
        refine D_reg ?_
        refine o_i64 rfl rfl rfl rfl trivial (by omega) ?_
        refine o_pu rfl rfl rfl rfl trivial ?_
        refine o_nil ?_
        exact ⟨⟨i + 1, n + c.toNat % 128 * 2 ^ (7 * i), by omega, by omega, q3, hx⟩, [], [], [], by simp only; omega, ⟨rfl, rfl, rfl, rfl, rfl, ⟨⟨_, rfl, .same rfl, rfl⟩, ⟨_, rfl, .same rfl, rfl⟩, ⟨_, rfl, .same rfl, rfl⟩, ⟨_, rfl, .same rfl, rfl⟩, ⟨_, rfl, .same rfl, rfl⟩, trivial⟩, trivial⟩⟩
  · have hge : i = b.length := by omega
    subst hge
    rw [List.drop_length] at hx
    have e : wnum b = (0, [], false) := by unfold wnum; rw [← hx]; rfl
    refine D_exit ?_
    refine D_seq ?_
    refine D_reg ?_
    iterate 3 refine o_pu rfl rfl rfl rfl trivial ?_
    refine o_nil ?_
    refine D_ret ?_
    rw [e]
    exact ⟨_, [], [], .tmp rfl (.tmp rfl (.tmp rfl (.nil _))), rfl, rfl, rfl, rfl, rfl, ⟨⟨_, rfl, .tup (.cons (.same rfl) (.cons .nil (.cons (.same rfl) .nil))), rfl⟩, trivial⟩, trivial⟩

/-- The same, by the reference. -/
def rtake (b : List UInt8) : Int × Nat × Bool := match vrd b 0 0 with
  | some (n, k) => (n, k, decide (k = 1) || decide (0 < (b.getD (k - 1) 0).toNat))
  | none => (0, 0, false)

include hm in
theorem ref_take {f : Nat} (ok : FnOK P f 45 Ic.ref25_Take [(2, none), (3, none), (4, none)]) (b : List UInt8) (hb : b.length < 4611686018427387904) :
    FC P f [VB b] [] (.tup [VI (rtake b).1, VI (rtake b).2.1, VT (rtake b).2.2]) [] := by
  refine ok.fc rfl rfl rfl ?_
  refine D_seq ?_
  refine D_reg ?_
  iterate 3 refine o_pu rfl rfl rfl rfl trivial ?_
  refine o_nil ?_
  refine D_seq ?_
  refine D_reg ?_
  refine o_pu rfl rfl rfl rfl trivial ?_
  refine o_nil ?_
  iterate 2 refine D_seq ?_
  refine D_reg ?_
  refine o_pu rfl rfl rfl rfl trivial ?_
  refine o_nil ?_
  refine D_block ?_
  refine D_loop (ι := VrI b) (fun x => ⟨[(0, VB b), (5, VI x.n), (6, VI x.i)], []⟩) (fun x => b.length - x.i) ⟨0, 0, by omega, by omega, by decide, rfl⟩ [] [] [] ⟨rfl, rfl, rfl, rfl, rfl, ⟨⟨_, rfl, .same rfl, rfl⟩, ⟨_, rfl, .same rfl, rfl⟩, ⟨_, rfl, .same rfl, rfl⟩, trivial⟩, trivial⟩ (fun x => ?_)
  obtain ⟨i, n, hi, h9, hn, hx⟩ := x
  simp only
  refine D_seq (D_seq (D_reg ?_))
  iterate 2 refine o_pu rfl rfl rfl rfl trivial ?_
  refine o_lenM _ _ rfl rfl ?_
  iterate 2 refine o_pu rfl rfl rfl rfl trivial ?_
  refine o_brgP rfl (fun hlt => ?_) (fun hlt => ?_)
  · have hlt : i < b.length := by omega
    rw [drop_cons 0 hlt] at hx
    simp only [vrd] at hx
    iterate 3 refine o_pu rfl rfl rfl rfl trivial ?_
    refine o_nil ?_
    refine D_condP rfl (fun h => ?_) (fun h => ?_)
    · rw [if_neg (by omega)] at hx
      obtain ⟨q1, q2, q3⟩ := vrd_step (c := b.getD i 0) (i := i) (n := n) (by omega) hn
      refine D_skip (D_seq (D_block (D_seq (D_reg ?_))))
      refine o_pu rfl rfl rfl rfl trivial ?_
      refine o_pu rfl rfl rfl rfl trivial ?_
      refine o_pu rfl rfl rfl rfl trivial ?_
      refine o_iadM B 0 _ rfl rfl (by omega) rfl ?_
      generalize hc : b.getD i 0 = c at *
      have hc' : b.getD (i : Int).toNat 0 = c := hc
      rw [hc']
      refine o_ldB rfl rfl ?_
      refine o_and7n rfl rfl ?_
      refine o_i64 rfl rfl rfl rfl trivial (by omega) ?_
      refine o_pu rfl rfl rfl rfl trivial ?_
      refine o_i64 rfl rfl rfl rfl trivial (by omega) ?_
      refine o_shlN (7 * i) rfl rfl ⟨by omega, by omega⟩ q1 ?_
      refine o_orN (7 * i) rfl rfl hn q2 ?_
      refine o_pu rfl rfl rfl rfl trivial ?_
      refine o_nil ?_
      refine D_seq ?_
      refine D_reg ?_
      iterate 2 refine o_pu rfl rfl rfl rfl trivial ?_
      refine o_iadM B 0 _ rfl rfl (by omega) rfl ?_
      refine o_ldB rfl rfl ?_
      refine o_pu rfl rfl rfl rfl trivial ?_
      refine o_nil ?_
      rw [hc']
      refine D_condP rfl (fun h2 => ?_) (fun h2 => ?_)
      · rw [if_pos (by omega)] at hx
        have e : rtake b = (((n + c.toNat % 128 * 2 ^ (7 * i) : Nat) : Int), i + 1, decide (i + 1 = 1) || decide (0 < c.toNat)) := by unfold rtake; rw [← hx]; simp only [Nat.add_sub_cancel, hc]
        rw [e]
        refine D_seq (D_any hm ?_)
        iterate 2 refine o_pu rfl rfl rfl rfl trivial ?_
        refine o_i64 rfl rfl rfl rfl trivial (by omega) ?_
        iterate 3 refine o_pu rfl rfl rfl rfl trivial ?_
        refine o_brgE rfl (fun h3 => ?_) (fun h3 => ?_)
        · have : i = 0 := by omega
          subst this
          iterate 5 refine o_skp rfl ?_
          iterate 4 refine o_pu rfl rfl rfl rfl trivial ?_
          refine o_nil ⟨rfl, ?_⟩
          refine D_ret ?_
          exact ⟨_, [], [], .tmp rfl (.tmp rfl (.tmp rfl (.nil _))), rfl, rfl, rfl, rfl, rfl, ⟨⟨_, rfl, .same rfl, rfl⟩, trivial⟩, trivial⟩
        · have e3 : decide (i + 1 = 1) = false := by simp; omega
          iterate 2 refine o_pu rfl rfl rfl rfl trivial ?_
          refine o_iadM B 0 _ rfl rfl (by omega) rfl ?_
          refine o_ldB rfl rfl ?_
          iterate 5 refine o_pu rfl rfl rfl rfl trivial ?_
          refine o_nil ⟨rfl, ?_⟩
          refine D_ret ?_
          rw [hc']
          rw [e3, Bool.false_or]
          have e4 : decide (0 < c.toNat) = decide ((c.toNat : Int) > 0) := decide_eq_decide.2 (by omega)
          rw [e4]
          exact ⟨_, [], [], .tmp rfl (.tmp rfl (.tmp rfl (.nil _))), rfl, rfl, rfl, rfl, rfl, ⟨⟨_, rfl, .same rfl, rfl⟩, trivial⟩, trivial⟩
      · rw [if_neg (by omega)] at hx
        refine D_skip ?_
        refine D_reg ?_
        refine o_pu rfl rfl rfl rfl trivial ?_
        refine o_i64 rfl rfl rfl rfl trivial (by omega) ?_
        refine o_pu rfl rfl rfl rfl trivial ?_
        refine o_nil ?_
        exact ⟨⟨i + 1, n + c.toNat % 128 * 2 ^ (7 * i), by omega, by omega, q3, hx⟩, [], [], [], by simp only; omega, ⟨rfl, rfl, rfl, rfl, rfl, ⟨⟨_, rfl, .same rfl, rfl⟩, ⟨_, rfl, .same rfl, rfl⟩, ⟨_, rfl, .same rfl, rfl⟩, trivial⟩, trivial⟩⟩
    · rw [if_pos (by omega)] at hx
      have e : rtake b = (0, 0, false) := by unfold rtake; rw [← hx]
      refine D_exit ?_
      refine D_seq ?_
      refine D_reg ?_
      iterate 3 refine o_pu rfl rfl rfl rfl trivial ?_
      refine o_nil ?_
      refine D_ret ?_
      rw [e]
      exact ⟨_, [], [], .tmp rfl (.tmp rfl (.tmp rfl (.nil _))), rfl, rfl, rfl, rfl, rfl, ⟨⟨_, rfl, .same rfl, rfl⟩, trivial⟩, trivial⟩
  · have hge : i = b.length := by omega
    subst hge
    rw [List.drop_length] at hx
    have e : rtake b = (0, 0, false) := by unfold rtake; rw [← hx]; rfl
    iterate 2 refine o_skp rfl ?_
    refine o_pu rfl rfl rfl rfl trivial ?_
    refine o_nil ?_
    refine D_condF rfl (by with_reducible rfl) ?_
    refine D_exit ?_
    refine D_seq ?_
    refine D_reg ?_
    iterate 3 refine o_pu rfl rfl rfl rfl trivial ?_
    refine o_nil ?_
    refine D_ret ?_
    rw [e]
    exact ⟨_, [], [], .tmp rfl (.tmp rfl (.tmp rfl (.nil _))), rfl, rfl, rfl, rfl, rfl, ⟨⟨_, rfl, .same rfl, rfl⟩, trivial⟩, trivial⟩

abbrev rdB (l : List UInt8) (bad : Bool) : Box := .vs 2 [[VB l, VT bad]]

/-- What the reference's reader does. -/
def rnum (l : List UInt8) (bad : Bool) : Int × List UInt8 × Bool :=
  if bad = true ∨ (rtake l).2.2 = false then (0, l, true) else ((rtake l).1, l.drop (rtake l).2.1, false)

theorem vrd_le : ∀ {b : List UInt8} {i n x k : Nat}, vrd b i n = some (x, k) → i < k ∧ k ≤ i + b.length
  | [], _, _, _, _, h => by simp [vrd] at h
  | c :: l, i, n, x, k, h => by
    simp only [vrd] at h
    split at h
    · cases h
    · split at h
      · simp only [Option.some.injEq, Prod.mk.injEq] at h
        simp; omega
      · have := vrd_le h
        simp; omega

theorem rtake_le {b : List UInt8} : (rtake b).2.1 ≤ b.length := by
  unfold rtake
  split
  · rename_i n k h
    have := vrd_le h
    simp; omega
  · simp

include hm in
theorem ref_rnum {f ft : Nat} (okt : FnOK P ft 45 Ic.ref25_Take [(2, none), (3, none), (4, none)]) (ok : FnOK P f 36 (Ic.ref33_reader_number ft) [(2, none)]) (l : List UInt8) (bad : Bool) (hl : l.length < 4611686018427387904) :
    FC P f [.ptr 1000 0 0] [(1000, some (rdB l bad))] (VI (rnum l bad).1) [(1000, some (rdB (rnum l bad).2.1 (rnum l bad).2.2))] := by
  refine ok.fc rfl rfl rfl ?_
  refine D_seq (D_reg ?_)
  refine o_pu rfl rfl rfl rfl trivial ?_
  refine o_nil ?_
  refine D_seq (D_reg ?_)
  iterate 3 refine o_pu rfl rfl rfl rfl trivial ?_
  refine o_pu rfl rfl rfl rfl ⟨rfl, Nat.zero_lt_succ _⟩ ?_
  refine o_callp (ref_take hm okt l hl) rfl rfl rfl rfl rfl ?_
  iterate 7 refine o_pu rfl rfl rfl rfl trivial ?_
  refine o_nil ?_
  have hk := rtake_le (b := l)
  refine D_seq (D_seq (D_reg ?_))
  iterate 3 refine o_pu rfl rfl rfl rfl trivial ?_
  refine o_pu rfl rfl rfl rfl ⟨rfl, Nat.zero_lt_succ _⟩ ?_
  refine o_pu rfl rfl rfl rfl trivial ?_
  cases bad with
  | true =>
    have e : rnum l true = (0, l, true) := by simp [rnum]
    rw [e]
    iterate 2 refine o_skp rfl ?_
    refine o_pu rfl rfl rfl rfl trivial ?_
    refine o_nil ?_
    refine D_condT rfl rfl ?_
    refine D_seq (D_reg ?_)
    iterate 3 refine o_pu rfl rfl rfl rfl trivial ?_
    refine o_st 0 (rdB l true) rfl rfl rfl ⟨Nat.zero_lt_succ _, rfl, by decide, rfl⟩ rfl ?_
    refine o_nil ?_
    refine D_seq ?_
    refine D_reg ?_
    refine o_pu rfl rfl rfl rfl trivial ?_
    refine o_nil ?_
    refine D_ret ?_
    exact ⟨_, [], [(1000, 1000)], .tmp rfl (.nil _), rfl, rfl, rfl, rfl, rfl, ⟨⟨_, rfl, .same rfl, rfl⟩, trivial⟩, ⟨⟨rfl, rfl, _, rfl, .same⟩, trivial⟩⟩
  | false =>
    iterate 3 refine o_pu rfl rfl rfl rfl trivial ?_
    refine o_nil ?_
    refine D_condB rfl (fun h => ?_) (fun h => ?_)
    · have e : rnum l false = (0, l, true) := by simp [rnum, h]
      rw [e]
      refine D_seq (D_reg ?_)
      iterate 3 refine o_pu rfl rfl rfl rfl trivial ?_
      refine o_st 0 (rdB l true) rfl rfl rfl ⟨Nat.zero_lt_succ _, rfl, by decide, rfl⟩ rfl ?_
      refine o_nil ?_
      refine D_seq ?_
      refine D_reg ?_
      refine o_pu rfl rfl rfl rfl trivial ?_
      refine o_nil ?_
      refine D_ret ?_
      exact ⟨_, [], [(1000, 1000)], .tmp rfl (.nil _), rfl, rfl, rfl, rfl, rfl, ⟨⟨_, rfl, .same rfl, rfl⟩, trivial⟩, ⟨⟨rfl, rfl, _, rfl, .same⟩, trivial⟩⟩
    · have e : rnum l false = ((rtake l).1, l.drop (rtake l).2.1, false) := by simp [rnum, h]
      rw [e]
      refine D_skip ?_
      refine D_seq (D_reg ?_)
      iterate 4 refine o_pu rfl rfl rfl rfl trivial ?_
      refine o_pu rfl rfl rfl rfl ⟨rfl, Nat.zero_lt_succ _⟩ ?_
      refine o_pu rfl rfl rfl rfl trivial ?_
      refine o_dropM B _ rfl rfl (by omega) (cells_B _) ?_
      iterate 2 refine o_pu rfl rfl rfl rfl trivial ?_
      refine o_st 0 (rdB (l.drop (rtake l).2.1) false) rfl rfl rfl ⟨Nat.zero_lt_succ _, rfl, by decide, rfl⟩ rfl ?_
      refine o_nil ?_
      refine D_seq ?_
      refine D_reg ?_
      iterate 2 refine o_pu rfl rfl rfl rfl trivial ?_
      refine o_nil ?_
      refine D_ret ?_
      exact ⟨_, [], [(1000, 1000)], .tmp rfl (.nil _), rfl, rfl, rfl, rfl, rfl, ⟨⟨_, rfl, .same rfl, rfl⟩, trivial⟩, ⟨⟨rfl, rfl, _, rfl, .same⟩, trivial⟩⟩
end
end Go.DW

/- The program writes the bytes of a message. -/
namespace Go.DW
set_option maxHeartbeats 4000000
section
variable {P : Program} (hm : P.follows .mixedOrders = true)

def encB (m : Msg) : List UInt8 := if validOk m = true then enc m else []
def encE (m : Msg) : Int := if validOk m = true then 0 else 330

theorem encB_ok {m : Msg} (h : validOk m = true) : encB m = enc m := if_pos h
theorem encE_ok {m : Msg} (h : validOk m = true) : encE m = 0 := if_pos h
theorem encB_no {m : Msg} (h : validOk m = false) : encB m = [] := by simp [encB, h]
theorem encE_no {m : Msg} (h : validOk m = false) : encE m = 330 := by simp [encE, h]

theorem ref_encode' {f fh fu fv fp : Nat} (hm : P.follows .mixedOrders = true) (okh : FnOK P fh 36 Ic.ref25_HostName [(2, none)]) (oku : FnOK P fu 16 Ic.ref33_uses [(2, none), (3, none), (4, none), (5, none)]) (okv : FnOK P fv 129 (Ic.ref33_Valid fh fu) [(2, none)]) (okp : FnOK P fp 21 Ic.ref25_Put [(4, none)])
    (ok : FnOK P f 70 (Ic.ref33_Encode fp fv fu) [(2, none), (3, none)]) (m : Msg) (hs : m.host.length ≤ 9223372036854775807) :
    FC P f [.p m.pv] [] (.tup [VB (encB m), VI (encE m)]) [] := by
  cases hv : validOk m with
  | true => rw [encB_ok hv, encE_ok hv]; exact ref_encode hm okh oku okv okp ok m hs hv
  | false =>
    rw [encB_no hv, encE_no hv]
    refine ok.fc rfl rfl rfl ?_
    refine D_seq (D_reg ?_)
    refine o_box (.vs 6 [m.cells.map .p]) rfl rfl rfl rfl rfl rfl ?_
    iterate 2 refine o_pu rfl rfl rfl rfl trivial ?_
    refine o_nil ?_
    refine D_seq (D_seq (D_reg ?_))
    refine o_as (.p m.pv) rfl rfl rfl rfl ⟨Nat.zero_lt_succ _, Nat.le_refl _, rfl⟩ rfl ?_
    have hvf := ref_valid okh oku okv m hs
    rw [hv] at hvf
    refine o_callp hvf rfl rfl rfl rfl rfl ?_
    refine o_notF rfl rfl (by with_reducible rfl) ?_
    refine o_nil ?_
    refine D_condT rfl (by with_reducible rfl) ?_
    refine D_seq ?_
    refine D_reg ?_
    iterate 2 refine o_pu rfl rfl rfl rfl trivial ?_
    refine o_nil ?_
    refine D_ret ?_
    exact ⟨_, [], [], .tmp rfl (.tmp rfl (.nil _)), rfl, rfl, rfl, rfl, rfl, ⟨⟨_, rfl, .tup (.cons .nil (.cons (.same rfl) .nil)), rfl⟩, trivial⟩, trivial⟩

def encField (m : Msg) (f : Int) : List UInt8 := if f = 1 then byteOf m.host.length :: m.host else if f = 2 then vint m.epoch.toNat else if f = 3 then vint m.seq.toNat else if f = 4 then vint m.to_.toNat else m.body

theorem body_nil {m : Msg} (h : validOk m = true) (hk : m.kind ≠ 3) : m.body = [] := by
  rw [validOk_eq] at h
  simp only [Bool.and_eq_true] at h
  have h4 := h.2
  rw [decide_eq_false hk] at h4
  simpa [vc4] using h4

theorem encFields {m : Msg} (hv : validOk m = true) : byteOf m.kind :: (fieldsOf m.kind).flatMap (encField m) = encBody m := by
  have hn := (nums hv).kind
  by_cases h3 : m.kind = 3
  · simp [fieldsOf, encField, encBody, encHost, encSeq, encTo, h3]
  · have hb := body_nil hv h3
    have : m.kind = 1 ∨ m.kind = 2 ∨ m.kind = 4 ∨ m.kind = 5 ∨ m.kind = 6 ∨ m.kind = 7 := by omega
    rcases this with h | h | h | h | h | h <;> simp [fieldsOf, encField, encBody, encHost, encSeq, encTo, h, hb]

theorem fieldsOf_mem {k f : Int} (h : f ∈ fieldsOf k) : (f = 1 ∧ k = 1) ∨ (f = 2 ∧ k = 1) ∨ (f = 3 ∧ 1 ≤ k ∧ k ≤ 5) ∨ (f = 4 ∧ k = 4) ∨ (f = 5 ∧ k = 3) := by
  unfold fieldsOf at h
  (repeat' split at h) <;> simp at h <;> omega

theorem encBody_len {m : Msg} (hn : Nums m) : (encBody m).length ≤ 16400 := by
  have h1 := encHost_len hn
  have h2 := encSeq_len hn
  have h3 := encTo_len hn
  have h4 := hn.body
  simp [encBody]
  omega

structure EncI (m : Msg) where
  i : Nat
  out : List UInt8
  hi : i ≤ (fieldsOf m.kind).length
  h : out ++ ((fieldsOf m.kind).drop i).flatMap (encField m) = [0, 0, 0, 0] ++ encBody m

abbrev weSt (m : Msg) (out : List UInt8) (i : Nat) : St := ⟨[(1, .ptr 1 0 0), (4, .os 500 none 0 out.length), (26, .p (.sl ((fieldsOf m.kind).map PI))), (27, VI (fieldsOf m.kind).length), (28, VI i)], [(1, some (.vs 6 [m.cells.map .p])), (500, some (.pv 1 (out.map B)))]⟩

abbrev wfSt (n : Nat) (body : List UInt8) (j : Nat) : St := ⟨[(4, .os 500 none 0 (4 + body.length)), (9, VI n), (73, VI j)], [(500, some (.pv 1 (((lenBytes n).take j ++ [0, 0, 0, 0].drop j ++ body).map B)))]⟩

theorem wf_step {n j : Nat} {body : List UInt8} (hj : j < 4) : ((lenBytes n).take j ++ [0, 0, 0, 0].drop j ++ body).set j (byteOf ((n / 2 ^ (24 - 8 * j) : Nat) : Int)) = (lenBytes n).take (j + 1) ++ [0, 0, 0, 0].drop (j + 1) ++ body := by
  have : j = 0 ∨ j = 1 ∨ j = 2 ∨ j = 3 := by omega
  rcases this with rfl | rfl | rfl | rfl <;> simp [lenBytes]

include hm in
theorem wire_encode {fi fc ff fh fw fv fz fk fa f : Nat} (oki : FnOK P fi 19 Ic.slices_Index_lint_int [(4, none)]) (okc : FnOK P fc 9 (Ic.slices_Contains_lint_int fi) [(4, none)]) (okf : FnOK P ff 22 Ic.wire_fields [(2, none), (3, none)])
    (hvalid : ∀ m : Msg, m.host.length ≤ 9223372036854775807 → FC P fk [.p m.pv] [] (VT (validOk m)) []) (oka : FnOK P fa 21 Ic.wire_appendNumber [(4, none)]) (ok : FnOK P f 87 (Ic.wire_Encode fk fa ff) [(2, none), (3, none)]) (m : Msg) (hs : m.host.length ≤ 9223372036854775807) :
    FC P f [.p m.pv] [] (.tup [VB (encB m), VI (encE m)]) [] := by
  refine ok.fc rfl rfl rfl ?_
  refine D_seq (D_reg ?_)
  refine o_box (.vs 6 [m.cells.map .p]) rfl rfl rfl rfl rfl rfl ?_
  iterate 2 refine o_pu rfl rfl rfl rfl trivial ?_
  refine o_nil ?_
  refine D_seq (D_seq (D_reg ?_))
  refine o_as (.p m.pv) rfl rfl rfl rfl ⟨Nat.zero_lt_succ _, Nat.le_refl _, rfl⟩ rfl ?_
  refine o_callp (hvalid m hs) rfl rfl rfl rfl rfl ?_
  refine o_pu rfl rfl rfl rfl trivial ?_
  refine o_nil ?_
  refine D_condB rfl (fun hv => ?_) (fun hv => ?_)
  · rw [encB_no hv, encE_no hv]
    refine D_seq ?_
    refine D_reg ?_
    iterate 2 refine o_pu rfl rfl rfl rfl trivial ?_
    refine o_nil ?_
    refine D_ret ?_
    exact ⟨_, [], [], .tmp rfl (.tmp rfl (.nil _)), rfl, rfl, rfl, rfl, rfl, ⟨⟨_, rfl, .tup (.cons .nil (.cons (.same rfl) .nil)), rfl⟩, trivial⟩, trivial⟩
  rw [encB_ok hv, encE_ok hv]
  have hn := nums hv
  have hbl := encBody_len hn
  refine D_skip ?_
  refine D_cut (ι := Unit) (fun _ => ⟨[(1, .ptr 1 0 0), (4, .os 500 none 0 ([0, 0, 0, 0] ++ [byteOf m.kind]).length)], [(1, some (.vs 6 [m.cells.map .p])), (500, some (.pv 1 (([0, 0, 0, 0] ++ [byteOf m.kind]).map B)))]⟩) (D_any hm ?_) (fun _ => ?_)
  · refine o_mksB 4 rfl rfl (by decide) rfl rfl ?_
    refine o_pu rfl rfl rfl rfl trivial ?_
    refine o_pu rfl rfl rfl rfl ⟨rfl, Nat.zero_lt_succ _⟩ ?_
    refine o_cvb rfl rfl ?_
    refine o_bs (.pv 1 ([byteOf m.kind].map B)) rfl rfl rfl rfl rfl rfl rfl rfl rfl ?_
    refine o_appM B (List.replicate 4 0) [byteOf m.kind] (c := 1 = 1) (R := [18]) rfl rfl rfl rfl rfl rfl (fun _ _ => ⟨rfl, rfl⟩) (by simp) rfl ?_
    refine o_pu rfl rfl rfl rfl trivial ?_
    refine o_nil ⟨rfl, ?_⟩
    exact ⟨(), [], [], [(1, 1), (500, 19)], ⟨rfl, rfl, rfl, rfl, rfl, ⟨⟨_, rfl, .same rfl, rfl⟩, ⟨_, rfl, .same rfl, rfl⟩, trivial⟩, ⟨⟨rfl, rfl, _, rfl, .same⟩, ⟨rfl, rfl, _, rfl, .same⟩, trivial⟩⟩⟩
  refine D_seq (D_reg ?_)
  refine o_pu rfl rfl rfl rfl trivial ?_
  refine o_pu rfl rfl rfl rfl ⟨rfl, Nat.zero_lt_succ _⟩ ?_
  refine o_callp (wire_fields okf m.kind) rfl rfl rfl rfl rfl ?_
  iterate 5 refine o_pu rfl rfl rfl rfl trivial ?_
  refine o_nil ?_
  iterate 2 refine D_seq ?_
  refine D_reg ?_
  refine o_pu rfl rfl rfl rfl trivial ?_
  refine o_lenM _ _ rfl rfl ?_
  refine o_pu rfl rfl rfl rfl trivial ?_
  refine o_nil ?_
  refine D_block ?_
  refine D_loop (ι := EncI m) (fun x => weSt m x.out x.i) (fun x => (fieldsOf m.kind).length - x.i) ⟨0, [0, 0, 0, 0] ++ [byteOf m.kind], Nat.zero_le _, by rw [List.append_assoc, List.drop_zero]; exact congrArg ([0, 0, 0, 0] ++ ·) (encFields hv)⟩ [] [] [(1, 1), (500, 500)] ⟨rfl, rfl, rfl, rfl, rfl, ⟨⟨_, rfl, .same rfl, rfl⟩, ⟨_, rfl, .same rfl, rfl⟩, ⟨_, rfl, .same rfl, rfl⟩, ⟨_, rfl, .same rfl, rfl⟩, ⟨_, rfl, .same rfl, rfl⟩, trivial⟩, ⟨⟨rfl, rfl, _, rfl, .same⟩, ⟨rfl, rfl, _, rfl, .same⟩, trivial⟩⟩ (fun x => ?_)
  obtain ⟨i, out, hi, hx⟩ := x
  unfold weSt
  simp only
  have hfl := fieldsOf_len m.kind
  have hol : out.length + (((fieldsOf m.kind).drop i).flatMap (encField m)).length ≤ 16404 := by
    have := congrArg List.length hx
    simp only [List.length_append] at this
    simp at this
    simp; omega
  refine D_seq (D_reg ?_)
  refine o_pu rfl rfl rfl rfl trivial ?_
  refine o_nil ?_
  refine D_seq (D_condP rfl (fun hlt => ?_) (fun hlt => ?_))
  · have hlt : i < (fieldsOf m.kind).length := by omega
    have hmem : (fieldsOf m.kind).getD i 0 ∈ fieldsOf m.kind := by
      simp [List.getD, hlt]
    rw [drop_cons 0 hlt, List.flatMap_cons] at hx hol
    generalize hf : (fieldsOf m.kind).getD i 0 = fl at hx hmem hol
    rw [List.length_append] at hol
    rw [← List.append_assoc] at hx
    have key : ∀ (r : Nat), ∃ (y : EncI m) (fz : List Nat) (gh km : List (Nat × Nat)), (fieldsOf m.kind).length - y.i < (fieldsOf m.kind).length - i ∧ y.out = out ++ encField m fl ∧ y.i = i + 1 := fun r => ⟨⟨i + 1, out ++ encField m fl, hlt, hx⟩, [], [], [], by simp only; omega, rfl, rfl⟩
    refine D_skip (D_seq (D_block (D_seq (D_reg ?_))))
    refine o_iadM PI 0 _ rfl rfl (by omega) rfl ?_
    have e0 : (fieldsOf m.kind).getD (i : Int).toNat 0 = fl := hf
    rw [e0]
    refine o_ld1 rfl rfl ?_
    refine o_pu rfl rfl rfl rfl trivial ?_
    refine o_nil ?_
    refine D_seq ?_
    refine D_reg ?_
    refine o_pu rfl rfl rfl rfl trivial ?_
    refine o_nil ?_
    refine D_block ?_
    refine D_seq ?_
    refine D_reg ?_
    iterate 2 refine o_pu rfl rfl rfl rfl trivial ?_
    refine o_nil ?_
    rcases fieldsOf_mem hmem with ⟨rfl, hk⟩ | ⟨rfl, hk⟩ | ⟨rfl, hk⟩ | ⟨rfl, hk⟩ | ⟨rfl, hk⟩
    · have hh : hostOk m.host = true := hn.host hk
      have e1 : encField m 1 = [byteOf m.host.length] ++ m.host := rfl
      rw [e1] at hx hol
      rw [← List.append_assoc] at hx
      simp only [List.length_append, List.length_singleton] at hol
      refine D_condT rfl rfl ?_
      refine D_any hm ?_
      iterate 2 refine o_pu rfl rfl rfl rfl trivial ?_
      refine o_pu rfl rfl rfl rfl ⟨rfl, Nat.zero_lt_succ _⟩ ?_
      refine o_pu rfl rfl rfl rfl trivial ?_
      refine o_cvb rfl rfl ?_
      refine o_bs (.pv 1 ([byteOf m.host.length].map B)) rfl rfl rfl rfl rfl rfl rfl rfl rfl ?_
      refine o_appM B out [byteOf m.host.length] (c := 1 = 1) (R := [40]) rfl rfl rfl rfl rfl rfl (fun _ _ => ⟨rfl, rfl⟩) (by simp; omega) rfl ?_
      refine o_pu rfl rfl rfl rfl trivial ?_
      refine o_pu rfl rfl rfl rfl ⟨rfl, Nat.zero_lt_succ _⟩ ?_
      refine o_appsB (out ++ [byteOf m.host.length]) m.host rfl rfl rfl rfl (by simp; omega) rfl ?_
      refine o_pu rfl rfl rfl rfl trivial ?_
      refine o_nil ⟨rfl, ?_⟩
      refine D_reg ?_
      refine o_i64 rfl rfl rfl rfl trivial (by omega) ?_
      refine o_pu rfl rfl rfl rfl trivial ?_
      refine o_nil ?_
      exact ⟨⟨i + 1, out ++ [byteOf m.host.length] ++ m.host, hlt, hx⟩, [], [], [(1, 1), (500, 44)], by simp only; omega, ⟨rfl, rfl, rfl, rfl, rfl, ⟨⟨_, rfl, .same rfl, rfl⟩, ⟨_, rfl, .same rfl, rfl⟩, ⟨_, rfl, .same rfl, rfl⟩, ⟨_, rfl, .same rfl, rfl⟩, ⟨_, rfl, .same rfl, rfl⟩, trivial⟩, ⟨⟨rfl, rfl, _, rfl, .same⟩, ⟨rfl, rfl, _, rfl, .same⟩, trivial⟩⟩⟩
    · have hep := hn.epoch hk
      have e1 : encField m 2 = vint m.epoch.toNat := rfl
      have e2 : m.epoch = (m.epoch.toNat : Int) := by omega
      rw [e1] at hx hol
      have hput := wire_num oka out m.epoch.toNat (by omega) (by omega)
      rw [← e2] at hput
      refine D_condF rfl rfl ?_
      refine D_seq ?_
      refine D_reg ?_
      iterate 2 refine o_pu rfl rfl rfl rfl trivial ?_
      refine o_nil ?_
      refine D_condT rfl (by decide) ?_
      refine D_reg ?_
      iterate 2 refine o_pu rfl rfl rfl rfl trivial ?_
      refine o_pu rfl rfl rfl rfl ⟨rfl, Nat.zero_lt_succ _⟩ ?_
      refine o_callA [] 500 hput rfl rfl (.cons (.same rfl) (.cons (.same rfl) .nil)) rfl rfl rfl rfl rfl rfl ?_
      refine o_pu rfl rfl rfl rfl trivial ?_
      refine o_nil ?_
      refine D_reg ?_
      refine o_i64 rfl rfl rfl rfl trivial (by omega) ?_
      refine o_pu rfl rfl rfl rfl trivial ?_
      refine o_nil ?_
      exact ⟨⟨i + 1, out ++ vint m.epoch.toNat, hlt, hx⟩, [], [], [(1, 1), (500, 50)], by simp only; omega, ⟨rfl, rfl, rfl, rfl, rfl, ⟨⟨_, rfl, .same rfl, rfl⟩, ⟨_, rfl, .same rfl, rfl⟩, ⟨_, rfl, .same rfl, rfl⟩, ⟨_, rfl, .same rfl, rfl⟩, ⟨_, rfl, .same rfl, rfl⟩, trivial⟩, ⟨⟨rfl, rfl, _, rfl, .same⟩, ⟨rfl, rfl, _, rfl, .same⟩, trivial⟩⟩⟩
    · have hep := hn.seq hk
      have e1 : encField m 3 = vint m.seq.toNat := rfl
      have e2 : m.seq = (m.seq.toNat : Int) := by omega
      rw [e1] at hx hol
      have hput := wire_num oka out m.seq.toNat (by omega) (by omega)
      rw [← e2] at hput
      refine D_condF rfl rfl ?_
      refine D_seq ?_
      refine D_reg ?_
      iterate 2 refine o_pu rfl rfl rfl rfl trivial ?_
      refine o_nil ?_
      refine D_condF rfl (by decide) ?_
      refine D_seq ?_
      refine D_reg ?_
      iterate 2 refine o_pu rfl rfl rfl rfl trivial ?_
      refine o_nil ?_
      refine D_condT rfl (by decide) ?_
      refine D_reg ?_
      iterate 2 refine o_pu rfl rfl rfl rfl trivial ?_
      refine o_pu rfl rfl rfl rfl ⟨rfl, Nat.zero_lt_succ _⟩ ?_
      refine o_callA [] 500 hput rfl rfl (.cons (.same rfl) (.cons (.same rfl) .nil)) rfl rfl rfl rfl rfl rfl ?_
      refine o_pu rfl rfl rfl rfl trivial ?_
      refine o_nil ?_
      refine D_reg ?_
      refine o_i64 rfl rfl rfl rfl trivial (by omega) ?_
      refine o_pu rfl rfl rfl rfl trivial ?_
      refine o_nil ?_
      exact ⟨⟨i + 1, out ++ vint m.seq.toNat, hlt, hx⟩, [], [], [(1, 1), (500, 56)], by simp only; omega, ⟨rfl, rfl, rfl, rfl, rfl, ⟨⟨_, rfl, .same rfl, rfl⟩, ⟨_, rfl, .same rfl, rfl⟩, ⟨_, rfl, .same rfl, rfl⟩, ⟨_, rfl, .same rfl, rfl⟩, ⟨_, rfl, .same rfl, rfl⟩, trivial⟩, ⟨⟨rfl, rfl, _, rfl, .same⟩, ⟨rfl, rfl, _, rfl, .same⟩, trivial⟩⟩⟩
    · have hep := hn.to_ hk
      have e1 : encField m 4 = vint m.to_.toNat := rfl
      have e2 : m.to_ = (m.to_.toNat : Int) := by omega
      rw [e1] at hx hol
      have hput := wire_num oka out m.to_.toNat (by omega) (by omega)
      rw [← e2] at hput
      refine D_condF rfl rfl ?_
      refine D_seq ?_
      refine D_reg ?_
      iterate 2 refine o_pu rfl rfl rfl rfl trivial ?_
      refine o_nil ?_
      refine D_condF rfl (by decide) ?_
      refine D_seq ?_
      refine D_reg ?_
      iterate 2 refine o_pu rfl rfl rfl rfl trivial ?_
      refine o_nil ?_
      refine D_condF rfl (by decide) ?_
      refine D_seq ?_
      refine D_reg ?_
      iterate 2 refine o_pu rfl rfl rfl rfl trivial ?_
      refine o_nil ?_
      refine D_condT rfl (by decide) ?_
      refine D_reg ?_
      iterate 2 refine o_pu rfl rfl rfl rfl trivial ?_
      refine o_pu rfl rfl rfl rfl ⟨rfl, Nat.zero_lt_succ _⟩ ?_
      refine o_callA [] 500 hput rfl rfl (.cons (.same rfl) (.cons (.same rfl) .nil)) rfl rfl rfl rfl rfl rfl ?_
      refine o_pu rfl rfl rfl rfl trivial ?_
      refine o_nil ?_
      refine D_reg ?_
      refine o_i64 rfl rfl rfl rfl trivial (by omega) ?_
      refine o_pu rfl rfl rfl rfl trivial ?_
      refine o_nil ?_
      exact ⟨⟨i + 1, out ++ vint m.to_.toNat, hlt, hx⟩, [], [], [(1, 1), (500, 62)], by simp only; omega, ⟨rfl, rfl, rfl, rfl, rfl, ⟨⟨_, rfl, .same rfl, rfl⟩, ⟨_, rfl, .same rfl, rfl⟩, ⟨_, rfl, .same rfl, rfl⟩, ⟨_, rfl, .same rfl, rfl⟩, ⟨_, rfl, .same rfl, rfl⟩, trivial⟩, ⟨⟨rfl, rfl, _, rfl, .same⟩, ⟨rfl, rfl, _, rfl, .same⟩, trivial⟩⟩⟩
    · have e1 : encField m 5 = m.body := rfl
      rw [e1] at hx hol
      refine D_condF rfl rfl ?_
      refine D_seq ?_
      refine D_reg ?_
      iterate 2 refine o_pu rfl rfl rfl rfl trivial ?_
      refine o_nil ?_
      refine D_condF rfl (by decide) ?_
      refine D_seq ?_
      refine D_reg ?_
      iterate 2 refine o_pu rfl rfl rfl rfl trivial ?_
      refine o_nil ?_
      refine D_condF rfl (by decide) ?_
      refine D_seq ?_
      refine D_reg ?_
      iterate 2 refine o_pu rfl rfl rfl rfl trivial ?_
      refine o_nil ?_
      refine D_condF rfl (by decide) ?_
      refine D_seq ?_
      refine D_reg ?_
      iterate 2 refine o_pu rfl rfl rfl rfl trivial ?_
      refine o_nil ?_
      refine D_condT rfl (by decide) ?_
      refine D_reg ?_
      iterate 2 refine o_pu rfl rfl rfl rfl trivial ?_
      refine o_pu rfl rfl rfl rfl ⟨rfl, Nat.zero_lt_succ _⟩ ?_
      refine o_appM B out m.body (c := True) (R := []) rfl rfl rfl rfl rfl trivial (fun _ _ => ⟨rfl, rfl⟩) (by omega) rfl ?_
      refine o_pu rfl rfl rfl rfl trivial ?_
      refine o_nil ?_
      refine D_reg ?_
      refine o_i64 rfl rfl rfl rfl trivial (by omega) ?_
      refine o_pu rfl rfl rfl rfl trivial ?_
      refine o_nil ?_
      exact ⟨⟨i + 1, out ++ m.body, hlt, hx⟩, [], [], [(1, 1), (500, 68)], by simp only; omega, ⟨rfl, rfl, rfl, rfl, rfl, ⟨⟨_, rfl, .same rfl, rfl⟩, ⟨_, rfl, .same rfl, rfl⟩, ⟨_, rfl, .same rfl, rfl⟩, ⟨_, rfl, .same rfl, rfl⟩, ⟨_, rfl, .same rfl, rfl⟩, trivial⟩, ⟨⟨rfl, rfl, _, rfl, .same⟩, ⟨rfl, rfl, _, rfl, .same⟩, trivial⟩⟩⟩
  · have hge : i = (fieldsOf m.kind).length := by omega
    subst hge
    rw [List.drop_length, List.flatMap_nil, List.append_nil] at hx
    subst hx
    refine D_exit ?_
    have e4 : ([0, 0, 0, 0] ++ encBody m).length = 4 + (encBody m).length := by simp; omega
    rw [e4]
    refine D_seq (D_reg ?_)
    refine o_pu rfl rfl rfl rfl trivial ?_
    refine o_pu rfl rfl rfl rfl trivial ?_
    refine o_as (VI (encBody m).length) rfl rfl rfl rfl trivial (congrArg (fun x => V.p (.i .i64 x)) ((wrap_i64 (by omega)).trans (by omega))) ?_
    refine o_pu rfl rfl rfl rfl trivial ?_
    refine o_nil ?_
    iterate 2 refine D_seq ?_
    refine D_reg ?_
    refine o_pu rfl rfl rfl rfl trivial ?_
    refine o_nil ?_
    refine D_block ?_
    refine D_loop (ι := { j : Nat // j ≤ 4 }) (fun x => wfSt (encBody m).length (encBody m) x.1) (fun x => 4 - x.1) ⟨0, by decide⟩ [] [] [(500, 500)] ⟨rfl, rfl, rfl, rfl, rfl, ⟨⟨_, rfl, .same rfl, rfl⟩, ⟨_, rfl, .same rfl, rfl⟩, ⟨_, rfl, .same rfl, rfl⟩, trivial⟩, ⟨⟨rfl, rfl, _, rfl, .same⟩, trivial⟩⟩ (fun x => ?_)
    obtain ⟨j, hj⟩ := x
    unfold wfSt
    simp only
    refine D_seq (D_reg ?_)
    refine o_pu rfl rfl rfl rfl trivial ?_
    refine o_nil ?_
    refine D_seq (D_condP rfl (fun hlt => ?_) (fun hlt => ?_))
    · have hlt : j < 4 := by omega
      refine D_skip (D_seq (D_block (D_seq (D_reg ?_))))
      iterate 2 refine o_pu rfl rfl rfl rfl trivial ?_
      refine o_nil ?_
      refine D_reg ?_
      refine o_pu rfl rfl rfl rfl trivial ?_
      refine o_pu rfl rfl rfl rfl trivial ?_
      refine o_pu rfl rfl rfl rfl trivial ?_
      refine o_pu rfl rfl rfl rfl trivial ?_
      refine o_i64 rfl rfl rfl rfl trivial (by omega) ?_
      refine o_i64 rfl rfl rfl rfl trivial (by omega) ?_
      refine o_shrN (24 - 8 * j) rfl rfl ⟨by omega, by omega⟩ ?_
      refine o_cvb rfl rfl ?_
      refine o_pu rfl rfl rfl rfl ⟨by omega, by omega, rfl⟩ ?_
      refine o_stB (((lenBytes (encBody m).length).take j ++ [0, 0, 0, 0].drop j ++ encBody m)) (i := 0 + (j : Int).toNat) rfl rfl rfl (by simp [lenBytes]; omega) ?_
      have e5 : 0 + (j : Int).toNat = j := by omega
      rw [e5, wf_step hlt]
      refine o_nil ?_
      refine D_reg ?_
      refine o_i64 rfl rfl rfl rfl trivial (by omega) ?_
      refine o_pu rfl rfl rfl rfl trivial ?_
      refine o_nil ?_
      exact ⟨⟨j + 1, hlt⟩, [], [], [(500, 500)], by simp only; omega, ⟨rfl, rfl, rfl, rfl, rfl, ⟨⟨_, rfl, .same rfl, rfl⟩, ⟨_, rfl, .same rfl, rfl⟩, ⟨_, rfl, .same rfl, rfl⟩, trivial⟩, ⟨⟨rfl, rfl, _, rfl, .same⟩, trivial⟩⟩⟩
    · have hge : j = 4 := by omega
      subst hge
      have e6 : (lenBytes (encBody m).length).take 4 ++ [0, 0, 0, 0].drop 4 ++ encBody m = enc m := rfl
      rw [e6]
      refine D_exit ?_
      refine D_seq ?_
      refine D_reg ?_
      iterate 3 refine o_pu rfl rfl rfl rfl trivial ?_
      refine o_nil ?_
      refine D_ret ?_
      exact ⟨_, [500], [], .tmp rfl (.tmp rfl (.nil _)), rfl, rfl, rfl, rfl, rfl, ⟨⟨_, rfl, .tup (.cons (.fz rfl rfl (by simp [enc, lenBytes]; omega)) (.cons (.same rfl) .nil)), rfl⟩, trivial⟩, trivial⟩
end
end Go.DW

/- The reference reads the bytes of a message. -/
namespace Go.DW
set_option maxHeartbeats 4000000
section
variable {P : Program} (hm : P.follows .mixedOrders = true)

theorem rnum_le {l : List UInt8} {bad : Bool} : (rnum l bad).2.1.length ≤ l.length := by
  unfold rnum
  split
  · simp
  · simp

def hostN (l : List UInt8) : Nat := (l.getD 0 0).toNat
def badH (k : Nat) (l : List UInt8) : Prop := k = 1 ∧ (l.length = 0 ∨ l.length - 1 < hostN l)
instance (k : Nat) (l : List UInt8) : Decidable (badH k l) := inferInstanceAs (Decidable (_ ∧ _))

abbrev DX := Msg × List UInt8 × Bool
def mk0 (k : Nat) : Msg := ⟨k, [], 0, 0, 0, []⟩
def ds1 (k : Nat) (l : List UInt8) : DX := if k = 1 then (⟨k, (l.drop 1).take (hostN l), (rnum (l.drop (1 + hostN l)) false).1, 0, 0, []⟩, (rnum (l.drop (1 + hostN l)) false).2) else (mk0 k, l, false)
def ds2 (k : Nat) (x : DX) : DX := if 1 ≤ k ∧ k ≤ 5 then ({ x.1 with seq := (rnum x.2.1 x.2.2).1 }, (rnum x.2.1 x.2.2).2) else x
def ds3 (k : Nat) (x : DX) : DX := if k = 4 then ({ x.1 with to_ := (rnum x.2.1 x.2.2).1 }, (rnum x.2.1 x.2.2).2) else x
def ds4 (k : Nat) (x : DX) : DX := if k = 3 then ({ x.1 with body := x.2.1 }, [], x.2.2) else x
def ds (k : Nat) (l : List UInt8) : DX := ds4 k (ds3 k (ds2 k (ds1 k l)))
def rdecK (k : Nat) (l : List UInt8) : Msg × Bool := if badH k l then (mk0 k, false) else ((ds k l).1, !(ds k l).2.2 && decide ((ds k l).2.1.length = 0))
def rdec (b : List UInt8) : Msg × Bool := rdecK (b.getD 0 0).toNat (b.drop 1)

theorem ds1_len {k : Nat} {l : List UInt8} : (ds1 k l).2.1.length ≤ l.length := by
  unfold ds1
  split
  · have := rnum_le (l := l.drop (1 + hostN l)) (bad := false)
    simp at this ⊢; omega
  · simp
theorem ds2_len {k : Nat} {x : DX} : (ds2 k x).2.1.length ≤ x.2.1.length := by
  unfold ds2
  split
  · exact rnum_le
  · simp
theorem ds3_len {k : Nat} {x : DX} : (ds3 k x).2.1.length ≤ x.2.1.length := by
  unfold ds3
  split
  · exact rnum_le
  · simp

abbrev zMsg : Box := .vs 6 [[.p (.i .i64 0), .p (.s []), .p (.i .i64 0), .p (.i .i64 0), .p (.i .i64 0), .nils]]
abbrev dSt (k : Nat) (m : Msg) (l : List UInt8) (bad : Bool) : St := ⟨[(2, .ptr 2 0 0), (4, .ptr 4 0 0), (5, VT (decide ((k : Int) = 1))), (6, VT (decide (1 ≤ (k : Int) ∧ (k : Int) ≤ 5))), (7, VT (decide ((k : Int) = 4))), (8, VT (decide ((k : Int) = 3))), (9, .ptr 27 0 0)],
  [(2, some zMsg), (4, some (.vs 6 [m.cells.map .p])), (27, some (rdB l bad))]⟩

include hm in
theorem ref_decode {fu fn ft f : Nat} (oku : FnOK P fu 16 Ic.ref33_uses [(2, none), (3, none), (4, none), (5, none)]) (okt : FnOK P ft 45 Ic.ref25_Take [(2, none), (3, none), (4, none)]) (okn : FnOK P fn 36 (Ic.ref33_reader_number ft) [(2, none)])
    (ok : FnOK P f 113 (Ic.ref33_decode fn fu) [(2, some (true, 6)), (3, none)]) (b : List UInt8) (hb : b.length ≤ 1000000) (h0 : 0 < b.length) :
    FC P f [VB b] [] (.tup [.p (rdec b).1.pv, VT (rdec b).2]) [] := by
  refine ok.fc rfl rfl rfl ?_
  unfold rdec
  refine D_seq (D_reg ?_)
  refine o_box zMsg rfl rfl rfl rfl rfl rfl ?_
  refine o_pu rfl rfl rfl rfl trivial ?_
  refine o_nil ?_
  refine D_seq (D_reg ?_)
  refine o_pu rfl rfl rfl rfl trivial ?_
  refine o_iadM B 0 _ rfl rfl (by omega) rfl ?_
  refine o_ldB rfl rfl ?_
  refine o_cvB rfl rfl ?_
  have ek : b.getD (0 : Int).toNat 0 = b.getD 0 0 := rfl
  rw [ek]
  generalize b.getD 0 0 = kb
  have hlen : (b.drop 1).length ≤ 1000000 := by simp; omega
  refine o_bld (.agg [.p (.i .i64 kb.toNat), .p (.s []), .p (.i .i64 0), .p (.i .i64 0), .p (.i .i64 0), .nils]) rfl rfl rfl rfl rfl rfl ?_
  refine o_box zMsg rfl rfl rfl rfl rfl rfl ?_
  refine o_st 0 (.vs 6 [[.p (.i .i64 kb.toNat), .p (.s []), .p (.i .i64 0), .p (.i .i64 0), .p (.i .i64 0), .nils]]) rfl rfl rfl ⟨Nat.zero_lt_succ _, rfl, by decide, rfl⟩ rfl ?_
  refine o_nil ?_
  refine D_seq ?_
  refine D_reg ?_
  refine o_pu rfl rfl rfl rfl trivial ?_
  refine o_pu rfl rfl rfl rfl ⟨rfl, Nat.zero_lt_succ _⟩ ?_
  refine o_callp (ref_uses oku kb.toNat) rfl rfl rfl rfl rfl ?_
  iterate 9 refine o_pu rfl rfl rfl rfl trivial ?_
  refine o_nil ?_
  refine D_seq ?_
  refine D_reg ?_
  refine o_pu rfl rfl rfl rfl trivial ?_
  refine o_dropM B _ rfl rfl (by omega) (cells_B _) ?_
  have e1 : b.drop (1 : Int).toNat = b.drop 1 := rfl
  rw [e1]
  generalize b.drop 1 = l at hlen ⊢
  generalize kb.toNat = k
  refine o_bld (.p (.ag [.sl (l.map B), .b false])) rfl rfl rfl rfl rfl rfl ?_
  refine o_box (rdB l false) rfl rfl rfl rfl rfl rfl ?_
  refine o_pu rfl rfl rfl rfl trivial ?_
  refine o_nil ?_
  refine D_weak [] [] [(2, 2), (4, 4), (27, 27)] (T := dSt k (mk0 k) l false) ⟨rfl, rfl, rfl, rfl, rfl, ⟨⟨_, rfl, .same rfl, rfl⟩, ⟨_, rfl, .same rfl, rfl⟩, ⟨_, rfl, .same rfl, rfl⟩, ⟨_, rfl, .same rfl, rfl⟩, ⟨_, rfl, .same rfl, rfl⟩, ⟨_, rfl, .same rfl, rfl⟩, ⟨_, rfl, .same rfl, rfl⟩, trivial⟩,
    ⟨⟨rfl, rfl, _, rfl, .same⟩, ⟨rfl, rfl, _, rfl, .one (.cons (.same rfl) (.cons (.same rfl) (.cons (.same rfl) (.cons (.same rfl) (.cons (.same rfl) (.cons .nil .nil))))))⟩, ⟨rfl, rfl, _, rfl, .same⟩, trivial⟩⟩ ?_
  refine D_cut (ι := { _u : Unit // ¬ badH k l }) (fun _ => dSt k (ds1 k l).1 (ds1 k l).2.1 (ds1 k l).2.2) (D_seq (D_reg ?_)) (fun hbad => ?_)
  · by_cases hk : k = 1
    · unfold dSt
      rw [decide_eq_true (show (k : Int) = 1 by omega)]
      refine o_pu rfl rfl rfl rfl trivial ?_
      refine o_nil ?_
      refine D_condT rfl rfl ?_
      refine D_seq (D_seq (D_any hm ?_))
      iterate 3 refine o_pu rfl rfl rfl rfl trivial ?_
      refine o_pu rfl rfl rfl rfl ⟨rfl, Nat.zero_lt_succ _⟩ ?_
      refine o_lenM _ _ rfl rfl ?_
      iterate 2 refine o_pu rfl rfl rfl rfl trivial ?_
      refine o_brgE rfl (fun h1 => ?_) (fun h1 => ?_)
      · have hh : badH k l := ⟨hk, .inl (by omega)⟩
        have e : rdecK k l = (mk0 k, false) := by simp [rdecK, hh]
        rw [e]
        iterate 14 refine o_skp rfl ?_
        refine o_pu rfl rfl rfl rfl trivial ?_
        refine o_nil ⟨rfl, ?_⟩
        refine D_condT rfl (by with_reducible rfl) ?_
        refine D_seq ?_
        refine D_reg ?_
        refine o_as (.p (mk0 k).pv) rfl rfl rfl rfl ⟨Nat.zero_lt_succ _, Nat.le_refl _, rfl⟩ rfl ?_
        refine o_st 0 (.vs 6 [(mk0 k).cells.map .p]) rfl rfl rfl ⟨Nat.zero_lt_succ _, rfl, by decide, rfl⟩ rfl ?_
        refine o_pu rfl rfl rfl rfl trivial ?_
        refine o_nil ?_
        refine D_ret ?_
        exact ⟨_, [], [], .cell 0 rfl rfl ⟨Nat.zero_lt_succ _, Nat.le_refl _, rfl⟩ (.tmp rfl (.nil _)), rfl, rfl, rfl, rfl, rfl, ⟨⟨_, rfl, .same rfl, rfl⟩, trivial⟩, trivial⟩
      · iterate 3 refine o_pu rfl rfl rfl rfl trivial ?_
        refine o_pu rfl rfl rfl rfl ⟨rfl, Nat.zero_lt_succ _⟩ ?_
        refine o_iadM B 0 _ rfl rfl (by omega) rfl ?_
        refine o_ldB rfl rfl ?_
        refine o_cvB rfl rfl ?_
        iterate 3 refine o_pu rfl rfl rfl rfl trivial ?_
        refine o_pu rfl rfl rfl rfl ⟨rfl, Nat.zero_lt_succ _⟩ ?_
        refine o_lenM _ _ rfl rfl ?_
        refine o_i64 rfl rfl rfl rfl trivial (by omega) ?_
        iterate 2 refine o_pu rfl rfl rfl rfl trivial ?_
        refine o_nil ⟨rfl, ?_⟩
        have e0 : l.getD (0 : Int).toNat 0 = l.getD 0 0 := rfl
        rw [e0]
        have e2 : hostN l = (l.getD 0 0).toNat := rfl
        generalize hg : l.getD 0 0 = c at *
        refine D_condP rfl (fun h2 => ?_) (fun h2 => ?_)
        · have hh : badH k l := ⟨hk, .inr (by omega)⟩
          have e : rdecK k l = (mk0 k, false) := by simp [rdecK, hh]
          rw [e]
          refine D_seq (D_reg ?_)
          refine o_as (.p (mk0 k).pv) rfl rfl rfl rfl ⟨Nat.zero_lt_succ _, Nat.le_refl _, rfl⟩ rfl ?_
          refine o_st 0 (.vs 6 [(mk0 k).cells.map .p]) rfl rfl rfl ⟨Nat.zero_lt_succ _, rfl, by decide, rfl⟩ rfl ?_
          refine o_pu rfl rfl rfl rfl trivial ?_
          refine o_nil ?_
          refine D_ret ?_
          exact ⟨_, [], [], .cell 0 rfl rfl ⟨Nat.zero_lt_succ _, Nat.le_refl _, rfl⟩ (.tmp rfl (.nil _)), rfl, rfl, rfl, rfl, rfl, ⟨⟨_, rfl, .same rfl, rfl⟩, trivial⟩, trivial⟩
        · have hh : ¬ badH k l := fun hq => by rcases hq.2 with q | q <;> omega
          have hcl := c.toNat_lt
          have hcl2 : (l.getD (0 : Int).toNat 0).toNat < 256 := UInt8.toNat_lt _
          refine D_skip (D_seq (D_reg ?_))
          iterate 3 refine o_pu rfl rfl rfl rfl trivial ?_
          refine o_pu rfl rfl rfl rfl ⟨rfl, Nat.zero_lt_succ _⟩ ?_
          refine o_iadM B 0 _ rfl rfl (by omega) rfl ?_
          refine o_ldB rfl rfl ?_
          refine o_cvB rfl rfl ?_
          refine o_i64 rfl rfl rfl rfl trivial (by omega) ?_
          refine o_pu rfl rfl rfl rfl trivial ?_
          rw [e0]
          refine o_nil ?_
          refine D_seq (D_any hm ?_)
          iterate 4 refine o_pu rfl rfl rfl rfl trivial ?_
          refine o_pu rfl rfl rfl rfl ⟨rfl, Nat.zero_lt_succ _⟩ ?_
          refine o_pu rfl rfl rfl rfl trivial ?_
          refine o_slcM B _ rfl rfl (by omega) (cells_B _) ?_
          refine o_b2sB _ rfl rfl ?_
          iterate 3 refine o_pu rfl rfl rfl rfl trivial ?_
          refine o_pu rfl rfl rfl rfl ⟨rfl, Nat.zero_lt_succ _⟩ ?_
          refine o_pu rfl rfl rfl rfl trivial ?_
          refine o_dropM B _ rfl rfl (by omega) (cells_B _) ?_
          refine o_pu rfl rfl rfl rfl trivial ?_
          refine o_st 0 (.vs 6 [({ mk0 k with host := (l.drop 1).take (hostN l) } : Msg).cells.map .p]) rfl rfl rfl ⟨Nat.zero_lt_succ _, rfl, by decide, rfl⟩ ?_ ?_
          · have e5 : (1 + (c.toNat : Int)).toNat - (1 : Int).toNat = c.toNat := by omega
            rw [e5, e2]; rfl
          iterate 2 refine o_pu rfl rfl rfl rfl trivial ?_
          refine o_st 0 (rdB (l.drop (1 + hostN l)) false) rfl rfl rfl ⟨Nat.zero_lt_succ _, rfl, by decide, rfl⟩ ?_ ?_
          · have e5 : (1 + (c.toNat : Int)).toNat = 1 + hostN l := by omega
            rw [e5]; rfl
          refine o_nil ⟨rfl, ?_⟩
          refine D_reg ?_
          refine o_pu rfl rfl rfl rfl trivial ?_
          refine o_callC [] 27 (ref_rnum hm okt okn (l.drop (1 + hostN l)) false (by simp; omega)) rfl rfl cvs_same rfl rfl rfl rfl rfl rfl ?_
          refine o_pu rfl rfl rfl rfl trivial ?_
          refine o_st 0 (.vs 6 [({ mk0 k with host := (l.drop 1).take (hostN l), epoch := (rnum (l.drop (1 + hostN l)) false).1 } : Msg).cells.map .p]) rfl rfl rfl ⟨Nat.zero_lt_succ _, rfl, by decide, rfl⟩ rfl ?_
          refine o_nil ?_
          have e6 : ds1 k l = (({ mk0 k with host := (l.drop 1).take (hostN l), epoch := (rnum (l.drop (1 + hostN l)) false).1 } : Msg), (rnum (l.drop (1 + hostN l)) false).2) := by simp [ds1, hk, mk0]
          refine ⟨⟨(), hh⟩, [], [], [(2, 2), (4, 4), (27, 27)], ?_⟩
          rw [e6]
          dsimp only
          exact ⟨rfl, rfl, rfl, rfl, rfl, ⟨⟨_, rfl, .same rfl, rfl⟩, ⟨_, rfl, .same rfl, rfl⟩, ⟨_, rfl, .same rfl, rfl⟩, ⟨_, rfl, .same rfl, rfl⟩, ⟨_, rfl, .same rfl, rfl⟩, ⟨_, rfl, .same rfl, rfl⟩, ⟨_, rfl, .same rfl, rfl⟩, trivial⟩, ⟨⟨rfl, rfl, _, rfl, .same⟩, ⟨rfl, rfl, _, rfl, .same⟩, ⟨rfl, rfl, _, rfl, .same⟩, trivial⟩⟩
    · have hh : ¬ badH k l := fun hq => hk hq.1
      have e6 : ds1 k l = (mk0 k, l, false) := by simp [ds1, hk]
      unfold dSt
      rw [decide_eq_false (show ¬ (k : Int) = 1 by omega), e6]
      dsimp only
      refine o_pu rfl rfl rfl rfl trivial ?_
      refine o_nil ?_
      refine D_condF rfl (by with_reducible rfl) ?_
      refine D_skip ?_
      exact ⟨⟨(), hh⟩, [], [], [(2, 2), (4, 4), (27, 27)], ⟨rfl, rfl, rfl, rfl, rfl, ⟨⟨_, rfl, .same rfl, rfl⟩, ⟨_, rfl, .same rfl, rfl⟩, ⟨_, rfl, .same rfl, rfl⟩, ⟨_, rfl, .same rfl, rfl⟩, ⟨_, rfl, .same rfl, rfl⟩, ⟨_, rfl, .same rfl, rfl⟩, ⟨_, rfl, .same rfl, rfl⟩, trivial⟩, ⟨⟨rfl, rfl, _, rfl, .same⟩, ⟨rfl, rfl, _, rfl, .same⟩, ⟨rfl, rfl, _, rfl, .same⟩, trivial⟩⟩⟩
  have hb' := hbad.2
  have e : rdecK k l = ((ds k l).1, !(ds k l).2.2 && decide ((ds k l).2.1.length = 0)) := by rw [rdecK, if_neg hb']
  rw [e]
  unfold ds
  have hl1 : (ds1 k l).2.1.length ≤ 1000000 := by have := ds1_len (k := k) (l := l); omega
  clear e
  revert hl1
  rcases ds1 k l with ⟨m, l, bad⟩
  intro hl1
  dsimp only at hl1 ⊢
  refine D_cut (ι := Unit) (fun _ => dSt k (ds2 k (m, l, bad)).1 (ds2 k (m, l, bad)).2.1 (ds2 k (m, l, bad)).2.2) (D_seq (D_reg ?_)) (fun _ => ?_)
  · by_cases hk : 1 ≤ k ∧ k ≤ 5
    · have e6 : ds2 k (m, l, bad) = ({ m with seq := (rnum l bad).1 }, (rnum l bad).2) := by simp [ds2, hk]
      unfold dSt
      rw [decide_eq_true (show 1 ≤ (k : Int) ∧ (k : Int) ≤ 5 by omega), e6]
      dsimp only
      refine o_pu rfl rfl rfl rfl trivial ?_
      refine o_nil ?_
      refine D_condT rfl (by with_reducible rfl) ?_
      refine D_reg ?_
      refine o_pu rfl rfl rfl rfl trivial ?_
      refine o_callC [] 27 (ref_rnum hm okt okn l bad (by omega)) rfl rfl cvs_same rfl rfl rfl rfl rfl rfl ?_
      refine o_pu rfl rfl rfl rfl trivial ?_
      refine o_st 0 (.vs 6 [({ m with seq := (rnum l bad).1 } : Msg).cells.map .p]) rfl rfl rfl ⟨Nat.zero_lt_succ _, rfl, by decide, rfl⟩ rfl ?_
      refine o_nil ?_
      exact ⟨(), [], [], [(2, 2), (4, 4), (27, 27)], ⟨rfl, rfl, rfl, rfl, rfl, ⟨⟨_, rfl, .same rfl, rfl⟩, ⟨_, rfl, .same rfl, rfl⟩, ⟨_, rfl, .same rfl, rfl⟩, ⟨_, rfl, .same rfl, rfl⟩, ⟨_, rfl, .same rfl, rfl⟩, ⟨_, rfl, .same rfl, rfl⟩, ⟨_, rfl, .same rfl, rfl⟩, trivial⟩, ⟨⟨rfl, rfl, _, rfl, .same⟩, ⟨rfl, rfl, _, rfl, .same⟩, ⟨rfl, rfl, _, rfl, .same⟩, trivial⟩⟩⟩
    · have e6 : ds2 k (m, l, bad) = (m, l, bad) := by simp [ds2, hk]
      unfold dSt
      rw [decide_eq_false (show ¬ (1 ≤ (k : Int) ∧ (k : Int) ≤ 5) by omega), e6]
      dsimp only
      refine o_pu rfl rfl rfl rfl trivial ?_
      refine o_nil ?_
      refine D_condF rfl (by with_reducible rfl) ?_
      refine D_skip ?_
      exact ⟨(), [], [], [(2, 2), (4, 4), (27, 27)], ⟨rfl, rfl, rfl, rfl, rfl, ⟨⟨_, rfl, .same rfl, rfl⟩, ⟨_, rfl, .same rfl, rfl⟩, ⟨_, rfl, .same rfl, rfl⟩, ⟨_, rfl, .same rfl, rfl⟩, ⟨_, rfl, .same rfl, rfl⟩, ⟨_, rfl, .same rfl, rfl⟩, ⟨_, rfl, .same rfl, rfl⟩, trivial⟩, ⟨⟨rfl, rfl, _, rfl, .same⟩, ⟨rfl, rfl, _, rfl, .same⟩, ⟨rfl, rfl, _, rfl, .same⟩, trivial⟩⟩⟩
  have hl2 : (ds2 k (m, l, bad)).2.1.length ≤ 1000000 := by have := ds2_len (k := k) (x := (m, l, bad)); dsimp only at this; omega
  clear hl1
  revert hl2
  rcases ds2 k (m, l, bad) with ⟨m, l, bad⟩
  intro hl2
  dsimp only at hl2 ⊢
  refine D_cut (ι := Unit) (fun _ => dSt k (ds3 k (m, l, bad)).1 (ds3 k (m, l, bad)).2.1 (ds3 k (m, l, bad)).2.2) (D_seq (D_reg ?_)) (fun _ => ?_)
  · by_cases hk : k = 4
    · have e6 : ds3 k (m, l, bad) = ({ m with to_ := (rnum l bad).1 }, (rnum l bad).2) := by simp [ds3, hk]
      unfold dSt
      rw [decide_eq_true (show (k : Int) = 4 by omega), e6]
      dsimp only
      refine o_pu rfl rfl rfl rfl trivial ?_
      refine o_nil ?_
      refine D_condT rfl (by with_reducible rfl) ?_
      refine D_reg ?_
      refine o_pu rfl rfl rfl rfl trivial ?_
      refine o_callC [] 27 (ref_rnum hm okt okn l bad (by omega)) rfl rfl cvs_same rfl rfl rfl rfl rfl rfl ?_
      refine o_pu rfl rfl rfl rfl trivial ?_
      refine o_st 0 (.vs 6 [({ m with to_ := (rnum l bad).1 } : Msg).cells.map .p]) rfl rfl rfl ⟨Nat.zero_lt_succ _, rfl, by decide, rfl⟩ rfl ?_
      refine o_nil ?_
      exact ⟨(), [], [], [(2, 2), (4, 4), (27, 27)], ⟨rfl, rfl, rfl, rfl, rfl, ⟨⟨_, rfl, .same rfl, rfl⟩, ⟨_, rfl, .same rfl, rfl⟩, ⟨_, rfl, .same rfl, rfl⟩, ⟨_, rfl, .same rfl, rfl⟩, ⟨_, rfl, .same rfl, rfl⟩, ⟨_, rfl, .same rfl, rfl⟩, ⟨_, rfl, .same rfl, rfl⟩, trivial⟩, ⟨⟨rfl, rfl, _, rfl, .same⟩, ⟨rfl, rfl, _, rfl, .same⟩, ⟨rfl, rfl, _, rfl, .same⟩, trivial⟩⟩⟩
    · have e6 : ds3 k (m, l, bad) = (m, l, bad) := by simp [ds3, hk]
      unfold dSt
      rw [decide_eq_false (show ¬ (k : Int) = 4 by omega), e6]
      dsimp only
      refine o_pu rfl rfl rfl rfl trivial ?_
      refine o_nil ?_
      refine D_condF rfl (by with_reducible rfl) ?_
      refine D_skip ?_
      exact ⟨(), [], [], [(2, 2), (4, 4), (27, 27)], ⟨rfl, rfl, rfl, rfl, rfl, ⟨⟨_, rfl, .same rfl, rfl⟩, ⟨_, rfl, .same rfl, rfl⟩, ⟨_, rfl, .same rfl, rfl⟩, ⟨_, rfl, .same rfl, rfl⟩, ⟨_, rfl, .same rfl, rfl⟩, ⟨_, rfl, .same rfl, rfl⟩, ⟨_, rfl, .same rfl, rfl⟩, trivial⟩, ⟨⟨rfl, rfl, _, rfl, .same⟩, ⟨rfl, rfl, _, rfl, .same⟩, ⟨rfl, rfl, _, rfl, .same⟩, trivial⟩⟩⟩
  have hl3 : (ds3 k (m, l, bad)).2.1.length ≤ 1000000 := by have := ds3_len (k := k) (x := (m, l, bad)); dsimp only at this; omega
  clear hl2
  revert hl3
  rcases ds3 k (m, l, bad) with ⟨m, l, bad⟩
  intro hl3
  dsimp only at hl3 ⊢
  refine D_cut (ι := Unit) (fun _ => dSt k (ds4 k (m, l, bad)).1 (ds4 k (m, l, bad)).2.1 (ds4 k (m, l, bad)).2.2) (D_seq (D_reg ?_)) (fun _ => ?_)
  · by_cases hk : k = 3
    · have e6 : ds4 k (m, l, bad) = ({ m with body := l }, [], bad) := by simp [ds4, hk]
      unfold dSt
      rw [decide_eq_true (show (k : Int) = 3 by omega), e6]
      dsimp only
      refine o_pu rfl rfl rfl rfl trivial ?_
      refine o_nil ?_
      refine D_condT rfl (by with_reducible rfl) ?_
      refine D_reg ?_
      refine o_pu rfl rfl rfl rfl trivial ?_
      refine o_bs0 rfl rfl rfl ?_
      iterate 3 refine o_pu rfl rfl rfl rfl trivial ?_
      refine o_pu rfl rfl rfl rfl ⟨rfl, Nat.zero_lt_succ _⟩ ?_
      refine o_appN B l (by_ := 1) (c := True) (R := []) rfl rfl rfl trivial (fun _ _ => ⟨rfl, rfl⟩) (by omega) rfl ?_
      refine o_pu rfl rfl rfl rfl trivial ?_
      refine o_st 0 (.vs 6 [[.p (.i .i64 m.kind), .p (.s m.host), .p (.i .i64 m.epoch), .p (.i .i64 m.seq), .p (.i .i64 m.to_), .os 95 none 0 l.length]]) rfl rfl rfl ⟨Nat.zero_lt_succ _, rfl, by decide, rfl⟩ rfl ?_
      iterate 2 refine o_pu rfl rfl rfl rfl trivial ?_
      refine o_st 0 (.vs 2 [[.nils, VT bad]]) rfl rfl rfl ⟨Nat.zero_lt_succ _, rfl, by decide, rfl⟩ rfl ?_
      refine o_nil ?_
      exact ⟨(), [95], [], [(2, 2), (4, 4), (27, 27)], rfl, rfl, rfl, rfl, rfl, ⟨⟨_, rfl, .same rfl, rfl⟩, ⟨_, rfl, .same rfl, rfl⟩, ⟨_, rfl, .same rfl, rfl⟩, ⟨_, rfl, .same rfl, rfl⟩, ⟨_, rfl, .same rfl, rfl⟩, ⟨_, rfl, .same rfl, rfl⟩, ⟨_, rfl, .same rfl, rfl⟩, trivial⟩,
        ⟨⟨rfl, rfl, _, rfl, .same⟩, ⟨rfl, rfl, _, rfl, .one (.cons (.same rfl) (.cons (.same rfl) (.cons (.same rfl) (.cons (.same rfl) (.cons (.same rfl) (.cons (.fz rfl rfl (by simp)) .nil))))))⟩, ⟨rfl, rfl, _, rfl, .one (.cons .nil (.cons (.same rfl) .nil))⟩, trivial⟩⟩
    · have e6 : ds4 k (m, l, bad) = (m, l, bad) := by simp [ds4, hk]
      unfold dSt
      rw [decide_eq_false (show ¬ (k : Int) = 3 by omega), e6]
      dsimp only
      refine o_pu rfl rfl rfl rfl trivial ?_
      refine o_nil ?_
      refine D_condF rfl (by with_reducible rfl) ?_
      refine D_skip ?_
      exact ⟨(), [], [], [(2, 2), (4, 4), (27, 27)], ⟨rfl, rfl, rfl, rfl, rfl, ⟨⟨_, rfl, .same rfl, rfl⟩, ⟨_, rfl, .same rfl, rfl⟩, ⟨_, rfl, .same rfl, rfl⟩, ⟨_, rfl, .same rfl, rfl⟩, ⟨_, rfl, .same rfl, rfl⟩, ⟨_, rfl, .same rfl, rfl⟩, ⟨_, rfl, .same rfl, rfl⟩, trivial⟩, ⟨⟨rfl, rfl, _, rfl, .same⟩, ⟨rfl, rfl, _, rfl, .same⟩, ⟨rfl, rfl, _, rfl, .same⟩, trivial⟩⟩⟩
  rcases ds4 k (m, l, bad) with ⟨m, l, bad⟩
  dsimp only
  refine D_seq (D_any hm ?_)
  refine o_as (.p m.pv) rfl rfl rfl rfl ⟨Nat.zero_lt_succ _, Nat.le_refl _, rfl⟩ rfl ?_
  cases bad with
  | true =>
    iterate 3 refine o_pu rfl rfl rfl rfl trivial ?_
    refine o_pu rfl rfl rfl rfl ⟨rfl, Nat.zero_lt_succ _⟩ ?_
    refine o_notT rfl rfl (by with_reducible rfl) ?_
    refine o_pu rfl rfl rfl rfl trivial ?_
    iterate 6 refine o_skp rfl ?_
    refine o_pu rfl rfl rfl rfl trivial ?_
    refine o_st 0 (.vs 6 [m.cells.map .p]) rfl rfl rfl ⟨Nat.zero_lt_succ _, rfl, by decide, rfl⟩ rfl ?_
    refine o_pu rfl rfl rfl rfl trivial ?_
    refine o_nil ⟨rfl, ?_⟩
    refine D_ret ?_
    exact ⟨_, [], [], .cell 0 rfl rfl ⟨Nat.zero_lt_succ _, Nat.le_refl _, rfl⟩ (.tmp rfl (.nil _)), rfl, rfl, rfl, rfl, rfl, ⟨⟨_, rfl, .same rfl, rfl⟩, trivial⟩, trivial⟩
  | false =>
    iterate 3 refine o_pu rfl rfl rfl rfl trivial ?_
    refine o_pu rfl rfl rfl rfl ⟨rfl, Nat.zero_lt_succ _⟩ ?_
    refine o_notF rfl rfl (by with_reducible rfl) ?_
    iterate 4 refine o_pu rfl rfl rfl rfl trivial ?_
    refine o_pu rfl rfl rfl rfl ⟨rfl, Nat.zero_lt_succ _⟩ ?_
    refine o_lenM _ _ rfl rfl ?_
    iterate 2 refine o_pu rfl rfl rfl rfl trivial ?_
    refine o_st 0 (.vs 6 [m.cells.map .p]) rfl rfl rfl ⟨Nat.zero_lt_succ _, rfl, by decide, rfl⟩ rfl ?_
    refine o_pu rfl rfl rfl rfl trivial ?_
    refine o_nil ⟨rfl, ?_⟩
    refine D_ret ?_
    have e7 : (!false && decide (l.length = 0)) = ((l.length : Int) == 0) := dec_eqI.symm
    rw [e7]
    exact ⟨_, [], [], .cell 0 rfl rfl ⟨Nat.zero_lt_succ _, Nat.le_refl _, rfl⟩ (.tmp rfl (.nil _)), rfl, rfl, rfl, rfl, rfl, ⟨⟨_, rfl, .same rfl, rfl⟩, trivial⟩, trivial⟩
end
end Go.DW

/- The program reads the bytes of a message. -/
namespace Go.DW
set_option maxHeartbeats 4000000
section
variable {P : Program} (hm : P.follows .mixedOrders = true)

theorem bytes_equal {f : Nat} (ok : FnOK P f 10 Ic.bytes_Equal [(4, none)]) (a b : List UInt8) : FC P f [VB a, VB b] [] (VT (a == b)) [] := by
  refine ok.fc rfl rfl rfl ?_
  refine D_seq ?_
  refine D_reg ?_
  refine o_pu rfl rfl rfl rfl trivial ?_
  refine o_nil ?_
  refine D_seq ?_
  refine D_reg ?_
  refine o_pu rfl rfl rfl rfl trivial ?_
  refine o_b2sB _ rfl rfl ?_
  refine o_pu rfl rfl rfl rfl trivial ?_
  refine o_b2sB _ rfl rfl ?_
  iterate 2 refine o_pu rfl rfl rfl rfl trivial ?_
  refine o_nil ?_
  refine D_ret ?_
  exact ⟨_, [], [], .tmp rfl (.nil _), rfl, rfl, rfl, rfl, rfl, ⟨⟨_, rfl, .same rfl, rfl⟩, trivial⟩, trivial⟩

def wstep (f : Int) (m : Msg) (r : List UInt8) : Option (Msg × List UInt8) :=
  if f = 1 then (if r.length = 0 ∨ r.length ≤ hostN r then none else some ({ m with host := (r.drop 1).take (hostN r) }, r.drop (1 + hostN r)))
  else if f = 2 then (if (wnum r).2.2 = true then some ({ m with epoch := (wnum r).1 }, (wnum r).2.1) else none)
  else if f = 3 then (if (wnum r).2.2 = true then some ({ m with seq := (wnum r).1 }, (wnum r).2.1) else none)
  else if f = 4 then (if (wnum r).2.2 = true then some ({ m with to_ := (wnum r).1 }, (wnum r).2.1) else none)
  else some ({ m with body := r }, [])

def wfold : List Int → Msg → List UInt8 → Option (Msg × List UInt8)
  | [], m, r => some (m, r)
  | f :: fs, m, r => match wstep f m r with
    | none => none
    | some (m', r') => wfold fs m' r'

def wdecK (k : Nat) (l b : List UInt8) : Option Msg := if 1 ≤ k ∧ k ≤ 7 then (match wfold (fieldsOf k) (mk0 k) l with
  | some (m, _) => if validOk m = true ∧ b = enc m then some m else none
  | none => none) else none
def wdec (b : List UInt8) : Option Msg := wdecK (b.getD 4 0).toNat (b.drop 5) b

def optM : Option Msg → Msg
  | some m => m
  | none => mk0 0

theorem wnum_le {b : List UInt8} : (wnum b).2.1.length ≤ b.length := by
  unfold wnum
  split <;> simp

structure WdI (k : Nat) (l : List UInt8) where
  i : Nat
  m : Msg
  r : List UInt8
  hi : i ≤ (fieldsOf k).length
  h1 : m.host.length ≤ 1000000
  h2 : r.length ≤ 1000000
  h : wfold ((fieldsOf k).drop i) m r = wfold (fieldsOf k) (mk0 k) l

abbrev wdSt (k : Nat) (b : List UInt8) (m : Msg) (r : List UInt8) (i : Nat) : St := ⟨[(0, VB b), (2, .ptr 2 0 0), (4, .ptr 4 0 0), (5, VB r), (7, VT (decide (1 ≤ (k : Int) ∧ (k : Int) ≤ 7))), (26, .p (.sl ((fieldsOf k).map PI))), (27, VI (fieldsOf k).length), (28, VI i)], [(2, some zMsg), (4, some (.vs 6 [m.cells.map .p]))]⟩

include hm in
theorem wire_decode {ff fn fe fq f : Nat} (okf : FnOK P ff 22 Ic.wire_fields [(2, none), (3, none)]) (okn : FnOK P fn 33 Ic.wire_number [(2, none), (3, none), (4, none)]) (okq : FnOK P fq 10 Ic.bytes_Equal [(4, none)])
    (henc : ∀ m : Msg, m.host.length ≤ 9223372036854775807 → FC P fe [.p m.pv] [] (.tup [VB (encB m), VI (encE m)]) [])
    (ok : FnOK P f 117 (Ic.wire_decode fq fe ff fn) [(2, some (true, 6)), (3, none)]) (b : List UInt8) (hb : b.length ≤ 1000000) (h0 : 4 < b.length) :
    FC P f [VB b] [] (.tup [.p (optM (wdec b)).pv, VT (wdec b).isSome]) [] := by
  refine ok.fc rfl rfl rfl ?_
  unfold wdec
  refine D_seq (D_reg ?_)
  refine o_box zMsg rfl rfl rfl rfl rfl rfl ?_
  refine o_pu rfl rfl rfl rfl trivial ?_
  refine o_nil ?_
  refine D_seq (D_reg ?_)
  refine o_pu rfl rfl rfl rfl trivial ?_
  refine o_iadM B 0 _ rfl rfl (by omega) rfl ?_
  refine o_ldB rfl rfl ?_
  refine o_cvB rfl rfl ?_
  have ek : b.getD (4 : Int).toNat 0 = b.getD 4 0 := rfl
  rw [ek]
  generalize b.getD 4 0 = kb
  have hlen : (b.drop 5).length ≤ 1000000 := by simp; omega
  refine o_bld (.agg [.p (.i .i64 kb.toNat), .p (.s []), .p (.i .i64 0), .p (.i .i64 0), .p (.i .i64 0), .nils]) rfl rfl rfl rfl rfl rfl ?_
  refine o_box zMsg rfl rfl rfl rfl rfl rfl ?_
  refine o_st 0 (.vs 6 [[.p (.i .i64 kb.toNat), .p (.s []), .p (.i .i64 0), .p (.i .i64 0), .p (.i .i64 0), .nils]]) rfl rfl rfl ⟨Nat.zero_lt_succ _, rfl, by decide, rfl⟩ rfl ?_
  refine o_nil ?_
  refine D_seq ?_
  refine D_reg ?_
  refine o_pu rfl rfl rfl rfl trivial ?_
  refine o_dropM B _ rfl rfl (by omega) (cells_B _) ?_
  refine o_pu rfl rfl rfl rfl trivial ?_
  refine o_nil ?_
  refine D_seq ?_
  refine D_reg ?_
  refine o_pu rfl rfl rfl rfl trivial ?_
  refine o_pu rfl rfl rfl rfl ⟨rfl, Nat.zero_lt_succ _⟩ ?_
  refine o_callp (wire_fields okf kb.toNat) rfl rfl rfl rfl rfl ?_
  iterate 5 refine o_pu rfl rfl rfl rfl trivial ?_
  refine o_nil ?_
  iterate 2 refine D_seq ?_
  refine D_reg ?_
  refine o_pu rfl rfl rfl rfl trivial ?_
  refine o_lenM _ _ rfl rfl ?_
  refine o_pu rfl rfl rfl rfl trivial ?_
  refine o_nil ?_
  have e1 : b.drop (5 : Int).toNat = b.drop 5 := rfl
  rw [e1]
  generalize b.drop 5 = l at hlen ⊢
  generalize kb.toNat = k
  refine D_block ?_
  refine D_loop (ι := WdI k l) (fun x => wdSt k b x.m x.r x.i) (fun x => (fieldsOf k).length - x.i) ⟨0, mk0 k, l, Nat.zero_le _, by simp [mk0], hlen, by rw [List.drop_zero]⟩ [] [] [(2, 2), (4, 4)]
    ⟨rfl, rfl, rfl, rfl, rfl, ⟨⟨_, rfl, .same rfl, rfl⟩, ⟨_, rfl, .same rfl, rfl⟩, ⟨_, rfl, .same rfl, rfl⟩, ⟨_, rfl, .same rfl, rfl⟩, ⟨_, rfl, .same rfl, rfl⟩, ⟨_, rfl, .same rfl, rfl⟩, ⟨_, rfl, .same rfl, rfl⟩, ⟨_, rfl, .same rfl, rfl⟩, trivial⟩,
    ⟨⟨rfl, rfl, _, rfl, .same⟩, ⟨rfl, rfl, _, rfl, .one (.cons (.same rfl) (.cons (.same rfl) (.cons (.same rfl) (.cons (.same rfl) (.cons (.same rfl) (.cons .nil .nil))))))⟩, trivial⟩⟩ (fun x => ?_)
  obtain ⟨i, m, r, hi, h1, h2, hx⟩ := x
  unfold wdSt
  simp only
  have hfl := fieldsOf_len k
  refine D_seq (D_reg ?_)
  refine o_pu rfl rfl rfl rfl trivial ?_
  refine o_nil ?_
  refine D_seq (D_condP rfl (fun hlt => ?_) (fun hlt => ?_))
  · have hlt : i < (fieldsOf k).length := by omega
    have hmem : (fieldsOf k).getD i 0 ∈ fieldsOf k := by
      simp [List.getD, hlt]
    have hkk : 1 ≤ (k : Int) ∧ (k : Int) ≤ 7 := by
      rcases fieldsOf_mem hmem with ⟨_, h⟩ | ⟨_, h⟩ | ⟨_, h⟩ | ⟨_, h⟩ | ⟨_, h⟩ <;> omega
    have hk : 1 ≤ k ∧ k ≤ 7 := by omega
    rw [drop_cons 0 hlt] at hx
    generalize hf : (fieldsOf k).getD i 0 = fl at hx hmem
    have hnone : wstep fl m r = none → wdecK k l b = none := fun q => by
      simp only [wfold, q] at hx
      simp only [wdecK, if_pos hk, ← hx]
    have hsome : ∀ m' r', wstep fl m r = some (m', r') → wfold ((fieldsOf k).drop (i + 1)) m' r' = wfold (fieldsOf k) (mk0 k) l := fun m' r' q => by
      simp only [wfold, q] at hx; exact hx
    rw [decide_eq_true hkk]
    refine D_skip (D_seq (D_block (D_seq (D_reg ?_))))
    refine o_iadM PI 0 _ rfl rfl (by omega) rfl ?_
    have e0 : (fieldsOf k).getD (i : Int).toNat 0 = fl := hf
    rw [e0]
    refine o_ld1 rfl rfl ?_
    refine o_pu rfl rfl rfl rfl trivial ?_
    refine o_nil ?_
    iterate 2 refine D_seq ?_
    refine D_reg ?_
    refine o_pu rfl rfl rfl rfl trivial ?_
    refine o_nil ?_
    refine D_block ?_
    refine D_seq ?_
    refine D_reg ?_
    iterate 2 refine o_pu rfl rfl rfl rfl trivial ?_
    refine o_nil ?_
    have hnl := wnum_le (b := r)
    rcases fieldsOf_mem hmem with ⟨rfl, _⟩ | ⟨rfl, _⟩ | ⟨rfl, _⟩ | ⟨rfl, _⟩ | ⟨rfl, _⟩
    · have hw : wstep 1 m r = if r.length = 0 ∨ r.length ≤ hostN r then none else some ({ m with host := (r.drop 1).take (hostN r) }, r.drop (1 + hostN r)) := rfl
      refine D_condT rfl rfl ?_
      refine D_seq (D_seq (D_reg ?_))
      refine o_pu rfl rfl rfl rfl trivial ?_
      refine o_lenM _ _ rfl rfl ?_
      iterate 2 refine o_pu rfl rfl rfl rfl trivial ?_
      refine o_brgE rfl (fun h3 => ?_) (fun h3 => ?_)
      · rw [hnone (by rw [hw, if_pos (.inl (by omega))])]
        iterate 7 refine o_skp rfl ?_
        refine o_pu rfl rfl rfl rfl trivial ?_
        refine o_nil ?_
        refine D_condT rfl (by with_reducible rfl) ?_
        refine D_seq ?_
        refine D_reg ?_
        refine o_bld (.agg [.p (.i .i64 0), .p (.s []), .p (.i .i64 0), .p (.i .i64 0), .p (.i .i64 0), .nils]) rfl rfl rfl rfl rfl rfl ?_
        refine o_st 0 zMsg rfl rfl rfl ⟨Nat.zero_lt_succ _, rfl, by decide, rfl⟩ rfl ?_
        refine o_pu rfl rfl rfl rfl trivial ?_
        refine o_nil ?_
        refine D_ret ?_
        exact ⟨_, [], [], .cell 0 rfl rfl ⟨Nat.zero_lt_succ _, Nat.le_refl _, rfl⟩ (.tmp rfl (.nil _)), rfl, rfl, rfl, rfl, rfl, ⟨⟨_, rfl, .tup (.cons (.aggp (.cons (.same rfl) (.cons (.same rfl) (.cons (.same rfl) (.cons (.same rfl) (.cons (.same rfl) (.cons .nil .nil))))))) (.cons (.same rfl) .nil)), rfl⟩, trivial⟩, trivial⟩
      · refine o_pu rfl rfl rfl rfl trivial ?_
        refine o_iadM B 0 _ rfl rfl (by omega) rfl ?_
        refine o_ldB rfl rfl ?_
        refine o_cvB rfl rfl ?_
        refine o_pu rfl rfl rfl rfl trivial ?_
        refine o_lenM _ _ rfl rfl ?_
        iterate 2 refine o_pu rfl rfl rfl rfl trivial ?_
        refine o_nil ?_
        have e0 : r.getD (0 : Int).toNat 0 = r.getD 0 0 := rfl
        rw [e0]
        have e2 : hostN r = (r.getD 0 0).toNat := rfl
        refine D_condP rfl (fun h4 => ?_) (fun h4 => ?_)
        · rw [hnone (by rw [hw, if_pos (.inr (by omega))])]
          refine D_seq ?_
          refine D_reg ?_
          refine o_bld (.agg [.p (.i .i64 0), .p (.s []), .p (.i .i64 0), .p (.i .i64 0), .p (.i .i64 0), .nils]) rfl rfl rfl rfl rfl rfl ?_
          refine o_st 0 zMsg rfl rfl rfl ⟨Nat.zero_lt_succ _, rfl, by decide, rfl⟩ rfl ?_
          refine o_pu rfl rfl rfl rfl trivial ?_
          refine o_nil ?_
          refine D_ret ?_
          exact ⟨_, [], [], .cell 0 rfl rfl ⟨Nat.zero_lt_succ _, Nat.le_refl _, rfl⟩ (.tmp rfl (.nil _)), rfl, rfl, rfl, rfl, rfl, ⟨⟨_, rfl, .tup (.cons (.aggp (.cons (.same rfl) (.cons (.same rfl) (.cons (.same rfl) (.cons (.same rfl) (.cons (.same rfl) (.cons .nil .nil))))))) (.cons (.same rfl) .nil)), rfl⟩, trivial⟩, trivial⟩
        · have hs := hsome _ _ (by rw [hw, if_neg (by omega)])
          have hcl : (r.getD (0 : Int).toNat 0).toNat < 256 := UInt8.toNat_lt _
          have hcl2 : (r.getD 0 0).toNat < 256 := UInt8.toNat_lt _
          refine D_skip (D_seq (D_reg ?_))
          refine o_pu rfl rfl rfl rfl trivial ?_
          refine o_iadM B 0 _ rfl rfl (by omega) rfl ?_
          refine o_ldB rfl rfl ?_
          refine o_cvB rfl rfl ?_
          refine o_pu rfl rfl rfl rfl trivial ?_
          rw [e0]
          refine o_nil ?_
          refine D_any hm ?_
          iterate 2 refine o_pu rfl rfl rfl rfl trivial ?_
          refine o_i64 rfl rfl rfl rfl trivial (by omega) ?_
          refine o_slcM B _ rfl rfl (by omega) (cells_B _) ?_
          refine o_b2sB _ rfl rfl ?_
          iterate 2 refine o_pu rfl rfl rfl rfl trivial ?_
          refine o_i64 rfl rfl rfl rfl trivial (by omega) ?_
          refine o_dropM B _ rfl rfl (by omega) (cells_B _) ?_
          refine o_pu rfl rfl rfl rfl trivial ?_
          refine o_st 0 (.vs 6 [({ m with host := (r.drop 1).take (hostN r) } : Msg).cells.map .p]) rfl rfl rfl ⟨Nat.zero_lt_succ _, rfl, by decide, rfl⟩ ?_ ?_
          · have e5 : (1 + ((r.getD 0 0).toNat : Int)).toNat - (1 : Int).toNat = hostN r := by omega
            rw [e5]; rfl
          have e6 : (1 + ((r.getD 0 0).toNat : Int)).toNat = 1 + hostN r := by omega
          rw [e6]
          refine o_pu rfl rfl rfl rfl trivial ?_
          refine o_nil ⟨rfl, ?_⟩
          refine D_seq ?_
          refine D_reg ?_
          refine o_pu rfl rfl rfl rfl trivial ?_
          refine o_notT rfl rfl (by with_reducible rfl) ?_
          refine o_nil ?_
          refine D_condF rfl (by with_reducible rfl) ?_
          refine D_skip ?_
          refine D_reg ?_
          refine o_i64 rfl rfl rfl rfl trivial (by omega) ?_
          refine o_pu rfl rfl rfl rfl trivial ?_
          refine o_nil ?_
          exact ⟨⟨i + 1, { m with host := (r.drop 1).take (hostN r) }, r.drop (1 + hostN r), hlt, by simp; omega, by simp; omega, hs⟩, [], [], [(2, 2), (4, 4)], by simp only; omega, ⟨rfl, rfl, rfl, rfl, rfl, ⟨⟨_, rfl, .same rfl, rfl⟩, ⟨_, rfl, .same rfl, rfl⟩, ⟨_, rfl, .same rfl, rfl⟩, ⟨_, rfl, .same rfl, rfl⟩, ⟨_, rfl, .same rfl, rfl⟩, ⟨_, rfl, .same rfl, rfl⟩, ⟨_, rfl, .same rfl, rfl⟩, ⟨_, rfl, .same rfl, rfl⟩, trivial⟩, ⟨⟨rfl, rfl, _, rfl, .same⟩, ⟨rfl, rfl, _, rfl, .same⟩, trivial⟩⟩⟩
    · have hw : wstep 2 m r = if (wnum r).2.2 = true then some ({ m with epoch := (wnum r).1 }, (wnum r).2.1) else none := rfl
      refine D_condF rfl (by decide) ?_
      refine D_seq ?_
      refine D_reg ?_
      iterate 2 refine o_pu rfl rfl rfl rfl trivial ?_
      refine o_nil ?_
      refine D_condT rfl (by decide) ?_
      refine D_reg ?_
      refine o_pu rfl rfl rfl rfl trivial ?_
      refine o_callp (wire_number hm okn r (by omega)) rfl rfl rfl rfl rfl ?_
      iterate 5 refine o_pu rfl rfl rfl rfl trivial ?_
      refine o_st 0 (.vs 6 [({ m with epoch := (wnum r).1 } : Msg).cells.map .p]) rfl rfl rfl ⟨Nat.zero_lt_succ _, rfl, by decide, rfl⟩ rfl ?_
      iterate 2 refine o_pu rfl rfl rfl rfl trivial ?_
      refine o_nil ?_
      refine D_seq ?_
      refine D_reg ?_
      iterate 2 refine o_pu rfl rfl rfl rfl trivial ?_
      refine o_nil ?_
      refine D_condB rfl (fun h3 => ?_) (fun h3 => ?_)
      · rw [hnone (by rw [hw, if_neg (by rw [h3]; decide)])]
        refine D_seq ?_
        refine D_reg ?_
        refine o_bld (.agg [.p (.i .i64 0), .p (.s []), .p (.i .i64 0), .p (.i .i64 0), .p (.i .i64 0), .nils]) rfl rfl rfl rfl rfl rfl ?_
        refine o_st 0 zMsg rfl rfl rfl ⟨Nat.zero_lt_succ _, rfl, by decide, rfl⟩ rfl ?_
        refine o_pu rfl rfl rfl rfl trivial ?_
        refine o_nil ?_
        refine D_ret ?_
        exact ⟨_, [], [], .cell 0 rfl rfl ⟨Nat.zero_lt_succ _, Nat.le_refl _, rfl⟩ (.tmp rfl (.nil _)), rfl, rfl, rfl, rfl, rfl, ⟨⟨_, rfl, .tup (.cons (.aggp (.cons (.same rfl) (.cons (.same rfl) (.cons (.same rfl) (.cons (.same rfl) (.cons (.same rfl) (.cons .nil .nil))))))) (.cons (.same rfl) .nil)), rfl⟩, trivial⟩, trivial⟩
      · have hs := hsome _ _ (by rw [hw, if_pos h3])
        refine D_skip ?_
        refine D_reg ?_
        refine o_i64 rfl rfl rfl rfl trivial (by omega) ?_
        refine o_pu rfl rfl rfl rfl trivial ?_
        refine o_nil ?_
        rw [h3]
        exact ⟨⟨i + 1, { m with epoch := (wnum r).1 }, (wnum r).2.1, hlt, h1, by omega, hs⟩, [], [], [(2, 2), (4, 4)], by simp only; omega, ⟨rfl, rfl, rfl, rfl, rfl, ⟨⟨_, rfl, .same rfl, rfl⟩, ⟨_, rfl, .same rfl, rfl⟩, ⟨_, rfl, .same rfl, rfl⟩, ⟨_, rfl, .same rfl, rfl⟩, ⟨_, rfl, .same rfl, rfl⟩, ⟨_, rfl, .same rfl, rfl⟩, ⟨_, rfl, .same rfl, rfl⟩, ⟨_, rfl, .same rfl, rfl⟩, trivial⟩, ⟨⟨rfl, rfl, _, rfl, .same⟩, ⟨rfl, rfl, _, rfl, .same⟩, trivial⟩⟩⟩
    · have hw : wstep 3 m r = if (wnum r).2.2 = true then some ({ m with seq := (wnum r).1 }, (wnum r).2.1) else none := rfl
      refine D_condF rfl (by decide) ?_
      refine D_seq ?_
      refine D_reg ?_
      iterate 2 refine o_pu rfl rfl rfl rfl trivial ?_
      refine o_nil ?_
      refine D_condF rfl (by decide) ?_
      refine D_seq ?_
      refine D_reg ?_
      iterate 2 refine o_pu rfl rfl rfl rfl trivial ?_
      refine o_nil ?_
      refine D_condT rfl (by decide) ?_
      refine D_reg ?_
      refine o_pu rfl rfl rfl rfl trivial ?_
      refine o_callp (wire_number hm okn r (by omega)) rfl rfl rfl rfl rfl ?_
      iterate 5 refine o_pu rfl rfl rfl rfl trivial ?_
      refine o_st 0 (.vs 6 [({ m with seq := (wnum r).1 } : Msg).cells.map .p]) rfl rfl rfl ⟨Nat.zero_lt_succ _, rfl, by decide, rfl⟩ rfl ?_
      iterate 2 refine o_pu rfl rfl rfl rfl trivial ?_
      refine o_nil ?_
      refine D_seq ?_
      refine D_reg ?_
      iterate 2 refine o_pu rfl rfl rfl rfl trivial ?_
      refine o_nil ?_
      refine D_condB rfl (fun h3 => ?_) (fun h3 => ?_)
      · rw [hnone (by rw [hw, if_neg (by rw [h3]; decide)])]
        refine D_seq ?_
        refine D_reg ?_
        refine o_bld (.agg [.p (.i .i64 0), .p (.s []), .p (.i .i64 0), .p (.i .i64 0), .p (.i .i64 0), .nils]) rfl rfl rfl rfl rfl rfl ?_
        refine o_st 0 zMsg rfl rfl rfl ⟨Nat.zero_lt_succ _, rfl, by decide, rfl⟩ rfl ?_
        refine o_pu rfl rfl rfl rfl trivial ?_
        refine o_nil ?_
        refine D_ret ?_
        exact ⟨_, [], [], .cell 0 rfl rfl ⟨Nat.zero_lt_succ _, Nat.le_refl _, rfl⟩ (.tmp rfl (.nil _)), rfl, rfl, rfl, rfl, rfl, ⟨⟨_, rfl, .tup (.cons (.aggp (.cons (.same rfl) (.cons (.same rfl) (.cons (.same rfl) (.cons (.same rfl) (.cons (.same rfl) (.cons .nil .nil))))))) (.cons (.same rfl) .nil)), rfl⟩, trivial⟩, trivial⟩
      · have hs := hsome _ _ (by rw [hw, if_pos h3])
        refine D_skip ?_
        refine D_reg ?_
        refine o_i64 rfl rfl rfl rfl trivial (by omega) ?_
        refine o_pu rfl rfl rfl rfl trivial ?_
        refine o_nil ?_
        rw [h3]
        exact ⟨⟨i + 1, { m with seq := (wnum r).1 }, (wnum r).2.1, hlt, h1, by omega, hs⟩, [], [], [(2, 2), (4, 4)], by simp only; omega, ⟨rfl, rfl, rfl, rfl, rfl, ⟨⟨_, rfl, .same rfl, rfl⟩, ⟨_, rfl, .same rfl, rfl⟩, ⟨_, rfl, .same rfl, rfl⟩, ⟨_, rfl, .same rfl, rfl⟩, ⟨_, rfl, .same rfl, rfl⟩, ⟨_, rfl, .same rfl, rfl⟩, ⟨_, rfl, .same rfl, rfl⟩, ⟨_, rfl, .same rfl, rfl⟩, trivial⟩, ⟨⟨rfl, rfl, _, rfl, .same⟩, ⟨rfl, rfl, _, rfl, .same⟩, trivial⟩⟩⟩
    · have hw : wstep 4 m r = if (wnum r).2.2 = true then some ({ m with to_ := (wnum r).1 }, (wnum r).2.1) else none := rfl
      refine D_condF rfl (by decide) ?_
      refine D_seq ?_
      refine D_reg ?_
      iterate 2 refine o_pu rfl rfl rfl rfl trivial ?_
      refine o_nil ?_
      refine D_condF rfl (by decide) ?_
      refine D_seq ?_
      refine D_reg ?_
      iterate 2 refine o_pu rfl rfl rfl rfl trivial ?_
      refine o_nil ?_
      refine D_condF rfl (by decide) ?_
      refine D_seq ?_
      refine D_reg ?_
      iterate 2 refine o_pu rfl rfl rfl rfl trivial ?_
      refine o_nil ?_
      refine D_condT rfl (by decide) ?_
      refine D_reg ?_
      refine o_pu rfl rfl rfl rfl trivial ?_
      refine o_callp (wire_number hm okn r (by omega)) rfl rfl rfl rfl rfl ?_
      iterate 5 refine o_pu rfl rfl rfl rfl trivial ?_
      refine o_st 0 (.vs 6 [({ m with to_ := (wnum r).1 } : Msg).cells.map .p]) rfl rfl rfl ⟨Nat.zero_lt_succ _, rfl, by decide, rfl⟩ rfl ?_
      iterate 2 refine o_pu rfl rfl rfl rfl trivial ?_
      refine o_nil ?_
      refine D_seq ?_
      refine D_reg ?_
      iterate 2 refine o_pu rfl rfl rfl rfl trivial ?_
      refine o_nil ?_
      refine D_condB rfl (fun h3 => ?_) (fun h3 => ?_)
      · rw [hnone (by rw [hw, if_neg (by rw [h3]; decide)])]
        refine D_seq ?_
        refine D_reg ?_
        refine o_bld (.agg [.p (.i .i64 0), .p (.s []), .p (.i .i64 0), .p (.i .i64 0), .p (.i .i64 0), .nils]) rfl rfl rfl rfl rfl rfl ?_
        refine o_st 0 zMsg rfl rfl rfl ⟨Nat.zero_lt_succ _, rfl, by decide, rfl⟩ rfl ?_
        refine o_pu rfl rfl rfl rfl trivial ?_
        refine o_nil ?_
        refine D_ret ?_
        exact ⟨_, [], [], .cell 0 rfl rfl ⟨Nat.zero_lt_succ _, Nat.le_refl _, rfl⟩ (.tmp rfl (.nil _)), rfl, rfl, rfl, rfl, rfl, ⟨⟨_, rfl, .tup (.cons (.aggp (.cons (.same rfl) (.cons (.same rfl) (.cons (.same rfl) (.cons (.same rfl) (.cons (.same rfl) (.cons .nil .nil))))))) (.cons (.same rfl) .nil)), rfl⟩, trivial⟩, trivial⟩
      · have hs := hsome _ _ (by rw [hw, if_pos h3])
        refine D_skip ?_
        refine D_reg ?_
        refine o_i64 rfl rfl rfl rfl trivial (by omega) ?_
        refine o_pu rfl rfl rfl rfl trivial ?_
        refine o_nil ?_
        rw [h3]
        exact ⟨⟨i + 1, { m with to_ := (wnum r).1 }, (wnum r).2.1, hlt, h1, by omega, hs⟩, [], [], [(2, 2), (4, 4)], by simp only; omega, ⟨rfl, rfl, rfl, rfl, rfl, ⟨⟨_, rfl, .same rfl, rfl⟩, ⟨_, rfl, .same rfl, rfl⟩, ⟨_, rfl, .same rfl, rfl⟩, ⟨_, rfl, .same rfl, rfl⟩, ⟨_, rfl, .same rfl, rfl⟩, ⟨_, rfl, .same rfl, rfl⟩, ⟨_, rfl, .same rfl, rfl⟩, ⟨_, rfl, .same rfl, rfl⟩, trivial⟩, ⟨⟨rfl, rfl, _, rfl, .same⟩, ⟨rfl, rfl, _, rfl, .same⟩, trivial⟩⟩⟩
    · have hs := hsome _ _ (show wstep 5 m r = some ({ m with body := r }, []) from rfl)
      refine D_condF rfl (by decide) ?_
      refine D_seq ?_
      refine D_reg ?_
      iterate 2 refine o_pu rfl rfl rfl rfl trivial ?_
      refine o_nil ?_
      refine D_condF rfl (by decide) ?_
      refine D_seq ?_
      refine D_reg ?_
      iterate 2 refine o_pu rfl rfl rfl rfl trivial ?_
      refine o_nil ?_
      refine D_condF rfl (by decide) ?_
      refine D_seq ?_
      refine D_reg ?_
      iterate 2 refine o_pu rfl rfl rfl rfl trivial ?_
      refine o_nil ?_
      refine D_condF rfl (by decide) ?_
      refine D_seq ?_
      refine D_reg ?_
      iterate 2 refine o_pu rfl rfl rfl rfl trivial ?_
      refine o_nil ?_
      refine D_condT rfl (by decide) ?_
      refine D_reg ?_
      refine o_pu rfl rfl rfl rfl trivial ?_
      refine o_appN B r (by_ := 1) (c := True) (R := []) rfl rfl rfl trivial (fun _ _ => ⟨rfl, rfl⟩) (by omega) rfl ?_
      refine o_pu rfl rfl rfl rfl trivial ?_
      refine o_st 0 (.vs 6 [[.p (.i .i64 m.kind), .p (.s m.host), .p (.i .i64 m.epoch), .p (.i .i64 m.seq), .p (.i .i64 m.to_), .os 92 none 0 r.length]]) rfl rfl rfl ⟨Nat.zero_lt_succ _, rfl, by decide, rfl⟩ rfl ?_
      refine o_pu rfl rfl rfl rfl trivial ?_
      refine o_nil ?_
      refine D_seq ?_
      refine D_reg ?_
      refine o_pu rfl rfl rfl rfl trivial ?_
      refine o_notT rfl rfl (by with_reducible rfl) ?_
      refine o_nil ?_
      refine D_condF rfl (by with_reducible rfl) ?_
      refine D_skip ?_
      refine D_reg ?_
      refine o_i64 rfl rfl rfl rfl trivial (by omega) ?_
      refine o_pu rfl rfl rfl rfl trivial ?_
      refine o_nil ?_
      refine ⟨⟨i + 1, { m with body := r }, [], hlt, h1, by simp, hs⟩, [92], [], [(2, 2), (4, 4)], by simp only; omega, rfl, rfl, rfl, rfl, rfl, ⟨⟨_, rfl, .same rfl, rfl⟩, ⟨_, rfl, .same rfl, rfl⟩, ⟨_, rfl, .same rfl, rfl⟩, ⟨_, rfl, .nil, rfl⟩, ⟨_, rfl, .same rfl, rfl⟩, ⟨_, rfl, .same rfl, rfl⟩, ⟨_, rfl, .same rfl, rfl⟩, ⟨_, rfl, .same rfl, rfl⟩, trivial⟩,
        ⟨⟨rfl, rfl, _, rfl, .same⟩, ⟨rfl, rfl, _, rfl, .one (.cons (.same rfl) (.cons (.same rfl) (.cons (.same rfl) (.cons (.same rfl) (.cons (.same rfl) (.cons (.fz rfl rfl (by simp)) .nil))))))⟩, trivial⟩⟩
  · have hge : i = (fieldsOf k).length := by omega
    subst hge
    rw [List.drop_length] at hx
    simp only [wfold] at hx
    refine D_exit ?_
    refine D_seq (D_seq (D_reg ?_))
    refine o_as (.p m.pv) rfl rfl rfl rfl ⟨Nat.zero_lt_succ _, Nat.le_refl _, rfl⟩ rfl ?_
    refine o_callp (henc m (by omega)) rfl rfl rfl rfl rfl ?_
    iterate 5 refine o_pu rfl rfl rfl rfl trivial ?_
    refine o_nil ?_
    refine D_seq (D_reg ?_)
    iterate 3 refine o_pu rfl rfl rfl rfl trivial ?_
    by_cases hk : 1 ≤ k ∧ k ≤ 7
    · rw [decide_eq_true (show 1 ≤ (k : Int) ∧ (k : Int) ≤ 7 by omega)]
      cases hv : validOk m with
      | true =>
        rw [encE_ok hv, encB_ok hv]
        iterate 6 refine o_pu rfl rfl rfl rfl trivial ?_
        refine o_callp (bytes_equal okq b (enc m)) rfl rfl rfl rfl rfl ?_
        iterate 2 refine o_pu rfl rfl rfl rfl trivial ?_
        refine o_nil ?_
        refine D_condNS rfl (fun h3 => ?_) (fun h3 => ?_)
        · have e : wdecK k l b = none := by simp only [wdecK, if_pos hk, ← hx, hv, h3, and_false, if_false]
          rw [e]
          refine D_seq ?_
          refine D_reg ?_
          refine o_bld (.agg [.p (.i .i64 0), .p (.s []), .p (.i .i64 0), .p (.i .i64 0), .p (.i .i64 0), .nils]) rfl rfl rfl rfl rfl rfl ?_
          refine o_st 0 zMsg rfl rfl rfl ⟨Nat.zero_lt_succ _, rfl, by decide, rfl⟩ rfl ?_
          refine o_pu rfl rfl rfl rfl trivial ?_
          refine o_nil ?_
          refine D_ret ?_
          exact ⟨_, [], [], .cell 0 rfl rfl ⟨Nat.zero_lt_succ _, Nat.le_refl _, rfl⟩ (.tmp rfl (.nil _)), rfl, rfl, rfl, rfl, rfl, ⟨⟨_, rfl, .tup (.cons (.aggp (.cons (.same rfl) (.cons (.same rfl) (.cons (.same rfl) (.cons (.same rfl) (.cons (.same rfl) (.cons .nil .nil))))))) (.cons (.same rfl) .nil)), rfl⟩, trivial⟩, trivial⟩
        · have e : wdecK k l b = some m := by simp only [wdecK, if_pos hk, ← hx, hv, h3, and_self, if_true]
          rw [e]
          refine D_skip ?_
          refine D_seq ?_
          refine D_reg ?_
          refine o_as (.p m.pv) rfl rfl rfl rfl ⟨Nat.zero_lt_succ _, Nat.le_refl _, rfl⟩ rfl ?_
          refine o_st 0 (.vs 6 [m.cells.map .p]) rfl rfl rfl ⟨Nat.zero_lt_succ _, rfl, by decide, rfl⟩ rfl ?_
          refine o_pu rfl rfl rfl rfl trivial ?_
          refine o_nil ?_
          refine D_ret ?_
          exact ⟨_, [], [], .cell 0 rfl rfl ⟨Nat.zero_lt_succ _, Nat.le_refl _, rfl⟩ (.tmp rfl (.nil _)), rfl, rfl, rfl, rfl, rfl, ⟨⟨_, rfl, .same rfl, rfl⟩, trivial⟩, trivial⟩
      | false =>
        rw [encE_no hv, encB_no hv]
        have e : wdecK k l b = none := by simp only [wdecK, if_pos hk, ← hx, hv, Bool.false_eq_true, false_and, if_false]
        rw [e]
        iterate 4 refine o_pu rfl rfl rfl rfl trivial ?_
        iterate 4 refine o_skp rfl ?_
        refine o_pu rfl rfl rfl rfl trivial ?_
        refine o_nil ?_
        refine D_condT rfl (by with_reducible rfl) ?_
        refine D_seq ?_
        refine D_reg ?_
        refine o_bld (.agg [.p (.i .i64 0), .p (.s []), .p (.i .i64 0), .p (.i .i64 0), .p (.i .i64 0), .nils]) rfl rfl rfl rfl rfl rfl ?_
        refine o_st 0 zMsg rfl rfl rfl ⟨Nat.zero_lt_succ _, rfl, by decide, rfl⟩ rfl ?_
        refine o_pu rfl rfl rfl rfl trivial ?_
        refine o_nil ?_
        refine D_ret ?_
        exact ⟨_, [], [], .cell 0 rfl rfl ⟨Nat.zero_lt_succ _, Nat.le_refl _, rfl⟩ (.tmp rfl (.nil _)), rfl, rfl, rfl, rfl, rfl, ⟨⟨_, rfl, .tup (.cons (.aggp (.cons (.same rfl) (.cons (.same rfl) (.cons (.same rfl) (.cons (.same rfl) (.cons (.same rfl) (.cons .nil .nil))))))) (.cons (.same rfl) .nil)), rfl⟩, trivial⟩, trivial⟩
    · rw [decide_eq_false (show ¬ (1 ≤ (k : Int) ∧ (k : Int) ≤ 7) by omega)]
      have e : wdecK k l b = none := by simp only [wdecK, if_neg hk]
      rw [e]
      iterate 2 refine o_skp rfl ?_
      iterate 2 refine o_pu rfl rfl rfl rfl trivial ?_
      iterate 4 refine o_skp rfl ?_
      refine o_pu rfl rfl rfl rfl trivial ?_
      refine o_nil ?_
      refine D_condT rfl (by with_reducible rfl) ?_
      refine D_seq ?_
      refine D_reg ?_
      refine o_bld (.agg [.p (.i .i64 0), .p (.s []), .p (.i .i64 0), .p (.i .i64 0), .p (.i .i64 0), .nils]) rfl rfl rfl rfl rfl rfl ?_
      refine o_st 0 zMsg rfl rfl rfl ⟨Nat.zero_lt_succ _, rfl, by decide, rfl⟩ rfl ?_
      refine o_pu rfl rfl rfl rfl trivial ?_
      refine o_nil ?_
      refine D_ret ?_
      exact ⟨_, [], [], .cell 0 rfl rfl ⟨Nat.zero_lt_succ _, Nat.le_refl _, rfl⟩ (.tmp rfl (.nil _)), rfl, rfl, rfl, rfl, rfl, ⟨⟨_, rfl, .tup (.cons (.aggp (.cons (.same rfl) (.cons (.same rfl) (.cons (.same rfl) (.cons (.same rfl) (.cons (.same rfl) (.cons .nil .nil))))))) (.cons (.same rfl) .nil)), rfl⟩, trivial⟩, trivial⟩
end
end Go.DW
