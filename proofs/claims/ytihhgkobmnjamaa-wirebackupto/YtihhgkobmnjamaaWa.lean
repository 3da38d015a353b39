/- The helpers that make values of numbers. -/
import Derived.Test.YtihhgkobmnjamaaIc
namespace Go.DW

abbrev VB (l : List UInt8) : V := .p (.sl (l.map B))
abbrev VI (n : Int) : V := .p (.i .i64 n)
abbrev VT (b : Bool) : V := .p (.b b)
abbrev VS (l : List UInt8) : V := .p (.s l)
abbrev cb (l : List UInt8) (a : Nat) : Box := .vs 2 [[VB l, VI a]]

section
variable {P : Program} (hm : P.follows .mixedOrders = true)

/-! What Int returns, and what the place is then. -/
def kInt (l : List UInt8) (a : Nat) (n : Int) : Int × Nat := if n < 2 ∨ l.length ≤ a then (0, a) else ((l.getD a 0).toNat % n, a + 1)

theorem kInt_le {l : List UInt8} {a : Nat} {n : Int} (ha : a ≤ l.length) : (kInt l a n).2 ≤ l.length := by
  unfold kInt; split <;> simp <;> omega

theorem kInt_ge {l : List UInt8} {a : Nat} {n : Int} : a ≤ (kInt l a n).2 := by
  unfold kInt; split <;> simp

theorem kInt_nonneg {l : List UInt8} {a : Nat} {n : Int} : 0 ≤ (kInt l a n).1 := by
  unfold kInt
  split
  · simp
  · rename_i h
    exact Int.emod_nonneg _ (by omega)

theorem kInt_lt {l : List UInt8} {a : Nat} {n : Int} (hn : 1 ≤ n) : (kInt l a n).1 < n := by
  unfold kInt
  split
  · simp; omega
  · exact Int.emod_lt_of_pos _ (by omega)

include hm in
theorem mill_int {f : Nat} (ok : FnOK P f 40 Ic.mill_Case_Int [(4, none)]) (l : List UInt8) (a : Nat) (n : Int) (hl : l.length ≤ 1000) (ha : a ≤ l.length) :
    FC P f [.ptr 1000 0 0, VI n] [(1000, some (cb l a))] (VI (kInt l a n).1) [(1000, some (cb l (kInt l a n).2))] := by
  refine ok.fc rfl rfl rfl ?_
  refine D_seq (D_reg ?_)
  refine o_pu rfl rfl rfl rfl trivial ?_
  refine o_nil ?_
  refine D_seq (D_seq (D_any hm ?_))
  iterate 3 refine o_pu rfl rfl rfl rfl trivial ?_
  refine o_br 7 rfl (fun h => ?_) (fun h => ?_)
  · have h2 : n < 2 := by simpa using h
    have e : kInt l a n = (0, a) := by simp [kInt, h2]
    iterate 10 refine o_skp rfl ?_
    refine o_pu rfl rfl rfl rfl trivial ?_
    refine o_nil ⟨rfl, ?_⟩
    refine D_cond rfl (fun _ => ?_) (fun h => by cases h)
    refine D_seq (D_reg ?_)
    refine o_pu rfl rfl rfl rfl trivial ?_
    refine o_nil ?_
    refine D_ret ?_
    rw [e]
    exact ⟨_, [], [(1000, 1000)], .tmp rfl (.nil _), rfl, rfl, rfl, rfl, rfl, ⟨⟨_, rfl, .same rfl, rfl⟩, trivial⟩, ⟨⟨rfl, rfl, _, rfl, .same⟩, trivial⟩⟩
  · have h2 : ¬ n < 2 := by simpa using h
    iterate 3 refine o_pu rfl rfl rfl rfl trivial ?_
    refine o_pu rfl rfl rfl rfl ⟨rfl, Nat.zero_lt_succ _⟩ ?_
    iterate 3 refine o_pu rfl rfl rfl rfl trivial ?_
    refine o_pu rfl rfl rfl rfl ⟨rfl, Nat.zero_lt_succ _⟩ ?_
    refine o_lenM _ _ rfl rfl ?_
    iterate 2 refine o_pu rfl rfl rfl rfl trivial ?_
    refine o_nil ⟨rfl, ?_⟩
    refine D_cond rfl (fun h => ?_) (fun h => ?_)
    · have h3 : l.length ≤ a := by simpa using h
      have e : kInt l a n = (0, a) := by simp [kInt, h3]
      refine D_seq (D_reg ?_)
      refine o_pu rfl rfl rfl rfl trivial ?_
      refine o_nil ?_
      refine D_ret ?_
      rw [e]
      exact ⟨_, [], [(1000, 1000)], .tmp rfl (.nil _), rfl, rfl, rfl, rfl, rfl, ⟨⟨_, rfl, .same rfl, rfl⟩, trivial⟩, ⟨⟨rfl, rfl, _, rfl, .same⟩, trivial⟩⟩
    · have h3 : ¬ l.length ≤ a := by simpa using h
      have e : kInt l a n = (((l.getD a 0).toNat : Int) % n, a + 1) := by simp only [kInt, h2, h3, or_self, if_false]
      rw [e]
      refine D_skip ?_
      refine D_seq (D_reg ?_)
      iterate 3 refine o_pu rfl rfl rfl rfl trivial ?_
      refine o_pu rfl rfl rfl rfl ⟨rfl, Nat.zero_lt_succ _⟩ ?_
      refine o_i64 rfl rfl rfl rfl trivial (by omega) ?_
      iterate 2 refine o_pu rfl rfl rfl rfl trivial ?_
      refine o_st 0 (cb l (a + 1)) rfl rfl rfl ⟨Nat.zero_lt_succ _, rfl, by decide, rfl⟩ rfl ?_
      refine o_nil ?_
      refine D_seq (D_any hm ?_)
      iterate 3 refine o_pu rfl rfl rfl rfl trivial ?_
      refine o_pu rfl rfl rfl rfl ⟨rfl, Nat.zero_lt_succ _⟩ ?_
      iterate 3 refine o_pu rfl rfl rfl rfl trivial ?_
      refine o_pu rfl rfl rfl rfl ⟨rfl, Nat.zero_lt_succ _⟩ ?_
      refine o_i64 rfl rfl rfl rfl trivial (by omega) ?_
      refine o_iadM B 0 _ rfl rfl (by omega) rfl ?_
      refine o_ldB rfl rfl ?_
      refine o_cvB rfl rfl ?_
      refine o_pu rfl rfl rfl rfl trivial ?_
      refine o_rem rfl rfl (by omega) ?_
      refine o_pu rfl rfl rfl rfl trivial ?_
      refine o_nil ⟨rfl, ?_⟩
      refine D_ret ?_
      have e3 : (((a + 1 : Nat) : Int) - 1).toNat = a := by omega
      rw [e3]
      exact ⟨_, [], [(1000, 1000)], .tmp rfl (.nil _), rfl, rfl, rfl, rfl, rfl, ⟨⟨_, rfl, .same rfl, rfl⟩, trivial⟩, ⟨⟨rfl, rfl, _, rfl, .same⟩, trivial⟩⟩

theorem mill_new {f : Nat} (ok : FnOK P f 15 Ic.mill_New [(4, none)]) (l : List UInt8) (n : Nat) :
    FC P f [VB l, VI n] [] (.ptr 7 0 0) [(7, some (cb (l.take n) 0))] := by
  refine ok.fc rfl rfl rfl ?_
  refine D_seq (D_reg ?_)
  refine o_pu rfl rfl rfl rfl trivial ?_
  refine o_nil ?_
  refine D_seq (D_seq (D_reg ?_))
  refine o_pu rfl rfl rfl rfl trivial ?_
  refine o_lenM _ _ rfl rfl ?_
  iterate 2 refine o_pu rfl rfl rfl rfl trivial ?_
  refine o_nil ?_
  refine D_cond rfl (fun h => ?_) (fun h => ?_)
  · have h2 : n < l.length := by simpa using h
    refine D_reg ?_
    iterate 2 refine o_pu rfl rfl rfl rfl trivial ?_
    refine o_takeM B _ rfl rfl (by omega) ?_
    refine o_pu rfl rfl rfl rfl trivial ?_
    refine o_nil ?_
    refine D_seq (D_reg ?_)
    refine o_pu rfl rfl rfl rfl trivial ?_
    refine o_bld (.p (.ag [.sl ((l.take n).map B), .i .i64 0])) rfl rfl rfl rfl rfl rfl ?_
    refine o_box (cb (l.take n) 0) rfl rfl rfl rfl rfl rfl ?_
    refine o_pu rfl rfl rfl rfl trivial ?_
    refine o_nil ?_
    refine D_ret ?_
    exact ⟨_, [], [(7, 14)], .tmp rfl (.nil _), rfl, rfl, rfl, rfl, rfl, ⟨⟨_, rfl, .same rfl, rfl⟩, trivial⟩, ⟨⟨rfl, rfl, _, rfl, .same⟩, trivial⟩⟩
  · have h2 : l.length ≤ n := by simpa using h
    have e : l.take n = l := List.take_of_length_le h2
    rw [e]
    refine D_skip ?_
    refine D_seq (D_reg ?_)
    refine o_pu rfl rfl rfl rfl trivial ?_
    refine o_bld (.p (.ag [.sl (l.map B), .i .i64 0])) rfl rfl rfl rfl rfl rfl ?_
    refine o_box (cb l 0) rfl rfl rfl rfl rfl rfl ?_
    refine o_pu rfl rfl rfl rfl trivial ?_
    refine o_nil ?_
    refine D_ret ?_
    exact ⟨_, [], [(7, 14)], .tmp rfl (.nil _), rfl, rfl, rfl, rfl, rfl, ⟨⟨_, rfl, .same rfl, rfl⟩, trivial⟩, ⟨⟨rfl, rfl, _, rfl, .same⟩, trivial⟩⟩

include hm in
theorem mill_left {f : Nat} (ok : FnOK P f 13 Ic.mill_Case_Left [(2, none)]) (l : List UInt8) (a : Nat) :
    FC P f [.ptr 1000 0 0] [(1000, some (cb l a))] (VT (decide (a < l.length))) [(1000, some (cb l a))] := by
  refine ok.fc rfl rfl rfl ?_
  refine D_seq (D_reg ?_)
  refine o_pu rfl rfl rfl rfl trivial ?_
  refine o_nil ?_
  refine D_seq (D_any hm ?_)
  iterate 3 refine o_pu rfl rfl rfl rfl trivial ?_
  refine o_pu rfl rfl rfl rfl ⟨rfl, Nat.zero_lt_succ _⟩ ?_
  iterate 3 refine o_pu rfl rfl rfl rfl trivial ?_
  refine o_pu rfl rfl rfl rfl ⟨rfl, Nat.zero_lt_succ _⟩ ?_
  refine o_lenM _ _ rfl rfl ?_
  iterate 2 refine o_pu rfl rfl rfl rfl trivial ?_
  refine o_nil ⟨rfl, ?_⟩
  refine D_ret ?_
  have e : decide ((a : Int) < (l.length : Int)) = decide (a < l.length) := decide_eq_decide.2 (by omega)
  rw [← e]
  exact ⟨_, [], [(1000, 1000)], .tmp rfl (.nil _), rfl, rfl, rfl, rfl, rfl, ⟨⟨_, rfl, .same rfl, rfl⟩, trivial⟩, ⟨⟨rfl, rfl, _, rfl, .same⟩, trivial⟩⟩

def PI (n : Int) : PV := .i .i64 n

def kPick (l : List UInt8) (a : Nat) (xs : List Int) : Int := xs.getD (kInt l a xs.length).1.toNat 0

include hm in
theorem mill_pick {f fi : Nat} (oki : FnOK P fi 40 Ic.mill_Case_Int [(4, none)]) (ok : FnOK P f 12 (Ic.mill_Case_Pick fi) [(4, none)]) (l : List UInt8) (a : Nat) (xs : List Int) (hl : l.length ≤ 1000) (ha : a ≤ l.length) (hx : 0 < xs.length) :
    FC P f [.ptr 1000 0 0, .p (.sl (xs.map PI))] [(1000, some (cb l a))] (VI (kPick l a xs)) [(1000, some (cb l (kInt l a xs.length).2))] := by
  refine ok.fc rfl rfl rfl ?_
  refine D_seq (D_reg ?_)
  refine o_pu rfl rfl rfl rfl trivial ?_
  refine o_nil ?_
  refine D_seq (D_reg ?_)
  iterate 3 refine o_pu rfl rfl rfl rfl trivial ?_
  refine o_lenM _ _ rfl rfl ?_
  refine o_callC [] 1000 (mill_int hm oki l a xs.length hl ha) rfl rfl cvs_same rfl rfl rfl rfl rfl rfl ?_
  have h1 := kInt_nonneg (l := l) (a := a) (n := xs.length)
  have h2 := kInt_lt (l := l) (a := a) (n := xs.length) (by omega)
  refine o_iadM PI 0 xs rfl rfl ⟨h1, h2⟩ rfl ?_
  refine o_ld1 rfl rfl ?_
  refine o_pu rfl rfl rfl rfl trivial ?_
  refine o_nil ?_
  refine D_ret ?_
  exact ⟨_, [], [(1000, 1000)], .tmp rfl (.nil _), rfl, rfl, rfl, rfl, rfl, ⟨⟨_, rfl, .same rfl, rfl⟩, trivial⟩, ⟨⟨rfl, rfl, _, rfl, .same⟩, trivial⟩⟩

def PS (s : List UInt8) : PV := .s s

def kWord (l : List UInt8) (a : Nat) (xs : List (List UInt8)) : List UInt8 := xs.getD (kInt l a xs.length).1.toNat []

include hm in
theorem mill_word {f fi : Nat} (oki : FnOK P fi 40 Ic.mill_Case_Int [(4, none)]) (ok : FnOK P f 12 (Ic.mill_Case_word fi) [(4, none)]) (l : List UInt8) (a : Nat) (xs : List (List UInt8)) (hl : l.length ≤ 1000) (ha : a ≤ l.length) (hx : 0 < xs.length) :
    FC P f [.ptr 1000 0 0, .p (.sl (xs.map PS))] [(1000, some (cb l a))] (VS (kWord l a xs)) [(1000, some (cb l (kInt l a xs.length).2))] := by
  refine ok.fc rfl rfl rfl ?_
  refine D_seq (D_reg ?_)
  refine o_pu rfl rfl rfl rfl trivial ?_
  refine o_nil ?_
  refine D_seq (D_reg ?_)
  iterate 3 refine o_pu rfl rfl rfl rfl trivial ?_
  refine o_lenM _ _ rfl rfl ?_
  refine o_callC [] 1000 (mill_int hm oki l a xs.length hl ha) rfl rfl cvs_same rfl rfl rfl rfl rfl rfl ?_
  have h1 := kInt_nonneg (l := l) (a := a) (n := xs.length)
  have h2 := kInt_lt (l := l) (a := a) (n := xs.length) (by omega)
  refine o_iadM PS [] xs rfl rfl ⟨h1, h2⟩ rfl ?_
  refine o_ld1 rfl rfl ?_
  refine o_pu rfl rfl rfl rfl trivial ?_
  refine o_nil ?_
  refine D_ret ?_
  exact ⟨_, [], [(1000, 1000)], .tmp rfl (.nil _), rfl, rfl, rfl, rfl, rfl, ⟨⟨_, rfl, .same rfl, rfl⟩, trivial⟩, ⟨⟨rfl, rfl, _, rfl, .same⟩, trivial⟩⟩

def texts : List (List UInt8) := [[], [97], [97, 110, 110], [47, 97, 47, 98], [110, 111], [121, 101, 115], [97, 32, 98], [120, 54, 102], [0], [109, 107, 100, 105, 114]]

include hm in
theorem mill_text {f fi : Nat} (oki : FnOK P fi 40 Ic.mill_Case_Int [(4, none)]) (ok : FnOK P f 12 (Ic.mill_Case_Text fi) [(2, none)]) (l : List UInt8) (a : Nat) (hl : l.length ≤ 1000) (ha : a ≤ l.length) :
    FC P f [.ptr 1000 0 0] [(1000, some (cb l a))] (VS (kWord l a texts)) [(1000, some (cb l (kInt l a 10).2))] := by
  refine ok.fc rfl rfl rfl ?_
  refine D_seq (D_reg ?_)
  refine o_pu rfl rfl rfl rfl trivial ?_
  refine o_nil ?_
  refine D_seq (D_reg ?_)
  refine o_bs (.pv 1 (texts.map PS)) rfl rfl rfl rfl rfl rfl rfl rfl rfl ?_
  refine o_pu rfl rfl rfl rfl trivial ?_
  refine o_nil ?_
  refine D_weak [4] [] [(1000, 1000)] (T := ⟨[(0, .ptr 1000 0 0), (3, .p (.sl (texts.map PS)))], [(1000, some (cb l a))]⟩) ⟨rfl, rfl, rfl, rfl, rfl, ⟨⟨_, rfl, .same rfl, rfl⟩, ⟨_, rfl, .fz rfl rfl rfl, rfl⟩, trivial⟩, ⟨⟨rfl, rfl, _, rfl, .same⟩, trivial⟩⟩ ?_
  refine D_seq (D_reg ?_)
  iterate 3 refine o_pu rfl rfl rfl rfl trivial ?_
  refine o_lenM _ _ rfl rfl ?_
  refine o_callC [] 1000 (mill_int hm oki l a 10 hl ha) rfl rfl cvs_same rfl rfl rfl rfl rfl rfl ?_
  have h1 := kInt_nonneg (l := l) (a := a) (n := 10)
  have h2 := kInt_lt (l := l) (a := a) (n := 10) (by omega)
  refine o_iadM PS [] texts rfl rfl ⟨h1, h2⟩ rfl ?_
  refine o_ld1 rfl rfl ?_
  refine o_pu rfl rfl rfl rfl trivial ?_
  refine o_nil ?_
  refine D_ret ?_
  exact ⟨_, [], [(1000, 1000)], .tmp rfl (.nil _), rfl, rfl, rfl, rfl, rfl, ⟨⟨_, rfl, .same rfl, rfl⟩, trivial⟩, ⟨⟨rfl, rfl, _, rfl, .same⟩, trivial⟩⟩

def hosts : List (List UInt8) := [[97], [98], [99, 57], [104, 111, 115, 116, 110, 97, 109, 101, 49, 54, 98, 121, 116, 101, 115, 48]]

include hm in
theorem mill_host {f fi fw : Nat} (oki : FnOK P fi 40 Ic.mill_Case_Int [(4, none)]) (okw : FnOK P fw 12 (Ic.mill_Case_word fi) [(4, none)]) (ok : FnOK P f 6 (Ic.mill_Case_Host fw) [(2, none)]) (l : List UInt8) (a : Nat) (hl : l.length ≤ 1000) (ha : a ≤ l.length) :
    FC P f [.ptr 1000 0 0] [(1000, some (cb l a))] (VS (kWord l a hosts)) [(1000, some (cb l (kInt l a 4).2))] := by
  refine ok.fc rfl rfl rfl ?_
  refine D_seq (D_reg ?_)
  refine o_pu rfl rfl rfl rfl trivial ?_
  refine o_nil ?_
  refine D_seq (D_reg ?_)
  refine o_pu rfl rfl rfl rfl trivial ?_
  refine o_bs (.pv 1 (hosts.map PS)) rfl rfl rfl rfl rfl rfl rfl rfl rfl ?_
  refine o_callC [4] 1000 (mill_word hm oki okw l a hosts hl ha (by decide)) rfl rfl (.cons (.same rfl) (.cons (.fz rfl rfl rfl) .nil)) rfl rfl rfl rfl rfl rfl ?_
  refine o_pu rfl rfl rfl rfl trivial ?_
  refine o_nil ?_
  refine D_ret ?_
  exact ⟨_, [], [(1000, 1000)], .tmp rfl (.nil _), rfl, rfl, rfl, rfl, rfl, ⟨⟨_, rfl, .same rfl, rfl⟩, trivial⟩, ⟨⟨rfl, rfl, _, rfl, .same⟩, trivial⟩⟩
end
end Go.DW

/- The helper that makes bytes. -/
namespace Go.DW
section
variable {P : Program} (hm : P.follows .mixedOrders = true)

def kByte (l : List UInt8) (a : Nat) : UInt8 := byteOf (kPick l (kInt l a 256).2 [97, 98, 97, 0, 255, (kInt l a 256).1])

def kBytes (l : List UInt8) : Nat → Nat → List UInt8 × Nat
  | 0, a => ([], a)
  | k + 1, a => (kByte l a :: (kBytes l k (kInt l (kInt l a 256).2 6).2).1, (kBytes l k (kInt l (kInt l a 256).2 6).2).2)

theorem kBytes_len (l : List UInt8) : ∀ (k a : Nat), (kBytes l k a).1.length = k
  | 0, _ => rfl
  | k + 1, a => by simp only [kBytes, List.length_cons, kBytes_len l k]

theorem kBytes_le (l : List UInt8) : ∀ (k a : Nat), a ≤ l.length → (kBytes l k a).2 ≤ l.length
  | 0, _, h => h
  | k + 1, a, h => kBytes_le l k _ (kInt_le (kInt_le h))

theorem kBytes_ge (l : List UInt8) : ∀ (k a : Nat), a ≤ (kBytes l k a).2
  | 0, _ => Nat.le_refl _
  | k + 1, a => Nat.le_trans kInt_ge (Nat.le_trans kInt_ge (kBytes_ge l k _))

structure BytesI (l : List UInt8) (fin : List UInt8 × Nat) where
  out : List UInt8
  a : Nat
  k : Nat
  ha : a ≤ l.length
  hk : out.length + k ≤ 1000
  h1 : out ++ (kBytes l k a).1 = fin.1
  h2 : (kBytes l k a).2 = fin.2

include hm in
theorem mill_bytes {f fi fp : Nat} (oki : FnOK P fi 40 Ic.mill_Case_Int [(4, none)]) (okp : FnOK P fp 12 (Ic.mill_Case_Pick fi) [(4, none)]) (ok : FnOK P f 25 (Ic.mill_Case_Bytes fi fp) [(4, none)]) (l : List UInt8) (a : Nat) (n : Nat) (hl : l.length ≤ 1000) (ha : a ≤ l.length) (hn : n < 1000) :
    FC P f [.ptr 1000 0 0, VI n] [(1000, some (cb l a))] (VB (kBytes l (kInt l a (n + 1)).1.toNat (kInt l a (n + 1)).2).1) [(1000, some (cb l (kBytes l (kInt l a (n + 1)).1.toNat (kInt l a (n + 1)).2).2))] := by
  refine ok.fc rfl rfl rfl ?_
  generalize hfin : kBytes l (kInt l a (n + 1)).1.toNat (kInt l a (n + 1)).2 = fin
  have k1 := kInt_nonneg (l := l) (a := a) (n := n + 1)
  have k2 := kInt_lt (l := l) (a := a) (n := n + 1) (by omega)
  refine D_seq (D_reg ?_)
  refine o_pu rfl rfl rfl rfl trivial ?_
  refine o_nil ?_
  refine D_seq (D_reg ?_)
  refine o_pu rfl rfl rfl rfl trivial ?_
  refine o_nil ?_
  refine D_seq (D_seq (D_reg ?_))
  iterate 2 refine o_pu rfl rfl rfl rfl trivial ?_
  refine o_i64 rfl rfl rfl rfl trivial (by omega) ?_
  refine o_callC [] 1000 (mill_int hm oki l a (n + 1) hl ha) rfl rfl cvs_same rfl rfl rfl rfl rfl rfl ?_
  refine o_pu rfl rfl rfl rfl trivial ?_
  refine o_nil ?_
  refine D_block ?_
  refine D_loop (ι := BytesI l fin) (fun x => ⟨[(0, .ptr 1000 0 0), (5, .os 500 none 0 x.out.length), (6, VI x.k)], [(1000, some (cb l x.a)), (500, some (.pv 1 (x.out.map B)))]⟩) (fun x => x.k) ⟨[], (kInt l a (n + 1)).2, (kInt l a (n + 1)).1.toNat, kInt_le ha, by simp; omega, by rw [hfin]; rfl, by rw [hfin]⟩
    [] [(500, 1)] [(1000, 1000), (500, 500)] ⟨rfl, rfl, rfl, rfl, rfl, ⟨⟨_, rfl, .same rfl, rfl⟩, ⟨_, rfl, .gho rfl, rfl⟩, ⟨_, rfl, ?_, rfl⟩, trivial⟩, ⟨⟨rfl, rfl, _, rfl, .same⟩, ⟨rfl, rfl, _, rfl, .same⟩, trivial⟩⟩ (fun x => ?_)
  · have e : ((kInt l a (n + 1)).1.toNat : Int) = (kInt l a (n + 1)).1 := by omega
    simp only [V.ren]
    rw [e]
    exact .same rfl
  obtain ⟨out, b, k, hb, hk, h1, h2⟩ := x
  simp only
  refine D_seq (D_seq (D_reg ?_))
  iterate 2 refine o_pu rfl rfl rfl rfl trivial ?_
  refine o_nil ?_
  refine D_cond rfl (fun h => ?_) (fun h => ?_)
  · have hk0 : 0 < k := by simpa using h
    obtain ⟨k', rfl⟩ : ∃ k', k = k' + 1 := ⟨k - 1, by omega⟩
    refine D_skip ?_
    refine D_seq (D_block (D_reg ?_))
    iterate 3 refine o_pu rfl rfl rfl rfl trivial ?_
    refine o_callC [] 1000 (mill_int hm oki l b 256 hl hb) rfl rfl cvs_same rfl rfl rfl rfl rfl rfl ?_
    refine o_bs (.pv 1 ([97, 98, 97, 0, 255, (kInt l b 256).1].map PI)) rfl rfl rfl rfl rfl rfl rfl rfl rfl ?_
    refine o_callC [19] 1000 (mill_pick hm oki okp l (kInt l b 256).2 [97, 98, 97, 0, 255, (kInt l b 256).1] hl (kInt_le hb) (Nat.zero_lt_succ _)) rfl rfl (.cons (.same rfl) (.cons (.fz rfl rfl rfl) .nil)) rfl rfl rfl rfl rfl rfl ?_
    refine o_cvb rfl rfl ?_
    refine o_bs (.pv 1 ([kByte l b].map B)) rfl rfl rfl rfl rfl rfl rfl rfl rfl ?_
    refine o_appM B out [kByte l b] (c := 1 = 1) (R := [22]) rfl rfl rfl rfl rfl rfl (fun _ _ => ⟨rfl, rfl⟩) (by simp; omega) rfl ?_
    refine o_pu rfl rfl rfl rfl trivial ?_
    refine o_nil ?_
    refine D_reg ?_
    refine o_pu rfl rfl rfl rfl trivial ?_
    refine o_i64 rfl rfl rfl rfl trivial (by omega) ?_
    refine o_pu rfl rfl rfl rfl trivial ?_
    refine o_nil ?_
    refine ⟨⟨out ++ [kByte l b], (kInt l (kInt l b 256).2 6).2, k', kInt_le (kInt_le hb), by simp; omega, by rw [← h1]; simp [kBytes], by rw [← h2]; rfl⟩, [], [], [(1000, 1000), (500, 23)], Nat.lt_succ_self _, ?_⟩
    exact ⟨rfl, rfl, rfl, rfl, rfl, ⟨⟨_, rfl, .same rfl, rfl⟩, ⟨_, rfl, .same rfl, rfl⟩, ⟨_, rfl, (by have e : ((k' + 1 : Nat) : Int) - 1 = k' := by omega
                                                                                                      rw [e]; exact .same rfl), rfl⟩, trivial⟩, ⟨⟨rfl, rfl, _, rfl, .same⟩, ⟨rfl, rfl, _, rfl, .same⟩, trivial⟩⟩
  · have hk0 : k = 0 := by have : ¬ 0 < k := by simpa using h
                           omega
    subst hk0
    simp only [kBytes, List.append_nil] at h1 h2
    subst h1 h2
    refine D_exit ?_
    refine D_seq (D_reg ?_)
    iterate 2 refine o_pu rfl rfl rfl rfl trivial ?_
    refine o_nil ?_
    refine D_ret ?_
    exact ⟨_, [500], [(1000, 1000)], .tmp rfl (.nil _), rfl, rfl, rfl, rfl, rfl, ⟨⟨_, rfl, .fz rfl rfl (by simp), rfl⟩, trivial⟩, ⟨⟨rfl, rfl, _, rfl, .same⟩, trivial⟩⟩
end
end Go.DW

/- Small functions of wire and its reference. -/
namespace Go.DW
section
variable {P : Program} (hm : P.follows .mixedOrders = true)

theorem same_bytes {f : Nat} (ok : FnOK P f 10 Ic.ref24_SameBytes [(4, none)]) (a b : List UInt8) : FC P f [VB a, VB b] [] (VT (a == b)) [] := by
  refine ok.fc rfl rfl rfl ?_
  refine D_seq (D_reg ?_)
  refine o_pu rfl rfl rfl rfl trivial ?_
  refine o_nil ?_
  refine D_seq (D_reg ?_)
  refine o_pu rfl rfl rfl rfl trivial ?_
  refine o_b2sB _ rfl rfl ?_
  refine o_pu rfl rfl rfl rfl trivial ?_
  refine o_b2sB _ rfl rfl ?_
  iterate 2 refine o_pu rfl rfl rfl rfl trivial ?_
  refine o_nil ?_
  refine D_ret ?_
  exact ⟨_, [], [], .tmp rfl (.nil _), rfl, rfl, rfl, rfl, rfl, ⟨⟨_, rfl, .same rfl, rfl⟩, trivial⟩, trivial⟩

theorem wire_within {f : Nat} (ok : FnOK P f 15 Ic.wire_within [(6, none)]) (n a b : Int) : FC P f [VI n, VI a, VI b] [] (VT (decide (a ≤ n) && decide (n ≤ b))) [] := by
  refine ok.fc rfl rfl rfl ?_
  refine D_seq (D_reg ?_)
  refine o_pu rfl rfl rfl rfl trivial ?_
  refine o_nil ?_
  refine D_seq (D_reg ?_)
  iterate 4 refine o_pu rfl rfl rfl rfl trivial ?_
  refine o_br 10 rfl (fun h => ?_) (fun h => ?_)
  · iterate 5 refine o_pu rfl rfl rfl rfl trivial ?_
    refine o_nil ?_
    refine D_ret ?_
    have e : (decide (a ≤ n) && decide (n ≤ b)) = decide (n ≤ b) := by
      have : a ≤ n := by simpa using h
      simp [this]
    rw [e]
    exact ⟨_, [], [], .tmp rfl (.nil _), rfl, rfl, rfl, rfl, rfl, ⟨⟨_, rfl, .same rfl, rfl⟩, trivial⟩, trivial⟩
  · iterate 3 refine o_skp rfl ?_
    iterate 2 refine o_pu rfl rfl rfl rfl trivial ?_
    refine o_nil ?_
    refine D_ret ?_
    have e : (decide (a ≤ n) && decide (n ≤ b)) = false := by
      have : ¬ a ≤ n := by simpa using h
      simp [this]
    rw [e]
    exact ⟨_, [], [], .tmp rfl (.nil _), rfl, rfl, rfl, rfl, rfl, ⟨⟨_, rfl, .same rfl, rfl⟩, trivial⟩, trivial⟩

/-! ### Host names -/
def charOk (b : UInt8) : Bool := (decide (97 ≤ b.toNat) && decide (b.toNat ≤ 122)) || (decide (48 ≤ b.toNat) && decide (b.toNat ≤ 57))
theorem charOk_false {b : UInt8} (h : (b.toNat < 97 ∨ 122 < b.toNat) ∧ (b.toNat < 48 ∨ 57 < b.toNat)) : charOk b = false := by
  cases hc : charOk b with
  | false => rfl
  | true => simp [charOk] at hc; omega
theorem charOk_true {b : UInt8} (h : (97 ≤ b.toNat ∧ b.toNat ≤ 122) ∨ (48 ≤ b.toNat ∧ b.toNat ≤ 57)) : charOk b = true := by
  simp [charOk]; omega
def hostOk (s : List UInt8) : Bool := decide (1 ≤ s.length) && decide (s.length ≤ 16) && s.all charOk

theorem all_at {s : List UInt8} {i : Nat} (hi : i < s.length) (h : charOk (s.getD i 0) = false) : s.all charOk = false := by
  have hg := getD_get (0 : UInt8) hi
  cases ha : s.all charOk with
  | false => rfl
  | true =>
    have := List.all_eq_true.1 ha _ (List.mem_of_getElem? hg)
    rw [h] at this; cases this

theorem all_take {s : List UInt8} {i : Nat} (hi : i < s.length) (h1 : (s.take i).all charOk = true) (h : charOk (s.getD i 0) = true) : (s.take (i + 1)).all charOk = true := by
  have hg := getD_get (0 : UInt8) hi
  rw [List.take_add_one, hg, List.all_append, h1]
  simp only [Option.toList, List.all_cons, List.all_nil, h, Bool.and_self]

structure HostI (s : List UInt8) where
  i : Nat
  hi : i ≤ s.length
  h : (s.take i).all charOk = true

theorem ref_hostname {f : Nat} (ok : FnOK P f 36 Ic.ref25_HostName [(2, none)]) (s : List UInt8) (hs : s.length ≤ 9223372036854775807) : FC P f [VS s] [] (VT (hostOk s)) [] := by
  refine ok.fc rfl rfl rfl ?_
  refine D_seq (D_reg ?_)
  refine o_pu rfl rfl rfl rfl trivial ?_
  refine o_nil ?_
  refine D_seq (D_seq (D_reg ?_))
  refine o_pu rfl rfl rfl rfl trivial ?_
  refine o_nil ?_
  refine D_block ?_
  refine D_loop (ι := HostI s) (fun x => ⟨[(0, VS s), (3, VI x.i)], []⟩) (fun x => s.length - x.i) ⟨0, by omega, rfl⟩ [] [] [] ⟨rfl, rfl, rfl, rfl, rfl, ⟨⟨_, rfl, .same rfl, rfl⟩, ⟨_, rfl, .same rfl, rfl⟩, trivial⟩, trivial⟩ (fun x => ?_)
  obtain ⟨i, hi, hall⟩ := x
  simp only
  refine D_seq (D_seq (D_reg ?_))
  iterate 4 refine o_pu rfl rfl rfl rfl trivial ?_
  refine o_nil ?_
  refine D_cond rfl (fun h => ?_) (fun h => ?_)
  · have hlt : i < s.length := by simpa using h
    refine D_skip ?_
    have e0 : (s.getD (i : Int).toNat 0) = s.getD i 0 := rfl
    refine D_cut (ι := PLift (charOk (s.getD i 0) = true)) (fun _ => ⟨[(0, VS s), (3, VI i)], []⟩) (D_block (D_seq (D_reg ?_))) (fun hc => ?_)
    · iterate 2 refine o_pu rfl rfl rfl rfl trivial ?_
      refine o_idxS _ rfl rfl (by omega) ?_
      refine o_pu rfl rfl rfl rfl trivial ?_
      refine o_nil ?_
      refine D_seq (D_reg ?_)
      rw [e0]
      iterate 3 refine o_pu rfl rfl rfl rfl trivial ?_
      have n1 := (s.getD i 0).toNat_lt
      refine o_br 16 rfl (fun q1 => ?_) (fun q1 => ?_)
      · have q1 : (s.getD i 0).toNat < 97 := by have := of_decide_eq_true q1; omega
        iterate 2 refine o_skp rfl ?_
        iterate 5 refine o_pu rfl rfl rfl rfl trivial ?_
        refine o_br 23 rfl (fun q2 => ?_) (fun q2 => ?_)
        · have q2 : (s.getD i 0).toNat < 48 := by have := of_decide_eq_true q2; omega
          iterate 2 refine o_skp rfl ?_
          iterate 2 refine o_pu rfl rfl rfl rfl trivial ?_
          refine o_nil ?_
          refine D_cond rfl (fun _ => ?_) (fun h => by cases h)
          refine D_seq (D_reg ?_)
          refine o_pu rfl rfl rfl rfl trivial ?_
          refine o_nil ?_
          refine D_ret ?_
          have e : hostOk s = false := by
            simp only [hostOk, all_at hlt (charOk_false (by omega)), Bool.and_false]
          rw [e]
          exact ⟨_, [], [], .tmp rfl (.nil _), rfl, rfl, rfl, rfl, rfl, ⟨⟨_, rfl, .same rfl, rfl⟩, trivial⟩, trivial⟩
        · have q2 : ¬ (s.getD i 0).toNat < 48 := by have := of_decide_eq_false q2; omega
          iterate 4 refine o_pu rfl rfl rfl rfl trivial ?_
          refine o_nil ?_
          refine D_cond rfl (fun q3 => ?_) (fun q3 => ?_)
          · have q3 : 57 < (s.getD i 0).toNat := by have := of_decide_eq_true q3; omega
            refine D_seq (D_reg ?_)
            refine o_pu rfl rfl rfl rfl trivial ?_
            refine o_nil ?_
            refine D_ret ?_
            have e : hostOk s = false := by
              simp only [hostOk, all_at hlt (charOk_false (by omega)), Bool.and_false]
            rw [e]
            exact ⟨_, [], [], .tmp rfl (.nil _), rfl, rfl, rfl, rfl, rfl, ⟨⟨_, rfl, .same rfl, rfl⟩, trivial⟩, trivial⟩
          · have q3 : ¬ 57 < (s.getD i 0).toNat := by have := of_decide_eq_false q3; omega
            refine D_skip ?_
            exact ⟨⟨charOk_true (by omega)⟩, [], [], [], ⟨rfl, rfl, rfl, rfl, rfl, ⟨⟨_, rfl, .same rfl, rfl⟩, ⟨_, rfl, .same rfl, rfl⟩, trivial⟩, trivial⟩⟩
      · have q1 : ¬ (s.getD i 0).toNat < 97 := by have := of_decide_eq_false q1; omega
        iterate 4 refine o_pu rfl rfl rfl rfl trivial ?_
        refine o_br 20 rfl (fun q2 => ?_) (fun q2 => ?_)
        · have q2 : 122 < (s.getD i 0).toNat := by have := of_decide_eq_true q2; omega
          iterate 3 refine o_pu rfl rfl rfl rfl trivial ?_
          refine o_is 23 false rfl (decide_eq_false (by omega)) ?_
          iterate 4 refine o_pu rfl rfl rfl rfl trivial ?_
          refine o_nil ?_
          refine D_cond rfl (fun q3 => ?_) (fun q3 => ?_)
          · refine D_seq (D_reg ?_)
            refine o_pu rfl rfl rfl rfl trivial ?_
            refine o_nil ?_
            refine D_ret ?_
            have e : hostOk s = false := by
              simp only [hostOk, all_at hlt (charOk_false (by omega)), Bool.and_false]
            rw [e]
            exact ⟨_, [], [], .tmp rfl (.nil _), rfl, rfl, rfl, rfl, rfl, ⟨⟨_, rfl, .same rfl, rfl⟩, trivial⟩, trivial⟩
          · have q3 : ¬ 57 < (s.getD i 0).toNat := by have := of_decide_eq_false q3; omega
            omega
        · have q2 : ¬ 122 < (s.getD i 0).toNat := by have := of_decide_eq_false q2; omega
          iterate 6 refine o_skp rfl ?_
          refine o_pu rfl rfl rfl rfl trivial ?_
          refine o_nil ?_
          refine D_cond rfl (fun q3 => by cases q3) (fun q3 => ?_)
          refine D_skip ?_
          exact ⟨⟨charOk_true (by omega)⟩, [], [], [], ⟨rfl, rfl, rfl, rfl, rfl, ⟨⟨_, rfl, .same rfl, rfl⟩, ⟨_, rfl, .same rfl, rfl⟩, trivial⟩, trivial⟩⟩
    · refine D_reg ?_
      refine o_pu rfl rfl rfl rfl trivial ?_
      refine o_i64 rfl rfl rfl rfl trivial (by omega) ?_
      refine o_pu rfl rfl rfl rfl trivial ?_
      refine o_nil ?_
      exact ⟨⟨i + 1, hlt, all_take hlt hall hc.down⟩, [], [], [], by simp only; omega, ⟨rfl, rfl, rfl, rfl, rfl, ⟨⟨_, rfl, .same rfl, rfl⟩, ⟨_, rfl, .same rfl, rfl⟩, trivial⟩, trivial⟩⟩
  · have hge : ¬ i < s.length := by simpa using h
    have e : i = s.length := by omega
    subst e
    rw [List.take_length] at hall
    refine D_exit ?_
    refine D_seq (D_reg ?_)
    iterate 4 refine o_pu rfl rfl rfl rfl trivial ?_
    refine o_br 31 rfl (fun q1 => ?_) (fun q1 => ?_)
    · have q1 : 1 ≤ s.length := by have := of_decide_eq_true q1; omega
      iterate 5 refine o_pu rfl rfl rfl rfl trivial ?_
      refine o_nil ?_
      refine D_ret ?_
      have e : hostOk s = decide ((s.length : Int) ≤ 16) := by
        simp only [hostOk, hall, Bool.and_true, decide_eq_true q1, Bool.true_and]
        exact decide_eq_decide.2 (by omega)
      rw [e]
      exact ⟨_, [], [], .tmp rfl (.nil _), rfl, rfl, rfl, rfl, rfl, ⟨⟨_, rfl, .same rfl, rfl⟩, trivial⟩, trivial⟩
    · have q1 : ¬ 1 ≤ s.length := by have := of_decide_eq_false q1; omega
      iterate 3 refine o_skp rfl ?_
      iterate 2 refine o_pu rfl rfl rfl rfl trivial ?_
      refine o_nil ?_
      refine D_ret ?_
      have e : hostOk s = false := by simp [hostOk, q1]
      rw [e]
      exact ⟨_, [], [], .tmp rfl (.nil _), rfl, rfl, rfl, rfl, rfl, ⟨⟨_, rfl, .same rfl, rfl⟩, trivial⟩, trivial⟩
end
end Go.DW

/- Which fields messages have. -/
namespace Go.DW
section
variable {P : Program} (hm : P.follows .mixedOrders = true)

theorem ref_uses {f : Nat} (ok : FnOK P f 16 Ic.ref33_uses [(2, none), (3, none), (4, none), (5, none)]) (n : Int) :
    FC P f [VI n] [] (.tup [VT (decide (n = 1)), VT (decide (1 ≤ n ∧ n ≤ 5)), VT (decide (n = 4)), VT (decide (n = 3))]) [] := by
  refine ok.fc rfl rfl rfl ?_
  refine D_seq (D_reg ?_)
  iterate 4 refine o_pu rfl rfl rfl rfl trivial ?_
  refine o_nil ?_
  refine D_seq (D_seq (D_reg ?_))
  refine o_pu rfl rfl rfl rfl trivial ?_
  refine o_nil ?_
  refine D_block (D_seq (D_reg ?_))
  iterate 2 refine o_pu rfl rfl rfl rfl trivial ?_
  refine o_nil ?_
  refine D_cond rfl (fun h => ?_) (fun h1 => ?_)
  · have h := of_decide_eq_true h
    subst h
    refine D_seq (D_reg ?_)
    iterate 4 refine o_pu rfl rfl rfl rfl trivial ?_
    refine o_nil ?_
    refine D_ret ?_
    exact ⟨_, [], [], .tmp rfl (.tmp rfl (.tmp rfl (.tmp rfl (.nil _)))), rfl, rfl, rfl, rfl, rfl, ⟨⟨_, rfl, .same rfl, rfl⟩, trivial⟩, trivial⟩
  · refine D_seq (D_seq (D_reg ?_))
    iterate 2 refine o_pu rfl rfl rfl rfl trivial ?_
    refine o_nil ?_
    refine D_cond rfl (fun h => ?_) (fun h2 => ?_)
    · have h := of_decide_eq_true h
      subst h
      refine D_skip ?_
      refine D_cond rfl (fun _ => ?_) (fun h => by cases h)
      refine D_seq (D_reg ?_)
      iterate 4 refine o_pu rfl rfl rfl rfl trivial ?_
      refine o_nil ?_
      refine D_ret ?_
      exact ⟨_, [], [], .tmp rfl (.tmp rfl (.tmp rfl (.tmp rfl (.nil _)))), rfl, rfl, rfl, rfl, rfl, ⟨⟨_, rfl, .same rfl, rfl⟩, trivial⟩, trivial⟩
    · refine D_reg ?_
      iterate 2 refine o_pu rfl rfl rfl rfl trivial ?_
      refine o_nil ?_
      refine D_cond rfl (fun h => ?_) (fun h5 => ?_)
      · have h := of_decide_eq_true h
        subst h
        refine D_seq (D_reg ?_)
        iterate 4 refine o_pu rfl rfl rfl rfl trivial ?_
        refine o_nil ?_
        refine D_ret ?_
        exact ⟨_, [], [], .tmp rfl (.tmp rfl (.tmp rfl (.tmp rfl (.nil _)))), rfl, rfl, rfl, rfl, rfl, ⟨⟨_, rfl, .same rfl, rfl⟩, trivial⟩, trivial⟩
      · refine D_seq (D_reg ?_)
        iterate 2 refine o_pu rfl rfl rfl rfl trivial ?_
        refine o_nil ?_
        refine D_cond rfl (fun h => ?_) (fun h3 => ?_)
        · have h := of_decide_eq_true h
          subst h
          refine D_seq (D_reg ?_)
          iterate 4 refine o_pu rfl rfl rfl rfl trivial ?_
          refine o_nil ?_
          refine D_ret ?_
          exact ⟨_, [], [], .tmp rfl (.tmp rfl (.tmp rfl (.tmp rfl (.nil _)))), rfl, rfl, rfl, rfl, rfl, ⟨⟨_, rfl, .same rfl, rfl⟩, trivial⟩, trivial⟩
        · refine D_seq (D_reg ?_)
          iterate 2 refine o_pu rfl rfl rfl rfl trivial ?_
          refine o_nil ?_
          refine D_cond rfl (fun h => ?_) (fun h4 => ?_)
          · have h := of_decide_eq_true h
            subst h
            refine D_seq (D_reg ?_)
            iterate 4 refine o_pu rfl rfl rfl rfl trivial ?_
            refine o_nil ?_
            refine D_ret ?_
            exact ⟨_, [], [], .tmp rfl (.tmp rfl (.tmp rfl (.tmp rfl (.nil _)))), rfl, rfl, rfl, rfl, rfl, ⟨⟨_, rfl, .same rfl, rfl⟩, trivial⟩, trivial⟩
          · have h1 := of_decide_eq_false h1
            have h2 := of_decide_eq_false h2
            have h3 := of_decide_eq_false h3
            have h4 := of_decide_eq_false h4
            have h5 := of_decide_eq_false h5
            rw [decide_eq_false h1, decide_eq_false h4, decide_eq_false h3, decide_eq_false (show ¬ (1 ≤ n ∧ n ≤ 5) by omega)]
            refine D_skip ?_
            refine D_seq (D_reg ?_)
            iterate 4 refine o_pu rfl rfl rfl rfl trivial ?_
            refine o_nil ?_
            refine D_ret ?_
            exact ⟨_, [], [], .tmp rfl (.tmp rfl (.tmp rfl (.tmp rfl (.nil _)))), rfl, rfl, rfl, rfl, rfl, ⟨⟨_, rfl, .same rfl, rfl⟩, trivial⟩, trivial⟩

/-! ### The fields of a kind -/
def fieldsOf (n : Int) : List Int := if n = 1 then [1, 2, 3] else if n = 2 then [3] else if n = 3 then [3, 5] else if n = 4 then [3, 4] else if n = 5 then [3] else []

abbrev tab : List (PV × V) := [(.i .i64 1, .os 8 none 0 3), (.i .i64 2, .os 9 none 0 1), (.i .i64 3, .os 10 none 0 2), (.i .i64 4, .os 11 none 0 2), (.i .i64 5, .os 12 none 0 1), (.i .i64 6, .nils), (.i .i64 7, .nils)]
abbrev tabSg : Sg := [(7, some (.mp tab)), (8, some (.pv 1 ([1, 2, 3].map PI))), (9, some (.pv 1 ([3].map PI))), (10, some (.pv 1 ([3, 5].map PI))), (11, some (.pv 1 ([3, 4].map PI))), (12, some (.pv 1 ([3].map PI)))]

theorem wire_fields {f : Nat} (ok : FnOK P f 22 Ic.wire_fields [(2, none), (3, none)]) (n : Int) :
    FC P f [VI n] [] (.tup [.p (.sl ((fieldsOf n).map PI)), VT (decide (1 ≤ n ∧ n ≤ 7))]) [] := by
  refine ok.fc rfl rfl rfl ?_
  refine D_seq (D_reg ?_)
  iterate 2 refine o_pu rfl rfl rfl rfl trivial ?_
  refine o_nil ?_
  refine D_seq (D_reg ?_)
  refine o_mk rfl rfl rfl ?_
  refine o_bs (.pv 1 ([1, 2, 3].map PI)) rfl rfl rfl rfl rfl rfl rfl rfl rfl ?_
  refine o_ins (tab.take 1) rfl rfl rfl rfl rfl (noKeyB_spec rfl) rfl rfl ?_
  refine o_bs (.pv 1 ([3].map PI)) rfl rfl rfl rfl rfl rfl rfl rfl rfl ?_
  refine o_ins (tab.take 2) rfl rfl rfl rfl rfl (noKeyB_spec rfl) rfl rfl ?_
  refine o_bs (.pv 1 ([3, 5].map PI)) rfl rfl rfl rfl rfl rfl rfl rfl rfl ?_
  refine o_ins (tab.take 3) rfl rfl rfl rfl rfl (noKeyB_spec rfl) rfl rfl ?_
  refine o_bs (.pv 1 ([3, 4].map PI)) rfl rfl rfl rfl rfl rfl rfl rfl rfl ?_
  refine o_ins (tab.take 4) rfl rfl rfl rfl rfl (noKeyB_spec rfl) rfl rfl ?_
  refine o_bs (.pv 1 ([3].map PI)) rfl rfl rfl rfl rfl rfl rfl rfl rfl ?_
  refine o_ins (tab.take 5) rfl rfl rfl rfl rfl (noKeyB_spec rfl) rfl rfl ?_
  refine o_ins (tab.take 6) rfl rfl rfl rfl rfl (noKeyB_spec rfl) rfl rfl ?_
  refine o_ins tab rfl rfl rfl rfl rfl (noKeyB_spec rfl) rfl rfl ?_
  iterate 2 refine o_pu rfl rfl rfl rfl trivial ?_
  refine o_nil ?_
  refine D_weak [] [] [(7, 7), (8, 8), (9, 9), (10, 10), (11, 11), (12, 12)] (T := ⟨[(0, VI n), (4, .mp 7)], tabSg⟩) ⟨rfl, rfl, rfl, rfl, rfl, ⟨⟨_, rfl, .same rfl, rfl⟩, ⟨_, rfl, .same rfl, rfl⟩, trivial⟩, ⟨⟨rfl, rfl, _, rfl, .same⟩, ⟨rfl, rfl, _, rfl, .same⟩, ⟨rfl, rfl, _, rfl, .same⟩, ⟨rfl, rfl, _, rfl, .same⟩, ⟨rfl, rfl, _, rfl, .same⟩, ⟨rfl, rfl, _, rfl, .same⟩, trivial⟩⟩ ?_
  refine D_seq (D_reg ?_)
  iterate 2 refine o_pu rfl rfl rfl rfl trivial ?_
  by_cases c1 : n = 1
  · subst c1
    refine o_op 1 rfl rfl rfl rfl ⟨rfl, rfl, noKeyB_spec rfl, rfl, rfl⟩ rfl ?_
    iterate 5 refine o_pu rfl rfl rfl rfl trivial ?_
    refine o_nil ?_
    refine D_seq (D_reg ?_)
    iterate 4 refine o_pu rfl rfl rfl rfl trivial ?_
    refine o_nil ?_
    refine D_ret ?_
    exact ⟨_, [8], [], .tmp rfl (.tmp rfl (.nil _)), rfl, rfl, rfl, rfl, rfl, ⟨⟨_, rfl, .tup (.cons (.fz rfl rfl rfl) (.cons (.same rfl) .nil)), rfl⟩, trivial⟩, trivial⟩
  by_cases c2 : n = 2
  · subst c2
    refine o_op 2 rfl rfl rfl rfl ⟨rfl, rfl, noKeyB_spec rfl, rfl, rfl⟩ rfl ?_
    iterate 5 refine o_pu rfl rfl rfl rfl trivial ?_
    refine o_nil ?_
    refine D_seq (D_reg ?_)
    iterate 4 refine o_pu rfl rfl rfl rfl trivial ?_
    refine o_nil ?_
    refine D_ret ?_
    exact ⟨_, [9], [], .tmp rfl (.tmp rfl (.nil _)), rfl, rfl, rfl, rfl, rfl, ⟨⟨_, rfl, .tup (.cons (.fz rfl rfl rfl) (.cons (.same rfl) .nil)), rfl⟩, trivial⟩, trivial⟩
  by_cases c3 : n = 3
  · subst c3
    refine o_op 3 rfl rfl rfl rfl ⟨rfl, rfl, noKeyB_spec rfl, rfl, rfl⟩ rfl ?_
    iterate 5 refine o_pu rfl rfl rfl rfl trivial ?_
    refine o_nil ?_
    refine D_seq (D_reg ?_)
    iterate 4 refine o_pu rfl rfl rfl rfl trivial ?_
    refine o_nil ?_
    refine D_ret ?_
    exact ⟨_, [10], [], .tmp rfl (.tmp rfl (.nil _)), rfl, rfl, rfl, rfl, rfl, ⟨⟨_, rfl, .tup (.cons (.fz rfl rfl rfl) (.cons (.same rfl) .nil)), rfl⟩, trivial⟩, trivial⟩
  by_cases c4 : n = 4
  · subst c4
    refine o_op 4 rfl rfl rfl rfl ⟨rfl, rfl, noKeyB_spec rfl, rfl, rfl⟩ rfl ?_
    iterate 5 refine o_pu rfl rfl rfl rfl trivial ?_
    refine o_nil ?_
    refine D_seq (D_reg ?_)
    iterate 4 refine o_pu rfl rfl rfl rfl trivial ?_
    refine o_nil ?_
    refine D_ret ?_
    exact ⟨_, [11], [], .tmp rfl (.tmp rfl (.nil _)), rfl, rfl, rfl, rfl, rfl, ⟨⟨_, rfl, .tup (.cons (.fz rfl rfl rfl) (.cons (.same rfl) .nil)), rfl⟩, trivial⟩, trivial⟩
  by_cases c5 : n = 5
  · subst c5
    refine o_op 5 rfl rfl rfl rfl ⟨rfl, rfl, noKeyB_spec rfl, rfl, rfl⟩ rfl ?_
    iterate 5 refine o_pu rfl rfl rfl rfl trivial ?_
    refine o_nil ?_
    refine D_seq (D_reg ?_)
    iterate 4 refine o_pu rfl rfl rfl rfl trivial ?_
    refine o_nil ?_
    refine D_ret ?_
    exact ⟨_, [12], [], .tmp rfl (.tmp rfl (.nil _)), rfl, rfl, rfl, rfl, rfl, ⟨⟨_, rfl, .tup (.cons (.fz rfl rfl rfl) (.cons (.same rfl) .nil)), rfl⟩, trivial⟩, trivial⟩
  by_cases c6 : n = 6
  · subst c6
    refine o_op 6 rfl rfl rfl rfl ⟨rfl, rfl, noKeyB_spec rfl, rfl, rfl⟩ rfl ?_
    iterate 5 refine o_pu rfl rfl rfl rfl trivial ?_
    refine o_nil ?_
    refine D_seq (D_reg ?_)
    iterate 4 refine o_pu rfl rfl rfl rfl trivial ?_
    refine o_nil ?_
    refine D_ret ?_
    exact ⟨_, [], [], .tmp rfl (.tmp rfl (.nil _)), rfl, rfl, rfl, rfl, rfl, ⟨⟨_, rfl, .tup (.cons .nil (.cons (.same rfl) .nil)), rfl⟩, trivial⟩, trivial⟩
  by_cases c7 : n = 7
  · subst c7
    refine o_op 7 rfl rfl rfl rfl ⟨rfl, rfl, noKeyB_spec rfl, rfl, rfl⟩ rfl ?_
    iterate 5 refine o_pu rfl rfl rfl rfl trivial ?_
    refine o_nil ?_
    refine D_seq (D_reg ?_)
    iterate 4 refine o_pu rfl rfl rfl rfl trivial ?_
    refine o_nil ?_
    refine D_ret ?_
    exact ⟨_, [], [], .tmp rfl (.tmp rfl (.nil _)), rfl, rfl, rfl, rfl, rfl, ⟨⟨_, rfl, .tup (.cons .nil (.cons (.same rfl) .nil)), rfl⟩, trivial⟩, trivial⟩
  · have e1 : fieldsOf n = [] := by simp [fieldsOf, c1, c2, c3, c4, c5]
    rw [e1, decide_eq_false (show ¬ (1 ≤ n ∧ n ≤ 7) by omega)]
    refine o_op 0 rfl rfl rfl rfl ⟨rfl, rfl, c1, c2, c3, c4, c5, c6, c7, trivial⟩ rfl ?_
    iterate 5 refine o_pu rfl rfl rfl rfl trivial ?_
    refine o_nil ?_
    refine D_seq (D_reg ?_)
    iterate 4 refine o_pu rfl rfl rfl rfl trivial ?_
    refine o_nil ?_
    refine D_ret ?_
    exact ⟨_, [], [], .tmp rfl (.tmp rfl (.nil _)), rfl, rfl, rfl, rfl, rfl, ⟨⟨_, rfl, .tup (.cons .nil (.cons (.same rfl) .nil)), rfl⟩, trivial⟩, trivial⟩
end
end Go.DW

/- Which messages are valid: the fields one by one. -/
namespace Go.DW
section
variable {P : Program} (hm : P.follows .mixedOrders = true)

/-! ### slices.Index, slices.Contains -/
def ixFrom (v : Int) : List Int → Nat → Int
  | [], _ => -1
  | x :: l, i => if v = x then i else ixFrom v l (i + 1)

theorem ixFrom_mem {v : Int} : ∀ {l : List Int} {i : Nat}, 0 ≤ ixFrom v l i ↔ v ∈ l
  | [], i => by simp [ixFrom]
  | x :: l, i => by
    simp only [ixFrom]
    split
    · rename_i h; subst h; simp
    · rename_i h; rw [ixFrom_mem]; simp [h]

structure IxI (v : Int) (xs : List Int) where
  i : Nat
  hi : i ≤ xs.length
  h : ixFrom v (xs.drop i) i = ixFrom v xs 0

theorem slices_index {f : Nat} (ok : FnOK P f 19 Ic.slices_Index_lint_int [(4, none)]) (xs : List Int) (v : Int) (hs : xs.length < 4611686018427387904) :
    FC P f [.p (.sl (xs.map PI)), VI v] [] (VI (ixFrom v xs 0)) [] := by
  refine ok.fc rfl rfl rfl ?_
  refine D_seq (D_reg ?_)
  refine o_pu rfl rfl rfl rfl trivial ?_
  refine o_nil ?_
  refine D_seq (D_seq (D_reg ?_))
  refine o_pu rfl rfl rfl rfl trivial ?_
  refine o_lenM _ _ rfl rfl ?_
  refine o_pu rfl rfl rfl rfl trivial ?_
  refine o_nil ?_
  refine D_block ?_
  refine D_loop (ι := IxI v xs) (fun x => ⟨[(0, .p (.sl (xs.map PI))), (1, VI v), (7, VI xs.length), (8, VI x.i)], []⟩) (fun x => xs.length - x.i) ⟨0, by omega, rfl⟩ [] [] [] ⟨rfl, rfl, rfl, rfl, rfl, ⟨⟨_, rfl, .same rfl, rfl⟩, ⟨_, rfl, .same rfl, rfl⟩, ⟨_, rfl, .same rfl, rfl⟩, ⟨_, rfl, .same rfl, rfl⟩, trivial⟩, trivial⟩ (fun x => ?_)
  obtain ⟨i, hi, hx⟩ := x
  simp only
  refine D_seq (D_reg ?_)
  refine o_pu rfl rfl rfl rfl trivial ?_
  refine o_nil ?_
  refine D_seq (D_cond rfl (fun h => ?_) (fun h => ?_))
  · have hlt : i < xs.length := by have := of_decide_eq_true h; omega
    have hd : xs.drop i = xs.getD i 0 :: xs.drop (i + 1) := by
      rw [List.drop_eq_getElem_cons hlt]
      simp [List.getD, hlt]
    rw [hd] at hx
    simp only [ixFrom] at hx
    refine D_skip ?_
    refine D_seq (D_block (D_seq (D_reg ?_)))
    iterate 2 refine o_pu rfl rfl rfl rfl trivial ?_
    refine o_nil ?_
    refine D_seq (D_reg ?_)
    iterate 3 refine o_pu rfl rfl rfl rfl trivial ?_
    refine o_iadM PI 0 xs rfl rfl (by omega) rfl ?_
    refine o_ld1 rfl rfl ?_
    refine o_pu rfl rfl rfl rfl trivial ?_
    refine o_nil ?_
    refine D_cond rfl (fun h2 => ?_) (fun h2 => ?_)
    · have h2 : v = xs.getD i 0 := of_decide_eq_true h2
      rw [if_pos h2] at hx
      rw [← hx]
      refine D_seq (D_reg ?_)
      iterate 2 refine o_pu rfl rfl rfl rfl trivial ?_
      refine o_nil ?_
      refine D_ret ?_
      exact ⟨_, [], [], .tmp rfl (.nil _), rfl, rfl, rfl, rfl, rfl, ⟨⟨_, rfl, .same rfl, rfl⟩, trivial⟩, trivial⟩
    · have h2 : ¬ v = xs.getD i 0 := of_decide_eq_false h2
      rw [if_neg h2] at hx
      refine D_skip ?_
      refine D_reg ?_
      refine o_i64 rfl rfl rfl rfl trivial (by omega) ?_
      refine o_pu rfl rfl rfl rfl trivial ?_
      refine o_nil ?_
      exact ⟨⟨i + 1, hlt, hx⟩, [], [], [], by simp only; omega, ⟨rfl, rfl, rfl, rfl, rfl, ⟨⟨_, rfl, .same rfl, rfl⟩, ⟨_, rfl, .same rfl, rfl⟩, ⟨_, rfl, .same rfl, rfl⟩, ⟨_, rfl, .same rfl, rfl⟩, trivial⟩, trivial⟩⟩
  · have hge : i = xs.length := by have := of_decide_eq_false h; omega
    subst hge
    rw [List.drop_length] at hx
    rw [← hx]
    refine D_exit ?_
    refine D_seq (D_reg ?_)
    refine o_pu rfl rfl rfl rfl trivial ?_
    refine o_nil ?_
    refine D_ret ?_
    exact ⟨_, [], [], .tmp rfl (.nil _), rfl, rfl, rfl, rfl, rfl, ⟨⟨_, rfl, .same rfl, rfl⟩, trivial⟩, trivial⟩

theorem slices_contains {f fi : Nat} (oki : FnOK P fi 19 Ic.slices_Index_lint_int [(4, none)]) (ok : FnOK P f 9 (Ic.slices_Contains_lint_int fi) [(4, none)]) (xs : List Int) (v : Int) (hs : xs.length < 4611686018427387904) :
    FC P f [.p (.sl (xs.map PI)), VI v] [] (VT (decide (v ∈ xs))) [] := by
  refine ok.fc rfl rfl rfl ?_
  refine D_seq (D_reg ?_)
  refine o_pu rfl rfl rfl rfl trivial ?_
  refine o_nil ?_
  refine D_seq (D_reg ?_)
  iterate 2 refine o_pu rfl rfl rfl rfl trivial ?_
  refine o_callp (slices_index oki xs v hs) rfl rfl rfl rfl rfl ?_
  iterate 2 refine o_pu rfl rfl rfl rfl trivial ?_
  refine o_nil ?_
  refine D_ret ?_
  have e : decide (v ∈ xs) = decide (ixFrom v xs 0 ≥ 0) := decide_eq_decide.2 ixFrom_mem.symm
  rw [e]
  exact ⟨_, [], [], .tmp rfl (.nil _), rfl, rfl, rfl, rfl, rfl, ⟨⟨_, rfl, .same rfl, rfl⟩, trivial⟩, trivial⟩

/-! ### Messages -/
structure Msg where
  kind : Int
  host : List UInt8
  epoch : Int
  seq : Int
  to_ : Int
  body : List UInt8
  deriving DecidableEq

def Msg.cells (m : Msg) : List PV := [.i .i64 m.kind, .s m.host, .i .i64 m.epoch, .i .i64 m.seq, .i .i64 m.to_, .sl (m.body.map B)]
def Msg.pv (m : Msg) : PV := .ag m.cells

/-- Is a field zero? -/
def zeroOk (m : Msg) (f : Int) : Bool :=
  if f = 1 then m.host == [] else if f = 2 then decide (m.epoch = 0) else if f = 3 then decide (m.seq = 0) else if f = 4 then decide (m.to_ = 0) else decide (m.body.length = 0)

theorem wire_zero {f : Nat} (ok : FnOK P f 30 Ic.wire_zeroField [(4, none)]) (m : Msg) (n : Int) :
    FC P f [.p m.pv, VI n] [] (VT (zeroOk m n)) [] := by
  refine ok.fc rfl rfl rfl ?_
  refine D_seq (D_reg ?_)
  refine o_box (.vs 6 [m.cells.map .p]) rfl rfl rfl rfl rfl rfl ?_
  refine o_pu rfl rfl rfl rfl trivial ?_
  refine o_nil ?_
  refine D_seq (D_seq (D_reg ?_))
  refine o_pu rfl rfl rfl rfl trivial ?_
  refine o_nil ?_
  refine D_block (D_seq (D_reg ?_))
  iterate 2 refine o_pu rfl rfl rfl rfl trivial ?_
  refine o_nil ?_
  refine D_cond rfl (fun h => ?_) (fun h1 => ?_)
  · have h := of_decide_eq_true h
    subst h
    refine D_seq (D_reg ?_)
    refine o_pu rfl rfl rfl rfl trivial ?_
    refine o_pu rfl rfl rfl rfl ⟨rfl, Nat.zero_lt_succ _⟩ ?_
    iterate 2 refine o_pu rfl rfl rfl rfl trivial ?_
    refine o_nil ?_
    refine D_ret ?_
    exact ⟨_, [], [], .tmp rfl (.nil _), rfl, rfl, rfl, rfl, rfl, ⟨⟨_, rfl, .same rfl, rfl⟩, trivial⟩, trivial⟩
  have h1 := of_decide_eq_false h1
  refine D_seq (D_reg ?_)
  iterate 2 refine o_pu rfl rfl rfl rfl trivial ?_
  refine o_nil ?_
  refine D_cond rfl (fun h => ?_) (fun h2 => ?_)
  · have h := of_decide_eq_true h
    subst h
    refine D_seq (D_reg ?_)
    refine o_pu rfl rfl rfl rfl trivial ?_
    refine o_pu rfl rfl rfl rfl ⟨rfl, Nat.zero_lt_succ _⟩ ?_
    iterate 2 refine o_pu rfl rfl rfl rfl trivial ?_
    refine o_nil ?_
    refine D_ret ?_
    exact ⟨_, [], [], .tmp rfl (.nil _), rfl, rfl, rfl, rfl, rfl, ⟨⟨_, rfl, .same rfl, rfl⟩, trivial⟩, trivial⟩
  have h2 := of_decide_eq_false h2
  refine D_seq (D_reg ?_)
  iterate 2 refine o_pu rfl rfl rfl rfl trivial ?_
  refine o_nil ?_
  refine D_cond rfl (fun h => ?_) (fun h3 => ?_)
  · have h := of_decide_eq_true h
    subst h
    refine D_seq (D_reg ?_)
    refine o_pu rfl rfl rfl rfl trivial ?_
    refine o_pu rfl rfl rfl rfl ⟨rfl, Nat.zero_lt_succ _⟩ ?_
    iterate 2 refine o_pu rfl rfl rfl rfl trivial ?_
    refine o_nil ?_
    refine D_ret ?_
    exact ⟨_, [], [], .tmp rfl (.nil _), rfl, rfl, rfl, rfl, rfl, ⟨⟨_, rfl, .same rfl, rfl⟩, trivial⟩, trivial⟩
  have h3 := of_decide_eq_false h3
  refine D_seq (D_reg ?_)
  iterate 2 refine o_pu rfl rfl rfl rfl trivial ?_
  refine o_nil ?_
  refine D_cond rfl (fun h => ?_) (fun h4 => ?_)
  · have h := of_decide_eq_true h
    subst h
    refine D_seq (D_reg ?_)
    refine o_pu rfl rfl rfl rfl trivial ?_
    refine o_pu rfl rfl rfl rfl ⟨rfl, Nat.zero_lt_succ _⟩ ?_
    iterate 2 refine o_pu rfl rfl rfl rfl trivial ?_
    refine o_nil ?_
    refine D_ret ?_
    exact ⟨_, [], [], .tmp rfl (.nil _), rfl, rfl, rfl, rfl, rfl, ⟨⟨_, rfl, .same rfl, rfl⟩, trivial⟩, trivial⟩
  have h4 := of_decide_eq_false h4
  refine D_skip ?_
  refine D_seq (D_reg ?_)
  refine o_pu rfl rfl rfl rfl trivial ?_
  refine o_pu rfl rfl rfl rfl ⟨rfl, Nat.zero_lt_succ _⟩ ?_
  refine o_lenM _ _ rfl rfl ?_
  iterate 2 refine o_pu rfl rfl rfl rfl trivial ?_
  refine o_nil ?_
  refine D_ret ?_
  have e : zeroOk m n = decide ((m.body.length : Int) = 0) := by
    simp only [zeroOk, if_neg h1, if_neg h2, if_neg h3, if_neg h4]
    exact decide_eq_decide.2 (by omega)
  rw [e]
  exact ⟨_, [], [], .tmp rfl (.nil _), rfl, rfl, rfl, rfl, rfl, ⟨⟨_, rfl, .same rfl, rfl⟩, trivial⟩, trivial⟩
end
end Go.DW

/- Which messages are valid: host names, fields. -/
namespace Go.DW
section
variable {P : Program} (hm : P.follows .mixedOrders = true)

theorem log_hostname {f : Nat} (ok : FnOK P f 36 Ic.logfile_HostName [(2, none)]) (s : List UInt8) : FC P f [VS s] [] (VT (hostOk s)) [] := by
  refine ok.fc rfl rfl rfl ?_
  refine D_seq (D_reg ?_)
  refine o_pu rfl rfl rfl rfl trivial ?_
  refine o_nil ?_
  refine D_seq (D_seq (D_reg ?_))
  iterate 4 refine o_pu rfl rfl rfl rfl trivial ?_
  refine o_br 8 rfl (fun q => ?_) (fun q => ?_)
  · have q : ¬ 1 ≤ s.length := by have := of_decide_eq_true q; omega
    iterate 3 refine o_skp rfl ?_
    refine o_pu rfl rfl rfl rfl trivial ?_
    refine o_nil ?_
    refine D_cond rfl (fun _ => ?_) (fun h => by cases h)
    refine D_seq (D_reg ?_)
    refine o_pu rfl rfl rfl rfl trivial ?_
    refine o_nil ?_
    refine D_ret ?_
    have e : hostOk s = false := by simp [hostOk, q]
    rw [e]
    exact ⟨_, [], [], .tmp rfl (.nil _), rfl, rfl, rfl, rfl, rfl, ⟨⟨_, rfl, .same rfl, rfl⟩, trivial⟩, trivial⟩
  have q : 1 ≤ s.length := by have := of_decide_eq_false q; omega
  iterate 4 refine o_pu rfl rfl rfl rfl trivial ?_
  refine o_nil ?_
  refine D_cond rfl (fun p => ?_) (fun p => ?_)
  · have p : ¬ s.length ≤ 16 := by have := of_decide_eq_true p; omega
    refine D_seq (D_reg ?_)
    refine o_pu rfl rfl rfl rfl trivial ?_
    refine o_nil ?_
    refine D_ret ?_
    have e : hostOk s = false := by simp [hostOk, p]
    rw [e]
    exact ⟨_, [], [], .tmp rfl (.nil _), rfl, rfl, rfl, rfl, rfl, ⟨⟨_, rfl, .same rfl, rfl⟩, trivial⟩, trivial⟩
  have p : s.length ≤ 16 := by have := of_decide_eq_false p; omega
  refine D_skip ?_
  refine D_seq (D_seq (D_reg ?_))
  iterate 3 refine o_pu rfl rfl rfl rfl trivial ?_
  refine o_nil ?_
  refine D_block ?_
  refine D_loop (ι := HostI s) (fun x => ⟨[(0, VS s), (14, VI s.length), (15, VI x.i)], []⟩) (fun x => s.length - x.i) ⟨0, by omega, rfl⟩ [] [] [] ⟨rfl, rfl, rfl, rfl, rfl, ⟨⟨_, rfl, .same rfl, rfl⟩, ⟨_, rfl, .same rfl, rfl⟩, ⟨_, rfl, .same rfl, rfl⟩, trivial⟩, trivial⟩ (fun x => ?_)
  obtain ⟨i, hi, hall⟩ := x
  simp only
  refine D_seq (D_reg ?_)
  refine o_pu rfl rfl rfl rfl trivial ?_
  refine o_nil ?_
  refine D_seq (D_cond rfl (fun h => ?_) (fun h => ?_))
  · have hlt : i < s.length := by simpa using h
    refine D_skip ?_
    have e0 : (s.getD (i : Int).toNat 0) = s.getD i 0 := rfl
    refine D_cut (ι := PLift (charOk (s.getD i 0) = true)) (fun _ => ⟨[(0, VS s), (14, VI s.length), (15, VI i)], []⟩) (D_block (D_seq (D_reg ?_))) (fun hc => ?_)
    · iterate 2 refine o_pu rfl rfl rfl rfl trivial ?_
      refine o_nil ?_
      refine D_seq (D_reg ?_)
      iterate 2 refine o_pu rfl rfl rfl rfl trivial ?_
      refine o_idxS _ rfl rfl (by omega) ?_
      refine o_pu rfl rfl rfl rfl trivial ?_
      refine o_nil ?_
      refine D_seq (D_reg ?_)
      rw [e0]
      iterate 3 refine o_pu rfl rfl rfl rfl trivial ?_
      have n1 := (s.getD i 0).toNat_lt
      refine o_br 23 rfl (fun q1 => ?_) (fun q1 => ?_)
      · have q1 : (s.getD i 0).toNat < 97 := by have := of_decide_eq_true q1; omega
        iterate 2 refine o_skp rfl ?_
        iterate 5 refine o_pu rfl rfl rfl rfl trivial ?_
        refine o_br 30 rfl (fun q2 => ?_) (fun q2 => ?_)
        · have q2 : (s.getD i 0).toNat < 48 := by have := of_decide_eq_true q2; omega
          iterate 2 refine o_skp rfl ?_
          iterate 2 refine o_pu rfl rfl rfl rfl trivial ?_
          refine o_nil ?_
          refine D_cond rfl (fun _ => ?_) (fun h => by cases h)
          refine D_seq (D_reg ?_)
          refine o_pu rfl rfl rfl rfl trivial ?_
          refine o_nil ?_
          refine D_ret ?_
          have e : hostOk s = false := by
            simp only [hostOk, all_at hlt (charOk_false (by omega)), Bool.and_false]
          rw [e]
          exact ⟨_, [], [], .tmp rfl (.nil _), rfl, rfl, rfl, rfl, rfl, ⟨⟨_, rfl, .same rfl, rfl⟩, trivial⟩, trivial⟩
        · have q2 : ¬ (s.getD i 0).toNat < 48 := by have := of_decide_eq_false q2; omega
          iterate 4 refine o_pu rfl rfl rfl rfl trivial ?_
          refine o_nil ?_
          refine D_cond rfl (fun q3 => ?_) (fun q3 => ?_)
          · have q3 : 57 < (s.getD i 0).toNat := by have := of_decide_eq_true q3; omega
            refine D_seq (D_reg ?_)
            refine o_pu rfl rfl rfl rfl trivial ?_
            refine o_nil ?_
            refine D_ret ?_
            have e : hostOk s = false := by
              simp only [hostOk, all_at hlt (charOk_false (by omega)), Bool.and_false]
            rw [e]
            exact ⟨_, [], [], .tmp rfl (.nil _), rfl, rfl, rfl, rfl, rfl, ⟨⟨_, rfl, .same rfl, rfl⟩, trivial⟩, trivial⟩
          · have q3 : ¬ 57 < (s.getD i 0).toNat := by have := of_decide_eq_false q3; omega
            refine D_skip ?_
            exact ⟨⟨charOk_true (by omega)⟩, [], [], [], ⟨rfl, rfl, rfl, rfl, rfl, ⟨⟨_, rfl, .same rfl, rfl⟩, ⟨_, rfl, .same rfl, rfl⟩, ⟨_, rfl, .same rfl, rfl⟩, trivial⟩, trivial⟩⟩
      · have q1 : ¬ (s.getD i 0).toNat < 97 := by have := of_decide_eq_false q1; omega
        iterate 4 refine o_pu rfl rfl rfl rfl trivial ?_
        refine o_br 27 rfl (fun q2 => ?_) (fun q2 => ?_)
        · have q2 : 122 < (s.getD i 0).toNat := by have := of_decide_eq_true q2; omega
          iterate 3 refine o_pu rfl rfl rfl rfl trivial ?_
          refine o_is 30 false rfl (decide_eq_false (by omega)) ?_
          iterate 4 refine o_pu rfl rfl rfl rfl trivial ?_
          refine o_nil ?_
          refine D_cond rfl (fun q3 => ?_) (fun q3 => ?_)
          · refine D_seq (D_reg ?_)
            refine o_pu rfl rfl rfl rfl trivial ?_
            refine o_nil ?_
            refine D_ret ?_
            have e : hostOk s = false := by
              simp only [hostOk, all_at hlt (charOk_false (by omega)), Bool.and_false]
            rw [e]
            exact ⟨_, [], [], .tmp rfl (.nil _), rfl, rfl, rfl, rfl, rfl, ⟨⟨_, rfl, .same rfl, rfl⟩, trivial⟩, trivial⟩
          · have q3 : ¬ 57 < (s.getD i 0).toNat := by have := of_decide_eq_false q3; omega
            omega
        · have q2 : ¬ 122 < (s.getD i 0).toNat := by have := of_decide_eq_false q2; omega
          iterate 6 refine o_skp rfl ?_
          refine o_pu rfl rfl rfl rfl trivial ?_
          refine o_nil ?_
          refine D_cond rfl (fun q3 => by cases q3) (fun q3 => ?_)
          refine D_skip ?_
          exact ⟨⟨charOk_true (by omega)⟩, [], [], [], ⟨rfl, rfl, rfl, rfl, rfl, ⟨⟨_, rfl, .same rfl, rfl⟩, ⟨_, rfl, .same rfl, rfl⟩, ⟨_, rfl, .same rfl, rfl⟩, trivial⟩, trivial⟩⟩
    · refine D_reg ?_
      refine o_i64 rfl rfl rfl rfl trivial (by omega) ?_
      refine o_pu rfl rfl rfl rfl trivial ?_
      refine o_nil ?_
      exact ⟨⟨i + 1, hlt, all_take hlt hall hc.down⟩, [], [], [], by simp only; omega, ⟨rfl, rfl, rfl, rfl, rfl, ⟨⟨_, rfl, .same rfl, rfl⟩, ⟨_, rfl, .same rfl, rfl⟩, ⟨_, rfl, .same rfl, rfl⟩, trivial⟩, trivial⟩⟩
  · have hge : ¬ i < s.length := by simpa using h
    have e : i = s.length := by omega
    subst e
    rw [List.take_length] at hall
    refine D_exit ?_
    refine D_seq (D_reg ?_)
    refine o_pu rfl rfl rfl rfl trivial ?_
    refine o_nil ?_
    refine D_ret ?_
    have e : hostOk s = true := by simp only [hostOk, decide_eq_true q, decide_eq_true p, hall, Bool.and_self]
    rw [e]
    exact ⟨_, [], [], .tmp rfl (.nil _), rfl, rfl, rfl, rfl, rfl, ⟨⟨_, rfl, .same rfl, rfl⟩, trivial⟩, trivial⟩

/-! ### Fields -/
def least (k : Int) : Int := if k = 2 ∨ k = 5 then 0 else 1

def maxCount : Int := 1099511627776

def fieldOk (m : Msg) (f : Int) : Bool :=
  if f = 1 then hostOk m.host else if f = 2 then decide (1 ≤ m.epoch) && decide (m.epoch ≤ 1099511627776) else if f = 3 then decide (least m.kind ≤ m.seq) && decide (m.seq ≤ 1099511627776)
  else if f = 4 then decide (m.seq ≤ m.to_) && decide (m.to_ ≤ 1099511627776) else decide (1 ≤ (m.body.length : Int)) && decide ((m.body.length : Int) ≤ 16320)

theorem wire_validField {f fh fw : Nat} (okh : FnOK P fh 36 Ic.logfile_HostName [(2, none)]) (okw : FnOK P fw 15 Ic.wire_within [(6, none)]) (ok : FnOK P f 42 (Ic.wire_validField fh fw) [(4, none)]) (m : Msg) (n : Int) :
    FC P f [.p m.pv, VI n] [] (VT (fieldOk m n)) [] := by
  refine ok.fc rfl rfl rfl ?_
  refine D_seq (D_reg ?_)
  refine o_box (.vs 6 [m.cells.map .p]) rfl rfl rfl rfl rfl rfl ?_
  refine o_pu rfl rfl rfl rfl trivial ?_
  refine o_nil ?_
  refine D_seq (D_seq (D_reg ?_))
  refine o_pu rfl rfl rfl rfl trivial ?_
  refine o_nil ?_
  refine D_block (D_seq (D_reg ?_))
  iterate 2 refine o_pu rfl rfl rfl rfl trivial ?_
  refine o_nil ?_
  refine D_cond rfl (fun h => ?_) (fun h1 => ?_)
  · have h := of_decide_eq_true h
    subst h
    refine D_seq (D_reg ?_)
    refine o_pu rfl rfl rfl rfl trivial ?_
    refine o_pu rfl rfl rfl rfl ⟨rfl, Nat.zero_lt_succ _⟩ ?_
    refine o_callp (log_hostname okh m.host) rfl rfl rfl rfl rfl ?_
    refine o_pu rfl rfl rfl rfl trivial ?_
    refine o_nil ?_
    refine D_ret ?_
    exact ⟨_, [], [], .tmp rfl (.nil _), rfl, rfl, rfl, rfl, rfl, ⟨⟨_, rfl, .same rfl, rfl⟩, trivial⟩, trivial⟩
  have h1 := of_decide_eq_false h1
  refine D_seq (D_reg ?_)
  iterate 2 refine o_pu rfl rfl rfl rfl trivial ?_
  refine o_nil ?_
  refine D_cond rfl (fun h => ?_) (fun h2 => ?_)
  · have h := of_decide_eq_true h
    subst h
    refine D_seq (D_reg ?_)
    refine o_pu rfl rfl rfl rfl trivial ?_
    refine o_pu rfl rfl rfl rfl ⟨rfl, Nat.zero_lt_succ _⟩ ?_
    refine o_callp (wire_within okw m.epoch 1 1099511627776) rfl rfl rfl rfl rfl ?_
    refine o_pu rfl rfl rfl rfl trivial ?_
    refine o_nil ?_
    refine D_ret ?_
    exact ⟨_, [], [], .tmp rfl (.nil _), rfl, rfl, rfl, rfl, rfl, ⟨⟨_, rfl, .same rfl, rfl⟩, trivial⟩, trivial⟩
  have h2 := of_decide_eq_false h2
  refine D_seq (D_reg ?_)
  iterate 2 refine o_pu rfl rfl rfl rfl trivial ?_
  refine o_nil ?_
  refine D_cond rfl (fun h => ?_) (fun h3 => ?_)
  · have h := of_decide_eq_true h
    subst h
    refine D_seq (D_reg ?_)
    refine o_pu rfl rfl rfl rfl trivial ?_
    refine o_nil ?_
    refine D_cut (ι := Unit) (fun _ => ⟨[(2, .ptr 2 0 0), (5, VI (least m.kind))], [(2, some (.vs 6 [m.cells.map .p]))]⟩) (D_seq (D_reg ?_)) (fun _ => ?_)
    · refine o_pu rfl rfl rfl rfl trivial ?_
      refine o_pu rfl rfl rfl rfl ⟨rfl, Nat.zero_lt_succ _⟩ ?_
      iterate 2 refine o_pu rfl rfl rfl rfl trivial ?_
      refine o_br 22 rfl (fun k2 => ?_) (fun k2 => ?_)
      · have k2 := of_decide_eq_true k2
        iterate 3 refine o_skp rfl ?_
        refine o_pu rfl rfl rfl rfl trivial ?_
        refine o_nil ?_
        refine D_cond rfl (fun _ => ?_) (fun h => by cases h)
        refine D_reg ?_
        refine o_pu rfl rfl rfl rfl trivial ?_
        refine o_nil ?_
        have e : least m.kind = 0 := by simp [least, k2]
        rw [e]
        exact ⟨(), [], [], [(2, 2)], ⟨rfl, rfl, rfl, rfl, rfl, ⟨⟨_, rfl, .same rfl, rfl⟩, ⟨_, rfl, .same rfl, rfl⟩, trivial⟩, ⟨⟨rfl, rfl, _, rfl, .same⟩, trivial⟩⟩⟩
      · have k2 := of_decide_eq_false k2
        refine o_pu rfl rfl rfl rfl trivial ?_
        refine o_pu rfl rfl rfl rfl ⟨rfl, Nat.zero_lt_succ _⟩ ?_
        iterate 2 refine o_pu rfl rfl rfl rfl trivial ?_
        refine o_nil ?_
        refine D_cond rfl (fun k5 => ?_) (fun k5 => ?_)
        · have k5 := of_decide_eq_true k5
          refine D_reg ?_
          refine o_pu rfl rfl rfl rfl trivial ?_
          refine o_nil ?_
          have e : least m.kind = 0 := by simp [least, k5]
          rw [e]
          exact ⟨(), [], [], [(2, 2)], ⟨rfl, rfl, rfl, rfl, rfl, ⟨⟨_, rfl, .same rfl, rfl⟩, ⟨_, rfl, .same rfl, rfl⟩, trivial⟩, ⟨⟨rfl, rfl, _, rfl, .same⟩, trivial⟩⟩⟩
        · have k5 := of_decide_eq_false k5
          refine D_skip ?_
          have e : least m.kind = 1 := by
            have : ¬ (m.kind = 2 ∨ m.kind = 5) := fun h => h.elim k2 k5
            simp [least, this]
          rw [e]
          exact ⟨(), [], [], [(2, 2)], ⟨rfl, rfl, rfl, rfl, rfl, ⟨⟨_, rfl, .same rfl, rfl⟩, ⟨_, rfl, .same rfl, rfl⟩, trivial⟩, ⟨⟨rfl, rfl, _, rfl, .same⟩, trivial⟩⟩⟩
    · refine D_seq (D_reg ?_)
      refine o_pu rfl rfl rfl rfl trivial ?_
      refine o_pu rfl rfl rfl rfl ⟨rfl, Nat.zero_lt_succ _⟩ ?_
      refine o_pu rfl rfl rfl rfl trivial ?_
      refine o_callp (wire_within okw m.seq (least m.kind) 1099511627776) rfl rfl rfl rfl rfl ?_
      refine o_pu rfl rfl rfl rfl trivial ?_
      refine o_nil ?_
      refine D_ret ?_
      exact ⟨_, [], [], .tmp rfl (.nil _), rfl, rfl, rfl, rfl, rfl, ⟨⟨_, rfl, .same rfl, rfl⟩, trivial⟩, trivial⟩
  have h3 := of_decide_eq_false h3
  refine D_seq (D_reg ?_)
  iterate 2 refine o_pu rfl rfl rfl rfl trivial ?_
  refine o_nil ?_
  refine D_cond rfl (fun h => ?_) (fun h4 => ?_)
  · have h := of_decide_eq_true h
    subst h
    refine D_seq (D_reg ?_)
    refine o_pu rfl rfl rfl rfl trivial ?_
    refine o_pu rfl rfl rfl rfl ⟨rfl, Nat.zero_lt_succ _⟩ ?_
    refine o_pu rfl rfl rfl rfl trivial ?_
    refine o_pu rfl rfl rfl rfl ⟨rfl, Nat.zero_lt_succ _⟩ ?_
    refine o_callp (wire_within okw m.to_ m.seq 1099511627776) rfl rfl rfl rfl rfl ?_
    refine o_pu rfl rfl rfl rfl trivial ?_
    refine o_nil ?_
    refine D_ret ?_
    exact ⟨_, [], [], .tmp rfl (.nil _), rfl, rfl, rfl, rfl, rfl, ⟨⟨_, rfl, .same rfl, rfl⟩, trivial⟩, trivial⟩
  have h4 := of_decide_eq_false h4
  refine D_skip ?_
  refine D_seq (D_reg ?_)
  refine o_pu rfl rfl rfl rfl trivial ?_
  refine o_pu rfl rfl rfl rfl ⟨rfl, Nat.zero_lt_succ _⟩ ?_
  refine o_lenM _ _ rfl rfl ?_
  refine o_callp (wire_within okw m.body.length 1 16320) rfl rfl rfl rfl rfl ?_
  refine o_pu rfl rfl rfl rfl trivial ?_
  refine o_nil ?_
  refine D_ret ?_
  have e : fieldOk m n = (decide (1 ≤ (m.body.length : Int)) && decide ((m.body.length : Int) ≤ 16320)) := by
    simp only [fieldOk, if_neg h1, if_neg h2, if_neg h3, if_neg h4]
  rw [e]
  exact ⟨_, [], [], .tmp rfl (.nil _), rfl, rfl, rfl, rfl, rfl, ⟨⟨_, rfl, .same rfl, rfl⟩, trivial⟩, trivial⟩
end
end Go.DW

/- Which messages are valid. -/
namespace Go.DW
section
variable {P : Program} (hm : P.follows .mixedOrders = true)

def chk (m : Msg) (f : Int) : Bool := if f ∈ fieldsOf m.kind then fieldOk m f else zeroOk m f

def chkTo (m : Msg) : Nat → Bool
  | 0 => true
  | k + 1 => chkTo m k && chk m ((k : Int) + 1)

theorem chkTo_at {m : Msg} {k : Nat} : ∀ {n : Nat}, chkTo m n = true → k < n → chk m ((k : Int) + 1) = true
  | 0, _, h => by omega
  | n + 1, h, hk => by
    simp only [chkTo, Bool.and_eq_true] at h
    rcases Nat.lt_or_ge k n with hlt | hge
    · exact chkTo_at h.1 hlt
    · have : k = n := by omega
      subst this; exact h.2

def validOk (m : Msg) : Bool := decide (1 ≤ m.kind ∧ m.kind ≤ 7) && chkTo m 5

theorem fieldsOf_len (n : Int) : (fieldsOf n).length ≤ 3 := by
  unfold fieldsOf
  repeat' split
  all_goals simp

structure ValI (m : Msg) where
  k : Nat
  hk : k ≤ 5
  h : chkTo m k = true

abbrev valSt (m : Msg) (k : Nat) : St := ⟨[(1, .ptr 1 0 0), (3, .p (.sl ((fieldsOf m.kind).map PI))), (5, VI ((k : Int) + 1))], [(1, some (.vs 6 [m.cells.map .p]))]⟩
abbrev valSt4 (m : Msg) (k : Nat) (b : Bool) : St := ⟨[(1, .ptr 1 0 0), (3, .p (.sl ((fieldsOf m.kind).map PI))), (4, VT b), (5, VI ((k : Int) + 1))], [(1, some (.vs 6 [m.cells.map .p]))]⟩

theorem wire_valid {f fi fc ff fh fw fv fz : Nat} (oki : FnOK P fi 19 Ic.slices_Index_lint_int [(4, none)]) (okc : FnOK P fc 9 (Ic.slices_Contains_lint_int fi) [(4, none)]) (okf : FnOK P ff 22 Ic.wire_fields [(2, none), (3, none)])
    (okh : FnOK P fh 36 Ic.logfile_HostName [(2, none)]) (okw : FnOK P fw 15 Ic.wire_within [(6, none)]) (okv : FnOK P fv 42 (Ic.wire_validField fh fw) [(4, none)]) (okz : FnOK P fz 30 Ic.wire_zeroField [(4, none)]) (ok : FnOK P f 29 (Ic.wire_Valid fc ff fv fz) [(2, none)]) (m : Msg) :
    FC P f [.p m.pv] [] (VT (validOk m)) [] := by
  refine ok.fc rfl rfl rfl ?_
  refine D_seq (D_reg ?_)
  refine o_box (.vs 6 [m.cells.map .p]) rfl rfl rfl rfl rfl rfl ?_
  refine o_pu rfl rfl rfl rfl trivial ?_
  refine o_nil ?_
  refine D_seq (D_reg ?_)
  refine o_pu rfl rfl rfl rfl trivial ?_
  refine o_pu rfl rfl rfl rfl ⟨rfl, Nat.zero_lt_succ _⟩ ?_
  refine o_callp (wire_fields okf m.kind) rfl rfl rfl rfl rfl ?_
  iterate 5 refine o_pu rfl rfl rfl rfl trivial ?_
  refine o_nil ?_
  refine D_seq (D_seq (D_reg ?_))
  iterate 2 refine o_pu rfl rfl rfl rfl trivial ?_
  refine o_nil ?_
  refine D_cond rfl (fun h => ?_) (fun h => ?_)
  · have h : decide (1 ≤ m.kind ∧ m.kind ≤ 7) = false := by
      revert h
      cases decide (1 ≤ m.kind ∧ m.kind ≤ 7) <;> simp
    refine D_seq (D_reg ?_)
    refine o_pu rfl rfl rfl rfl trivial ?_
    refine o_nil ?_
    refine D_ret ?_
    have e : validOk m = false := by simp only [validOk, h, Bool.false_and]
    rw [e]
    exact ⟨_, [], [], .tmp rfl (.nil _), rfl, rfl, rfl, rfl, rfl, ⟨⟨_, rfl, .same rfl, rfl⟩, trivial⟩, trivial⟩
  have hr : decide (1 ≤ m.kind ∧ m.kind ≤ 7) = true := by
    revert h
    cases decide (1 ≤ m.kind ∧ m.kind ≤ 7) <;> simp
  refine D_skip ?_
  refine D_seq (D_seq (D_reg ?_))
  refine o_pu rfl rfl rfl rfl trivial ?_
  refine o_nil ?_
  refine D_block ?_
  refine D_loop (ι := ValI m) (fun x => valSt m x.k) (fun x => 5 - x.k) ⟨0, by omega, rfl⟩ [] [] [(1, 1)] ⟨rfl, rfl, rfl, rfl, rfl, ⟨⟨_, rfl, .same rfl, rfl⟩, ⟨_, rfl, .same rfl, rfl⟩, ⟨_, rfl, .same rfl, rfl⟩, trivial⟩, ⟨⟨rfl, rfl, _, rfl, .same⟩, trivial⟩⟩ (fun x => ?_)
  obtain ⟨k, hk, hx⟩ := x
  simp only
  refine D_seq (D_seq (D_reg ?_))
  iterate 2 refine o_pu rfl rfl rfl rfl trivial ?_
  refine o_nil ?_
  refine D_cond rfl (fun h => ?_) (fun h => ?_)
  · have hlt : k < 5 := by have := of_decide_eq_true h; omega
    refine D_skip ?_
    refine D_seq (D_block (D_cut (ι := Unit) (fun _ => valSt4 m k (chk m ((k : Int) + 1))) (D_seq (D_reg ?_)) (fun _ => ?_)))
    · iterate 2 refine o_pu rfl rfl rfl rfl trivial ?_
      have hl := fieldsOf_len m.kind
      refine o_callp (slices_contains oki okc (fieldsOf m.kind) ((k : Int) + 1) (by omega)) rfl rfl rfl rfl rfl ?_
      refine o_nil ?_
      refine D_cond rfl (fun c => ?_) (fun c => ?_)
      · have c := of_decide_eq_true c
        have e : chk m ((k : Int) + 1) = fieldOk m ((k : Int) + 1) := if_pos c
        rw [e]
        refine D_reg ?_
        refine o_as (.p m.pv) rfl rfl rfl rfl ⟨Nat.zero_lt_succ _, Nat.le_refl _, rfl⟩ rfl ?_
        refine o_pu rfl rfl rfl rfl trivial ?_
        refine o_callp (wire_validField okh okw okv m ((k : Int) + 1)) rfl rfl rfl rfl rfl ?_
        refine o_pu rfl rfl rfl rfl trivial ?_
        refine o_nil ?_
        exact ⟨(), [], [], [(1, 1)], ⟨rfl, rfl, rfl, rfl, rfl, ⟨⟨_, rfl, .same rfl, rfl⟩, ⟨_, rfl, .same rfl, rfl⟩, ⟨_, rfl, .same rfl, rfl⟩, ⟨_, rfl, .same rfl, rfl⟩, trivial⟩, ⟨⟨rfl, rfl, _, rfl, .same⟩, trivial⟩⟩⟩
      · have c := of_decide_eq_false c
        have e : chk m ((k : Int) + 1) = zeroOk m ((k : Int) + 1) := if_neg c
        rw [e]
        refine D_reg ?_
        refine o_as (.p m.pv) rfl rfl rfl rfl ⟨Nat.zero_lt_succ _, Nat.le_refl _, rfl⟩ rfl ?_
        refine o_pu rfl rfl rfl rfl trivial ?_
        refine o_callp (wire_zero okz m ((k : Int) + 1)) rfl rfl rfl rfl rfl ?_
        refine o_pu rfl rfl rfl rfl trivial ?_
        refine o_nil ?_
        exact ⟨(), [], [], [(1, 1)], ⟨rfl, rfl, rfl, rfl, rfl, ⟨⟨_, rfl, .same rfl, rfl⟩, ⟨_, rfl, .same rfl, rfl⟩, ⟨_, rfl, .same rfl, rfl⟩, ⟨_, rfl, .same rfl, rfl⟩, trivial⟩, ⟨⟨rfl, rfl, _, rfl, .same⟩, trivial⟩⟩⟩
    · refine D_seq (D_reg ?_)
      iterate 2 refine o_pu rfl rfl rfl rfl trivial ?_
      refine o_nil ?_
      refine D_cond rfl (fun c => ?_) (fun c => ?_)
      · have c : chk m ((k : Int) + 1) = false := by simpa using c
        refine D_seq (D_reg ?_)
        refine o_pu rfl rfl rfl rfl trivial ?_
        refine o_nil ?_
        refine D_ret ?_
        have e : validOk m = false := by
          cases hc : chkTo m 5 with
          | false => simp only [validOk, hc, Bool.and_false]
          | true => rw [chkTo_at hc hlt] at c; cases c
        rw [e]
        exact ⟨_, [], [], .tmp rfl (.nil _), rfl, rfl, rfl, rfl, rfl, ⟨⟨_, rfl, .same rfl, rfl⟩, trivial⟩, trivial⟩
      · have c : chk m ((k : Int) + 1) = true := by simpa using c
        refine D_skip ?_
        refine D_reg ?_
        refine o_pu rfl rfl rfl rfl trivial ?_
        refine o_i64 rfl rfl rfl rfl trivial (by omega) ?_
        refine o_pu rfl rfl rfl rfl trivial ?_
        refine o_nil ?_
        exact ⟨⟨k + 1, hlt, by simp only [chkTo, hx, c, Bool.and_self]⟩, [], [], [(1, 1)], by simp only; omega, ⟨rfl, rfl, rfl, rfl, rfl, ⟨⟨_, rfl, .same rfl, rfl⟩, ⟨_, rfl, .same rfl, rfl⟩, ⟨_, rfl, .same rfl, rfl⟩, trivial⟩, ⟨⟨rfl, rfl, _, rfl, .same⟩, trivial⟩⟩⟩
  · have hge : k = 5 := by have := of_decide_eq_false h; omega
    subst hge
    refine D_exit ?_
    refine D_seq (D_reg ?_)
    refine o_pu rfl rfl rfl rfl trivial ?_
    refine o_nil ?_
    refine D_ret ?_
    have e : validOk m = true := by simp only [validOk, hr, hx, Bool.and_self]
    rw [e]
    exact ⟨_, [], [], .tmp rfl (.nil _), rfl, rfl, rfl, rfl, rfl, ⟨⟨_, rfl, .same rfl, rfl⟩, trivial⟩, trivial⟩
end
end Go.DW

/- Which messages are valid by the reference. -/
namespace Go.DW
def vc1 (h : Bool) (m : Msg) : Bool := if h then !(hostOk m.host && decide (1 ≤ m.epoch) && decide (m.epoch ≤ 1099511627776)) else !(m.host == [] && decide (m.epoch = 0))
def vc2 (s : Bool) (m : Msg) : Bool := if s then !(decide (least m.kind ≤ m.seq) && decide (m.seq ≤ 1099511627776)) else !(decide (m.seq = 0))
def vc3 (t : Bool) (m : Msg) : Bool := if t then !(decide (m.seq ≤ m.to_) && decide (m.to_ ≤ 1099511627776)) else !decide (m.to_ = 0)
def vc4 (b : Bool) (m : Msg) : Bool := if b then decide (1 ≤ (m.body.length : Int)) && decide ((m.body.length : Int) ≤ 16320) else decide ((m.body.length : Int) = 0)

theorem validOk_eq (m : Msg) : validOk m = (decide (1 ≤ m.kind ∧ m.kind ≤ 7) && !(vc1 (decide (m.kind = 1)) m) && !(vc2 (decide (1 ≤ m.kind ∧ m.kind ≤ 5)) m) && !(vc3 (decide (m.kind = 4)) m) && vc4 (decide (m.kind = 3)) m) := by
  obtain ⟨kind, host, epoch, seq, to_, body⟩ := m
  by_cases hr : 1 ≤ kind ∧ kind ≤ 7
  · have hk : kind = 1 ∨ kind = 2 ∨ kind = 3 ∨ kind = 4 ∨ kind = 5 ∨ kind = 6 ∨ kind = 7 := by omega
    rcases hk with rfl | rfl | rfl | rfl | rfl | rfl | rfl <;>
      simp [validOk, chkTo, chk, fieldsOf, fieldOk, zeroOk, vc1, vc2, vc3, vc4, least, Bool.and_assoc] <;> (try ac_rfl)
  · simp [validOk, hr]

section
variable {P : Program} (hm : P.follows .mixedOrders = true)

abbrev rvSt (m : Msg) : St := ⟨[(1, .ptr 1 0 0), (3, VT (decide (m.kind = 1))), (4, VT (decide (1 ≤ m.kind ∧ m.kind ≤ 5))), (5, VT (decide (m.kind = 4))), (6, VT (decide (m.kind = 3))), (7, VI (least m.kind))], [(1, some (.vs 6 [m.cells.map .p]))]⟩

set_option maxHeartbeats 2000000 in
theorem ref_valid {f fh fu : Nat} (okh : FnOK P fh 36 Ic.ref25_HostName [(2, none)]) (oku : FnOK P fu 16 Ic.ref33_uses [(2, none), (3, none), (4, none), (5, none)]) (ok : FnOK P f 129 (Ic.ref33_Valid fh fu) [(2, none)]) (m : Msg) (hs : m.host.length ≤ 9223372036854775807) :
    FC P f [.p m.pv] [] (VT (validOk m)) [] := by
  refine ok.fc rfl rfl rfl ?_
  refine D_seq (D_reg ?_)
  refine o_box (.vs 6 [m.cells.map .p]) rfl rfl rfl rfl rfl rfl ?_
  refine o_pu rfl rfl rfl rfl trivial ?_
  refine o_nil ?_
  refine D_cut (ι := PLift (1 ≤ m.kind ∧ m.kind ≤ 7)) (fun _ => ⟨[(1, .ptr 1 0 0)], [(1, some (.vs 6 [m.cells.map .p]))]⟩) (D_seq (D_reg ?_)) (fun hr => ?_)
  · refine o_pu rfl rfl rfl rfl trivial ?_
    refine o_pu rfl rfl rfl rfl ⟨rfl, Nat.zero_lt_succ _⟩ ?_
    iterate 2 refine o_pu rfl rfl rfl rfl trivial ?_
    refine o_brg rfl (fun q => ?_) (fun q => ?_)
    · have q := of_decide_eq_true q
      iterate 3 refine o_skp rfl ?_
      refine o_pu rfl rfl rfl rfl trivial ?_
      refine o_nil ?_
      refine D_cond rfl (fun _ => ?_) (fun h => by cases h)
      refine D_seq (D_reg ?_)
      refine o_pu rfl rfl rfl rfl trivial ?_
      refine o_nil ?_
      refine D_ret ?_
      have e : validOk m = false := by rw [validOk_eq]; simp [show ¬ (1 ≤ m.kind) by omega]
      rw [e]
      exact ⟨_, [], [], .tmp rfl (.nil _), rfl, rfl, rfl, rfl, rfl, ⟨⟨_, rfl, .same rfl, rfl⟩, trivial⟩, trivial⟩
    · have q := of_decide_eq_false q
      refine o_pu rfl rfl rfl rfl trivial ?_
      refine o_pu rfl rfl rfl rfl ⟨rfl, Nat.zero_lt_succ _⟩ ?_
      iterate 2 refine o_pu rfl rfl rfl rfl trivial ?_
      refine o_nil ?_
      refine D_cond rfl (fun p => ?_) (fun p => ?_)
      · have p := of_decide_eq_true p
        refine D_seq (D_reg ?_)
        refine o_pu rfl rfl rfl rfl trivial ?_
        refine o_nil ?_
        refine D_ret ?_
        have e : validOk m = false := by rw [validOk_eq]; simp [show ¬ (m.kind ≤ 7) by omega]
        rw [e]
        exact ⟨_, [], [], .tmp rfl (.nil _), rfl, rfl, rfl, rfl, rfl, ⟨⟨_, rfl, .same rfl, rfl⟩, trivial⟩, trivial⟩
      · have p := of_decide_eq_false p
        refine D_skip ?_
        exact ⟨⟨by omega⟩, [], [], [(1, 1)], ⟨rfl, rfl, rfl, rfl, rfl, ⟨⟨_, rfl, .same rfl, rfl⟩, trivial⟩, ⟨⟨rfl, rfl, _, rfl, .same⟩, trivial⟩⟩⟩
  have hr := hr.down
  refine D_seq (D_reg ?_)
  refine o_pu rfl rfl rfl rfl trivial ?_
  refine o_pu rfl rfl rfl rfl ⟨rfl, Nat.zero_lt_succ _⟩ ?_
  refine o_callp (ref_uses oku m.kind) rfl rfl rfl rfl rfl ?_
  iterate 9 refine o_pu rfl rfl rfl rfl trivial ?_
  refine o_nil ?_
  refine D_seq (D_reg ?_)
  refine o_pu rfl rfl rfl rfl trivial ?_
  refine o_nil ?_
  refine D_cut (ι := Unit) (fun _ => rvSt m) (D_seq (D_reg ?_)) (fun _ => ?_)
  · refine o_pu rfl rfl rfl rfl trivial ?_
    refine o_pu rfl rfl rfl rfl ⟨rfl, Nat.zero_lt_succ _⟩ ?_
    iterate 2 refine o_pu rfl rfl rfl rfl trivial ?_
    refine o_brg rfl (fun q => ?_) (fun q => ?_)
    · have q := of_decide_eq_true q
      have e : least m.kind = 0 := by simp [least, q]
      iterate 3 refine o_skp rfl ?_
      refine o_pu rfl rfl rfl rfl trivial ?_
      refine o_nil ?_
      refine D_cond rfl (fun _ => ?_) (fun h => by cases h)
      refine D_reg ?_
      refine o_pu rfl rfl rfl rfl trivial ?_
      refine o_nil ?_
      simp only [rvSt, e]
      exact ⟨(), [], [], [(1, 1)], ⟨rfl, rfl, rfl, rfl, rfl, ⟨⟨_, rfl, .same rfl, rfl⟩, ⟨_, rfl, .same rfl, rfl⟩, ⟨_, rfl, .same rfl, rfl⟩, ⟨_, rfl, .same rfl, rfl⟩, ⟨_, rfl, .same rfl, rfl⟩, ⟨_, rfl, .same rfl, rfl⟩, trivial⟩, ⟨⟨rfl, rfl, _, rfl, .same⟩, trivial⟩⟩⟩
    · have q := of_decide_eq_false q
      refine o_pu rfl rfl rfl rfl trivial ?_
      refine o_pu rfl rfl rfl rfl ⟨rfl, Nat.zero_lt_succ _⟩ ?_
      iterate 2 refine o_pu rfl rfl rfl rfl trivial ?_
      refine o_nil ?_
      refine D_cond rfl (fun p => ?_) (fun p => ?_)
      · have p := of_decide_eq_true p
        have e : least m.kind = 0 := by simp [least, p]
        refine D_reg ?_
        refine o_pu rfl rfl rfl rfl trivial ?_
        refine o_nil ?_
        simp only [rvSt, e]
        exact ⟨(), [], [], [(1, 1)], ⟨rfl, rfl, rfl, rfl, rfl, ⟨⟨_, rfl, .same rfl, rfl⟩, ⟨_, rfl, .same rfl, rfl⟩, ⟨_, rfl, .same rfl, rfl⟩, ⟨_, rfl, .same rfl, rfl⟩, ⟨_, rfl, .same rfl, rfl⟩, ⟨_, rfl, .same rfl, rfl⟩, trivial⟩, ⟨⟨rfl, rfl, _, rfl, .same⟩, trivial⟩⟩⟩
      · have p := of_decide_eq_false p
        have e : least m.kind = 1 := by simp [least, q, p]
        refine D_skip ?_
        simp only [rvSt, e]
        exact ⟨(), [], [], [(1, 1)], ⟨rfl, rfl, rfl, rfl, rfl, ⟨⟨_, rfl, .same rfl, rfl⟩, ⟨_, rfl, .same rfl, rfl⟩, ⟨_, rfl, .same rfl, rfl⟩, ⟨_, rfl, .same rfl, rfl⟩, ⟨_, rfl, .same rfl, rfl⟩, ⟨_, rfl, .same rfl, rfl⟩, trivial⟩, ⟨⟨rfl, rfl, _, rfl, .same⟩, trivial⟩⟩⟩
  refine D_cut (ι := PLift (vc1 (decide (m.kind = 1)) m = false)) (fun _ => rvSt m) (D_seq (D_reg ?_)) (fun h1 => ?_)
  · unfold rvSt
    cases hk : decide (m.kind = 1)
    · iterate 2 refine o_pu rfl rfl rfl rfl trivial ?_
      iterate 14 refine o_skp rfl ?_
      iterate 6 refine o_pu rfl rfl rfl rfl trivial ?_
      refine o_pu rfl rfl rfl rfl ⟨rfl, Nat.zero_lt_succ _⟩ ?_
      iterate 2 refine o_pu rfl rfl rfl rfl trivial ?_
      refine o_brg rfl (fun q => ?_) (fun q => ?_)
      · have q : m.host ≠ [] := by simpa using q
        iterate 3 refine o_skp rfl ?_
        iterate 3 refine o_pu rfl rfl rfl rfl trivial ?_
        refine o_nil ?_
        refine D_cond rfl (fun _ => ?_) (fun h => by cases h)
        refine D_seq (D_reg ?_)
        refine o_pu rfl rfl rfl rfl trivial ?_
        refine o_nil ?_
        refine D_ret ?_
        have e : validOk m = false := by rw [validOk_eq]; simp [hk, vc1, q]
        rw [e]
        exact ⟨_, [], [], .tmp rfl (.nil _), rfl, rfl, rfl, rfl, rfl, ⟨⟨_, rfl, .same rfl, rfl⟩, trivial⟩, trivial⟩
      · have q : m.host = [] := by simpa using q
        refine o_pu rfl rfl rfl rfl trivial ?_
        refine o_pu rfl rfl rfl rfl ⟨rfl, Nat.zero_lt_succ _⟩ ?_
        iterate 4 refine o_pu rfl rfl rfl rfl trivial ?_
        refine o_nil ?_
        refine D_cond rfl (fun p => ?_) (fun p => ?_)
        · have p : m.epoch ≠ 0 := by simpa using p
          refine D_seq (D_reg ?_)
          refine o_pu rfl rfl rfl rfl trivial ?_
          refine o_nil ?_
          refine D_ret ?_
          have e : validOk m = false := by rw [validOk_eq]; simp [hk, vc1, q, p]
          rw [e]
          exact ⟨_, [], [], .tmp rfl (.nil _), rfl, rfl, rfl, rfl, rfl, ⟨⟨_, rfl, .same rfl, rfl⟩, trivial⟩, trivial⟩
        · have p : m.epoch = 0 := by simpa using p
          refine D_skip ?_
          exact ⟨⟨by simp [vc1, q, p]⟩, [], [], [(1, 1)], ⟨rfl, rfl, rfl, rfl, rfl, ⟨⟨_, rfl, .same rfl, rfl⟩, ⟨_, rfl, .same rfl, rfl⟩, ⟨_, rfl, .same rfl, rfl⟩, ⟨_, rfl, .same rfl, rfl⟩, ⟨_, rfl, .same rfl, rfl⟩, ⟨_, rfl, .same rfl, rfl⟩, trivial⟩, ⟨⟨rfl, rfl, _, rfl, .same⟩, trivial⟩⟩⟩
    · iterate 3 refine o_pu rfl rfl rfl rfl trivial ?_
      refine o_pu rfl rfl rfl rfl ⟨rfl, Nat.zero_lt_succ _⟩ ?_
      refine o_callp (ref_hostname okh m.host hs) rfl rfl rfl rfl rfl ?_
      iterate 2 refine o_pu rfl rfl rfl rfl trivial ?_
      refine o_brg rfl (fun q => ?_) (fun q => ?_)
      · have q : hostOk m.host = false := by simpa using q
        iterate 3 refine o_skp rfl ?_
        iterate 2 refine o_pu rfl rfl rfl rfl trivial ?_
        iterate 3 refine o_skp rfl ?_
        iterate 3 refine o_pu rfl rfl rfl rfl trivial ?_
        iterate 12 refine o_skp rfl ?_
        refine o_pu rfl rfl rfl rfl trivial ?_
        refine o_nil ?_
        refine D_cond rfl (fun _ => ?_) (fun h => by cases h)
        refine D_seq (D_reg ?_)
        refine o_pu rfl rfl rfl rfl trivial ?_
        refine o_nil ?_
        refine D_ret ?_
        have e : validOk m = false := by rw [validOk_eq]; simp [hk, vc1, q]
        rw [e]
        exact ⟨_, [], [], .tmp rfl (.nil _), rfl, rfl, rfl, rfl, rfl, ⟨⟨_, rfl, .same rfl, rfl⟩, trivial⟩, trivial⟩
      · have q : hostOk m.host = true := by simpa using q
        refine o_pu rfl rfl rfl rfl trivial ?_
        refine o_pu rfl rfl rfl rfl ⟨rfl, Nat.zero_lt_succ _⟩ ?_
        iterate 3 refine o_pu rfl rfl rfl rfl trivial ?_
        refine o_brg rfl (fun p => ?_) (fun p => ?_)
        · have p := of_decide_eq_true p
          have p1 : ¬ 1 ≤ m.epoch := by omega
          iterate 3 refine o_skp rfl ?_
          iterate 3 refine o_pu rfl rfl rfl rfl trivial ?_
          iterate 12 refine o_skp rfl ?_
          refine o_pu rfl rfl rfl rfl trivial ?_
          refine o_nil ?_
          refine D_cond rfl (fun _ => ?_) (fun h => by cases h)
          refine D_seq (D_reg ?_)
          refine o_pu rfl rfl rfl rfl trivial ?_
          refine o_nil ?_
          refine D_ret ?_
          have e : validOk m = false := by rw [validOk_eq]; simp [hk, vc1, q, p1]
          rw [e]
          exact ⟨_, [], [], .tmp rfl (.nil _), rfl, rfl, rfl, rfl, rfl, ⟨⟨_, rfl, .same rfl, rfl⟩, trivial⟩, trivial⟩
        · have p := of_decide_eq_false p
          have p1 : 1 ≤ m.epoch := by omega
          refine o_pu rfl rfl rfl rfl trivial ?_
          refine o_pu rfl rfl rfl rfl ⟨rfl, Nat.zero_lt_succ _⟩ ?_
          iterate 4 refine o_pu rfl rfl rfl rfl trivial ?_
          refine o_brg rfl (fun r => ?_) (fun r => ?_)
          · have r := of_decide_eq_true r
            have r1 : ¬ m.epoch ≤ 1099511627776 := by omega
            iterate 12 refine o_skp rfl ?_
            refine o_pu rfl rfl rfl rfl trivial ?_
            refine o_nil ?_
            refine D_cond rfl (fun _ => ?_) (fun h => by cases h)
            refine D_seq (D_reg ?_)
            refine o_pu rfl rfl rfl rfl trivial ?_
            refine o_nil ?_
            refine D_ret ?_
            have e : validOk m = false := by rw [validOk_eq]; simp [hk, vc1, q, p1, r1]
            rw [e]
            exact ⟨_, [], [], .tmp rfl (.nil _), rfl, rfl, rfl, rfl, rfl, ⟨⟨_, rfl, .same rfl, rfl⟩, trivial⟩, trivial⟩
          · have r := of_decide_eq_false r
            have r1 : m.epoch ≤ 1099511627776 := by omega
            iterate 3 refine o_pu rfl rfl rfl rfl trivial ?_
            iterate 8 refine o_skp rfl ?_
            iterate 2 refine o_pu rfl rfl rfl rfl trivial ?_
            refine o_nil ?_
            refine D_cond rfl (fun h => by cases h) (fun _ => ?_)
            refine D_skip ?_
            exact ⟨⟨by simp [vc1, q, p1, r1]⟩, [], [], [(1, 1)], ⟨rfl, rfl, rfl, rfl, rfl, ⟨⟨_, rfl, .same rfl, rfl⟩, ⟨_, rfl, .same rfl, rfl⟩, ⟨_, rfl, .same rfl, rfl⟩, ⟨_, rfl, .same rfl, rfl⟩, ⟨_, rfl, .same rfl, rfl⟩, ⟨_, rfl, .same rfl, rfl⟩, trivial⟩, ⟨⟨rfl, rfl, _, rfl, .same⟩, trivial⟩⟩⟩
  refine D_cut (ι := PLift (vc2 (decide (1 ≤ m.kind ∧ m.kind ≤ 5)) m = false)) (fun _ => rvSt m) (D_seq (D_reg ?_)) (fun h2 => ?_)
  · unfold rvSt
    cases hk : decide (1 ≤ m.kind ∧ m.kind ≤ 5)
    · iterate 2 refine o_pu rfl rfl rfl rfl trivial ?_
      iterate 9 refine o_skp rfl ?_
      iterate 6 refine o_pu rfl rfl rfl rfl trivial ?_
      refine o_pu rfl rfl rfl rfl ⟨rfl, Nat.zero_lt_succ _⟩ ?_
      iterate 3 refine o_pu rfl rfl rfl rfl trivial ?_
      refine o_nil ?_
      refine D_cond rfl (fun p => ?_) (fun p => ?_)
      · have p : m.seq ≠ 0 := by simpa using p
        refine D_seq (D_reg ?_)
        refine o_pu rfl rfl rfl rfl trivial ?_
        refine o_nil ?_
        refine D_ret ?_
        have e : validOk m = false := by rw [validOk_eq]; simp [hk, vc2, p]
        rw [e]
        exact ⟨_, [], [], .tmp rfl (.nil _), rfl, rfl, rfl, rfl, rfl, ⟨⟨_, rfl, .same rfl, rfl⟩, trivial⟩, trivial⟩
      · have p : m.seq = 0 := by simpa using p
        refine D_skip ?_
        exact ⟨⟨by simp [vc2, p]⟩, [], [], [(1, 1)], ⟨rfl, rfl, rfl, rfl, rfl, ⟨⟨_, rfl, .same rfl, rfl⟩, ⟨_, rfl, .same rfl, rfl⟩, ⟨_, rfl, .same rfl, rfl⟩, ⟨_, rfl, .same rfl, rfl⟩, ⟨_, rfl, .same rfl, rfl⟩, ⟨_, rfl, .same rfl, rfl⟩, trivial⟩, ⟨⟨rfl, rfl, _, rfl, .same⟩, trivial⟩⟩⟩
    · iterate 3 refine o_pu rfl rfl rfl rfl trivial ?_
      refine o_pu rfl rfl rfl rfl ⟨rfl, Nat.zero_lt_succ _⟩ ?_
      iterate 3 refine o_pu rfl rfl rfl rfl trivial ?_
      refine o_brg rfl (fun p => ?_) (fun p => ?_)
      · have p := of_decide_eq_true p
        have p1 : ¬ least m.kind ≤ m.seq := by omega
        iterate 3 refine o_skp rfl ?_
        iterate 3 refine o_pu rfl rfl rfl rfl trivial ?_
        iterate 7 refine o_skp rfl ?_
        refine o_pu rfl rfl rfl rfl trivial ?_
        refine o_nil ?_
        refine D_cond rfl (fun _ => ?_) (fun h => by cases h)
        refine D_seq (D_reg ?_)
        refine o_pu rfl rfl rfl rfl trivial ?_
        refine o_nil ?_
        refine D_ret ?_
        have e : validOk m = false := by rw [validOk_eq]; simp [hk, vc2, p1]
        rw [e]
        exact ⟨_, [], [], .tmp rfl (.nil _), rfl, rfl, rfl, rfl, rfl, ⟨⟨_, rfl, .same rfl, rfl⟩, trivial⟩, trivial⟩
      · have p := of_decide_eq_false p
        have p1 : least m.kind ≤ m.seq := by omega
        refine o_pu rfl rfl rfl rfl trivial ?_
        refine o_pu rfl rfl rfl rfl ⟨rfl, Nat.zero_lt_succ _⟩ ?_
        iterate 4 refine o_pu rfl rfl rfl rfl trivial ?_
        refine o_brg rfl (fun r => ?_) (fun r => ?_)
        · have r := of_decide_eq_true r
          have r1 : ¬ m.seq ≤ 1099511627776 := by omega
          iterate 7 refine o_skp rfl ?_
          refine o_pu rfl rfl rfl rfl trivial ?_
          refine o_nil ?_
          refine D_cond rfl (fun _ => ?_) (fun h => by cases h)
          refine D_seq (D_reg ?_)
          refine o_pu rfl rfl rfl rfl trivial ?_
          refine o_nil ?_
          refine D_ret ?_
          have e : validOk m = false := by rw [validOk_eq]; simp [hk, vc2, p1, r1]
          rw [e]
          exact ⟨_, [], [], .tmp rfl (.nil _), rfl, rfl, rfl, rfl, rfl, ⟨⟨_, rfl, .same rfl, rfl⟩, trivial⟩, trivial⟩
        · have r := of_decide_eq_false r
          have r1 : m.seq ≤ 1099511627776 := by omega
          iterate 3 refine o_pu rfl rfl rfl rfl trivial ?_
          iterate 3 refine o_skp rfl ?_
          iterate 2 refine o_pu rfl rfl rfl rfl trivial ?_
          refine o_nil ?_
          refine D_cond rfl (fun h => by cases h) (fun _ => ?_)
          refine D_skip ?_
          exact ⟨⟨by simp [vc2, p1, r1]⟩, [], [], [(1, 1)], ⟨rfl, rfl, rfl, rfl, rfl, ⟨⟨_, rfl, .same rfl, rfl⟩, ⟨_, rfl, .same rfl, rfl⟩, ⟨_, rfl, .same rfl, rfl⟩, ⟨_, rfl, .same rfl, rfl⟩, ⟨_, rfl, .same rfl, rfl⟩, ⟨_, rfl, .same rfl, rfl⟩, trivial⟩, ⟨⟨rfl, rfl, _, rfl, .same⟩, trivial⟩⟩⟩
  refine D_cut (ι := PLift (vc3 (decide (m.kind = 4)) m = false)) (fun _ => rvSt m) (D_seq (D_reg ?_)) (fun h3 => ?_)
  · unfold rvSt
    cases hk : decide (m.kind = 4)
    · iterate 2 refine o_pu rfl rfl rfl rfl trivial ?_
      iterate 10 refine o_skp rfl ?_
      iterate 6 refine o_pu rfl rfl rfl rfl trivial ?_
      refine o_pu rfl rfl rfl rfl ⟨rfl, Nat.zero_lt_succ _⟩ ?_
      iterate 3 refine o_pu rfl rfl rfl rfl trivial ?_
      refine o_nil ?_
      refine D_cond rfl (fun p => ?_) (fun p => ?_)
      · have p : m.to_ ≠ 0 := by simpa using p
        refine D_seq (D_reg ?_)
        refine o_pu rfl rfl rfl rfl trivial ?_
        refine o_nil ?_
        refine D_ret ?_
        have e : validOk m = false := by rw [validOk_eq]; simp [hk, vc3, p]
        rw [e]
        exact ⟨_, [], [], .tmp rfl (.nil _), rfl, rfl, rfl, rfl, rfl, ⟨⟨_, rfl, .same rfl, rfl⟩, trivial⟩, trivial⟩
      · have p : m.to_ = 0 := by simpa using p
        refine D_skip ?_
        exact ⟨⟨by simp [vc3, p]⟩, [], [], [(1, 1)], ⟨rfl, rfl, rfl, rfl, rfl, ⟨⟨_, rfl, .same rfl, rfl⟩, ⟨_, rfl, .same rfl, rfl⟩, ⟨_, rfl, .same rfl, rfl⟩, ⟨_, rfl, .same rfl, rfl⟩, ⟨_, rfl, .same rfl, rfl⟩, ⟨_, rfl, .same rfl, rfl⟩, trivial⟩, ⟨⟨rfl, rfl, _, rfl, .same⟩, trivial⟩⟩⟩
    · iterate 3 refine o_pu rfl rfl rfl rfl trivial ?_
      refine o_pu rfl rfl rfl rfl ⟨rfl, Nat.zero_lt_succ _⟩ ?_
      refine o_pu rfl rfl rfl rfl trivial ?_
      refine o_pu rfl rfl rfl rfl ⟨rfl, Nat.zero_lt_succ _⟩ ?_
      iterate 2 refine o_pu rfl rfl rfl rfl trivial ?_
      refine o_brg rfl (fun p => ?_) (fun p => ?_)
      · have p := of_decide_eq_true p
        have p1 : ¬ m.seq ≤ m.to_ := by omega
        iterate 3 refine o_skp rfl ?_
        iterate 3 refine o_pu rfl rfl rfl rfl trivial ?_
        iterate 7 refine o_skp rfl ?_
        refine o_pu rfl rfl rfl rfl trivial ?_
        refine o_nil ?_
        refine D_cond rfl (fun _ => ?_) (fun h => by cases h)
        refine D_seq (D_reg ?_)
        refine o_pu rfl rfl rfl rfl trivial ?_
        refine o_nil ?_
        refine D_ret ?_
        have e : validOk m = false := by rw [validOk_eq]; simp [hk, vc3, p1]
        rw [e]
        exact ⟨_, [], [], .tmp rfl (.nil _), rfl, rfl, rfl, rfl, rfl, ⟨⟨_, rfl, .same rfl, rfl⟩, trivial⟩, trivial⟩
      · have p := of_decide_eq_false p
        have p1 : m.seq ≤ m.to_ := by omega
        refine o_pu rfl rfl rfl rfl trivial ?_
        refine o_pu rfl rfl rfl rfl ⟨rfl, Nat.zero_lt_succ _⟩ ?_
        iterate 4 refine o_pu rfl rfl rfl rfl trivial ?_
        refine o_brg rfl (fun r => ?_) (fun r => ?_)
        · have r := of_decide_eq_true r
          have r1 : ¬ m.to_ ≤ 1099511627776 := by omega
          iterate 7 refine o_skp rfl ?_
          refine o_pu rfl rfl rfl rfl trivial ?_
          refine o_nil ?_
          refine D_cond rfl (fun _ => ?_) (fun h => by cases h)
          refine D_seq (D_reg ?_)
          refine o_pu rfl rfl rfl rfl trivial ?_
          refine o_nil ?_
          refine D_ret ?_
          have e : validOk m = false := by rw [validOk_eq]; simp [hk, vc3, p1, r1]
          rw [e]
          exact ⟨_, [], [], .tmp rfl (.nil _), rfl, rfl, rfl, rfl, rfl, ⟨⟨_, rfl, .same rfl, rfl⟩, trivial⟩, trivial⟩
        · have r := of_decide_eq_false r
          have r1 : m.to_ ≤ 1099511627776 := by omega
          iterate 3 refine o_pu rfl rfl rfl rfl trivial ?_
          iterate 3 refine o_skp rfl ?_
          iterate 2 refine o_pu rfl rfl rfl rfl trivial ?_
          refine o_nil ?_
          refine D_cond rfl (fun h => by cases h) (fun _ => ?_)
          refine D_skip ?_
          exact ⟨⟨by simp [vc3, p1, r1]⟩, [], [], [(1, 1)], ⟨rfl, rfl, rfl, rfl, rfl, ⟨⟨_, rfl, .same rfl, rfl⟩, ⟨_, rfl, .same rfl, rfl⟩, ⟨_, rfl, .same rfl, rfl⟩, ⟨_, rfl, .same rfl, rfl⟩, ⟨_, rfl, .same rfl, rfl⟩, ⟨_, rfl, .same rfl, rfl⟩, trivial⟩, ⟨⟨rfl, rfl, _, rfl, .same⟩, trivial⟩⟩⟩
  have e : validOk m = vc4 (decide (m.kind = 3)) m := by
    rw [validOk_eq, h1.down, h2.down, h3.down, decide_eq_true hr]; simp
  rw [e]
  unfold rvSt
  cases hk : decide (m.kind = 3)
  · refine D_seq (D_reg ?_)
    iterate 2 refine o_pu rfl rfl rfl rfl trivial ?_
    iterate 4 refine o_skp rfl ?_
    iterate 2 refine o_pu rfl rfl rfl rfl trivial ?_
    iterate 4 refine o_skp rfl ?_
    iterate 6 refine o_pu rfl rfl rfl rfl trivial ?_
    refine o_pu rfl rfl rfl rfl ⟨rfl, Nat.zero_lt_succ _⟩ ?_
    refine o_lenM _ _ rfl rfl ?_
    iterate 4 refine o_pu rfl rfl rfl rfl trivial ?_
    refine o_nil ?_
    refine D_ret ?_
    have e2 : vc4 false m = decide ((m.body.length : Int) = 0) := by simp [vc4]
    rw [e2]
    exact ⟨_, [], [], .tmp rfl (.nil _), rfl, rfl, rfl, rfl, rfl, ⟨⟨_, rfl, .same rfl, rfl⟩, trivial⟩, trivial⟩
  · have e2 : vc4 true m = (decide ((m.body.length : Int) ≥ 1) && decide ((m.body.length : Int) ≤ 16320)) := by simp [vc4]
    rw [e2]
    refine D_seq (D_reg ?_)
    iterate 3 refine o_pu rfl rfl rfl rfl trivial ?_
    refine o_pu rfl rfl rfl rfl ⟨rfl, Nat.zero_lt_succ _⟩ ?_
    refine o_lenM _ _ rfl rfl ?_
    iterate 3 refine o_pu rfl rfl rfl rfl trivial ?_
    refine o_brg rfl (fun q => ?_) (fun q => ?_)
    · rw [q, Bool.true_and]
      refine o_pu rfl rfl rfl rfl trivial ?_
      refine o_pu rfl rfl rfl rfl ⟨rfl, Nat.zero_lt_succ _⟩ ?_
      refine o_lenM _ _ rfl rfl ?_
      iterate 3 refine o_pu rfl rfl rfl rfl trivial ?_
      refine o_brg rfl (fun p => ?_) (fun p => ?_)
      · rw [p]
        iterate 8 refine o_skp rfl ?_
        iterate 2 refine o_pu rfl rfl rfl rfl trivial ?_
        refine o_nil ?_
        refine D_ret ?_
        exact ⟨_, [], [], .tmp rfl (.nil _), rfl, rfl, rfl, rfl, rfl, ⟨⟨_, rfl, .same rfl, rfl⟩, trivial⟩, trivial⟩
      · rw [p]
        iterate 3 refine o_pu rfl rfl rfl rfl trivial ?_
        iterate 4 refine o_skp rfl ?_
        iterate 3 refine o_pu rfl rfl rfl rfl trivial ?_
        refine o_nil ?_
        refine D_ret ?_
        exact ⟨_, [], [], .tmp rfl (.nil _), rfl, rfl, rfl, rfl, rfl, ⟨⟨_, rfl, .same rfl, rfl⟩, trivial⟩, trivial⟩
    · rw [q, Bool.false_and]
      iterate 4 refine o_skp rfl ?_
      iterate 5 refine o_pu rfl rfl rfl rfl trivial ?_
      iterate 4 refine o_skp rfl ?_
      iterate 3 refine o_pu rfl rfl rfl rfl trivial ?_
      refine o_nil ?_
      refine D_ret ?_
      exact ⟨_, [], [], .tmp rfl (.nil _), rfl, rfl, rfl, rfl, rfl, ⟨⟨_, rfl, .same rfl, rfl⟩, trivial⟩, trivial⟩
end
end Go.DW

/- Numbers, written as bytes. -/
namespace Go.DW
section
variable {P : Program} (hm : P.follows .mixedOrders = true)

def vint (n : Nat) : List UInt8 := if n < 128 then [byteOf n] else byteOf ((n % 128 : Nat) + 128) :: vint (n / 128)
  termination_by n
  decreasing_by omega

theorem vint_lt {n : Nat} (h : n < 128) : vint n = [byteOf n] := by rw [vint, if_pos h]
theorem vint_ge {n : Nat} (h : ¬ n < 128) : vint n = byteOf ((n % 128 : Nat) + 128) :: vint (n / 128) := by rw [vint, if_neg h]

theorem vint_len : ∀ (k n : Nat), n < 128 ^ (k + 1) → (vint n).length ≤ k + 1
  | 0, n, h => by rw [vint_lt (by simpa using h)]; simp
  | k + 1, n, h => by
    rcases Nat.lt_or_ge n 128 with h1 | h1
    · rw [vint_lt h1]; simp
    · rw [vint_ge (by omega), List.length_cons]
      have : n / 128 < 128 ^ (k + 1) := by
        rw [Nat.div_lt_iff_lt_mul (by decide)]
        rw [Nat.pow_succ] at h; exact h
      have := vint_len k (n / 128) this
      omega

structure PutI (fin : List UInt8) where
  out : List UInt8
  n : Nat
  h : out ++ vint n = fin
  hl : out.length + (vint n).length ≤ 1000000000
  hn : n < 4611686018427387904

theorem ref_put {f : Nat} (ok : FnOK P f 21 Ic.ref25_Put [(4, none)]) (l : List UInt8) (n : Nat) (hn : n < 4611686018427387904) (hl : l.length + (vint n).length ≤ 1000000000) :
    FC P f [.os 1000 none 0 l.length, VI n] [(1000, some (.pv 1 (l.map B)))] (.os 7 none 0 (l ++ vint n).length) [(7, some (.pv 1 ((l ++ vint n).map B)))] := by
  refine ok.fc rfl rfl rfl ?_
  generalize hfin : l ++ vint n = fin
  refine D_seq (D_reg ?_)
  refine o_pu rfl rfl rfl rfl trivial ?_
  refine o_nil ?_
  refine D_seq (D_block ?_)
  refine D_loop (ι := PutI fin) (fun x => ⟨[(0, .os 500 none 0 x.out.length), (1, VI x.n)], [(500, some (.pv 1 (x.out.map B)))]⟩) (fun x => x.n) ⟨l, n, hfin, hl, hn⟩ [] [] [(500, 1000)] ⟨rfl, rfl, rfl, rfl, rfl, ⟨⟨_, rfl, .same rfl, rfl⟩, ⟨_, rfl, .same rfl, rfl⟩, trivial⟩, ⟨⟨rfl, rfl, _, rfl, .same⟩, trivial⟩⟩ (fun x => ?_)
  obtain ⟨out, k, h, hl, hn⟩ := x
  simp only
  refine D_seq (D_seq (D_reg ?_))
  iterate 2 refine o_pu rfl rfl rfl rfl trivial ?_
  refine o_nil ?_
  refine D_cond rfl (fun q => ?_) (fun q => ?_)
  · have q : ¬ k < 128 := by have := of_decide_eq_true q; omega
    rw [vint_ge q] at h hl
    have e1 : (k : Int) % 128 = ((k % 128 : Nat) : Int) := by omega
    have e2 : (k : Int) / 128 = ((k / 128 : Nat) : Int) := by omega
    have e3 : byteOf (((byteOf ((k % 128 : Nat) : Int)).toNat : Int) + 128) = byteOf (((k % 128 : Nat) : Int) + 128) := by
      rw [byteOf_toNat (by omega)]
    refine D_skip ?_
    refine D_block (D_seq (D_reg ?_))
    iterate 2 refine o_pu rfl rfl rfl rfl trivial ?_
    refine o_rem rfl rfl (by omega) ?_
    refine o_cvb rfl rfl ?_
    refine o_u8w rfl rfl rfl rfl trivial ?_
    refine o_bs (.pv 1 ([byteOf (((byteOf ((k : Int) % 128)).toNat : Int) + 128)].map B)) rfl rfl rfl rfl rfl rfl rfl rfl rfl ?_
    refine o_appM B out [byteOf (((byteOf ((k : Int) % 128)).toNat : Int) + 128)] (c := 1 = 1) (R := [12]) rfl rfl rfl rfl rfl rfl (fun _ _ => ⟨rfl, rfl⟩) (by simp at hl ⊢; omega) rfl ?_
    refine o_pu rfl rfl rfl rfl trivial ?_
    refine o_nil ?_
    refine D_reg ?_
    refine o_pu rfl rfl rfl rfl trivial ?_
    refine o_quo rfl rfl (by omega) ?_
    refine o_pu rfl rfl rfl rfl trivial ?_
    refine o_nil ?_
    rw [e1, e2, e3]
    exact ⟨⟨out ++ [byteOf ((k % 128 : Nat) + 128)], k / 128, by rw [← h]; simp, by simp at hl ⊢; omega, by omega⟩, [], [], [(500, 13)], by simp only; omega, ⟨rfl, rfl, rfl, rfl, rfl, ⟨⟨_, rfl, .same rfl, rfl⟩, ⟨_, rfl, .same rfl, rfl⟩, trivial⟩, ⟨⟨rfl, rfl, _, rfl, .same⟩, trivial⟩⟩⟩
  · have q : k < 128 := by have := of_decide_eq_false q; omega
    rw [vint_lt q] at h hl
    subst h
    refine D_exit ?_
    refine D_seq (D_reg ?_)
    iterate 2 refine o_pu rfl rfl rfl rfl trivial ?_
    refine o_cvb rfl rfl ?_
    refine o_bs (.pv 1 ([byteOf k].map B)) rfl rfl rfl rfl rfl rfl rfl rfl rfl ?_
    refine o_appM B out [byteOf k] (c := 1 = 1) (R := [19]) rfl rfl rfl rfl rfl rfl (fun _ _ => ⟨rfl, rfl⟩) (by simp at hl ⊢; omega) rfl ?_
    refine o_pu rfl rfl rfl rfl trivial ?_
    refine o_nil ?_
    refine D_ret ?_
    exact ⟨_, [], [(7, 20)], .tmp rfl (.nil _), rfl, rfl, rfl, rfl, rfl, ⟨⟨_, rfl, .same rfl, rfl⟩, trivial⟩, ⟨⟨rfl, rfl, _, rfl, .same⟩, trivial⟩⟩
end
end Go.DW

/- Numbers, written as bytes by the program. -/
namespace Go.DW
section
variable {P : Program} (hm : P.follows .mixedOrders = true)

theorem wire_num {f : Nat} (ok : FnOK P f 21 Ic.wire_appendNumber [(4, none)]) (l : List UInt8) (n : Nat) (hn : n < 4611686018427387904) (hl : l.length + (vint n).length ≤ 1000000000) :
    FC P f [.os 1000 none 0 l.length, VI n] [(1000, some (.pv 1 (l.map B)))] (.os 7 none 0 (l ++ vint n).length) [(7, some (.pv 1 ((l ++ vint n).map B)))] := by
  refine ok.fc rfl rfl rfl ?_
  generalize hfin : l ++ vint n = fin
  refine D_seq (D_reg ?_)
  refine o_pu rfl rfl rfl rfl trivial ?_
  refine o_nil ?_
  refine D_seq (D_block ?_)
  refine D_loop (ι := PutI fin) (fun x => ⟨[(0, .os 500 none 0 x.out.length), (1, VI x.n)], [(500, some (.pv 1 (x.out.map B)))]⟩) (fun x => x.n) ⟨l, n, hfin, hl, hn⟩ [] [] [(500, 1000)] ⟨rfl, rfl, rfl, rfl, rfl, ⟨⟨_, rfl, .same rfl, rfl⟩, ⟨_, rfl, .same rfl, rfl⟩, trivial⟩, ⟨⟨rfl, rfl, _, rfl, .same⟩, trivial⟩⟩ (fun x => ?_)
  obtain ⟨out, k, h, hl, hn⟩ := x
  simp only
  refine D_seq (D_seq (D_reg ?_))
  iterate 2 refine o_pu rfl rfl rfl rfl trivial ?_
  refine o_nil ?_
  refine D_cond rfl (fun q => ?_) (fun q => ?_)
  · have q : ¬ k < 128 := by have := of_decide_eq_true q; omega
    rw [vint_ge q] at h hl
    have e1 : (k : Int) % 128 + 1 * 2 ^ 7 = ((k % 128 : Nat) : Int) + 128 := by omega
    have e2 : (k : Int) / 128 = ((k / 128 : Nat) : Int) := by omega
    refine D_skip ?_
    refine D_seq (D_block (D_reg ?_))
    refine o_pu rfl rfl rfl rfl trivial ?_
    refine o_pu rfl rfl rfl rfl trivial ?_
    refine o_and7 rfl rfl (by omega) ?_
    refine o_or 7 1 rfl rfl rfl (by omega) (by omega) (by omega) ?_
    refine o_cvb rfl rfl ?_
    refine o_bs (.pv 1 ([byteOf ((k : Int) % 128 + 1 * 2 ^ 7)].map B)) rfl rfl rfl rfl rfl rfl rfl rfl rfl ?_
    refine o_appM B out [byteOf ((k : Int) % 128 + 1 * 2 ^ 7)] (c := 1 = 1) (R := [14]) rfl rfl rfl rfl rfl rfl (fun _ _ => ⟨rfl, rfl⟩) (by simp at hl ⊢; omega) rfl ?_
    refine o_pu rfl rfl rfl rfl trivial ?_
    refine o_nil ?_
    refine D_reg ?_
    refine o_pu rfl rfl rfl rfl trivial ?_
    refine o_shr7 rfl rfl (by omega) ?_
    refine o_pu rfl rfl rfl rfl trivial ?_
    refine o_nil ?_
    rw [e1, e2]
    exact ⟨⟨out ++ [byteOf ((k % 128 : Nat) + 128)], k / 128, by rw [← h]; simp, by simp at hl ⊢; omega, by omega⟩, [], [], [(500, 15)], by simp only; omega, ⟨rfl, rfl, rfl, rfl, rfl, ⟨⟨_, rfl, .same rfl, rfl⟩, ⟨_, rfl, .same rfl, rfl⟩, trivial⟩, ⟨⟨rfl, rfl, _, rfl, .same⟩, trivial⟩⟩⟩
  · have q : k < 128 := by have := of_decide_eq_false q; omega
    rw [vint_lt q] at h hl
    subst h
    refine D_exit ?_
    refine D_seq (D_reg ?_)
    iterate 2 refine o_pu rfl rfl rfl rfl trivial ?_
    refine o_cvb rfl rfl ?_
    refine o_bs (.pv 1 ([byteOf k].map B)) rfl rfl rfl rfl rfl rfl rfl rfl rfl ?_
    refine o_appM B out [byteOf k] (c := 1 = 1) (R := [19]) rfl rfl rfl rfl rfl rfl (fun _ _ => ⟨rfl, rfl⟩) (by simp at hl ⊢; omega) rfl ?_
    refine o_pu rfl rfl rfl rfl trivial ?_
    refine o_nil ?_
    refine D_ret ?_
    exact ⟨_, [], [(7, 20)], .tmp rfl (.nil _), rfl, rfl, rfl, rfl, rfl, ⟨⟨_, rfl, .same rfl, rfl⟩, trivial⟩, ⟨⟨rfl, rfl, _, rfl, .same⟩, trivial⟩⟩
end
end Go.DW
