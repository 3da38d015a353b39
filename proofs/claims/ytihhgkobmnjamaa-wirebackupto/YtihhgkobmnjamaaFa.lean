/- Abstract values and their representation in the model's worlds. -/
import Derived.Calls
import Derived.Laws.Sem
import Derived.Laws.World
import Derived.Laws.Rows
import Derived.Laws.AppendOwn
import Derived.WalkKit
import Derived.Laws.StructEq
namespace Go.DW

/-- Persistent data, by value. -/
inductive PV where
  | b (x : Bool)
  | i (k : IntKind) (n : Int)
  | s (l : List UInt8)
  | sl (l : List PV)
  | ag (l : List PV)
  | nf
  deriving Inhabited

def PV.cells : PV → List PV
  | .ag l => l
  | x => [x]

abbrev Sub := Option (Nat × Nat)

/-- Where an owned array lies: its block, the cell where it begins, cells of an element, elements up to the capacity. -/
structure Loc where
  blk : Nat
  off : Nat
  es : Nat
  cap : Nat

abbrev Rho := Nat → Sub → Option Loc

/-- Abstract values: persistent data, or names of owned memory. -/
inductive V where
  | p (x : PV)
  | nils
  | agg (l : List V)
  | tup (l : List V)
  | ptr (r i j : Nat)
  | pp (cells : List PV)
  | os (r : Nat) (s : Sub) (i n : Nat)
  | own (els : List PV)
  | fn (f : Nat) (caps : List V)
  | mp (r : Nat)
  | junk
  deriving Inhabited

mutual
inductive PRep (w : World) (ok : Nat → Prop) : PV → Value → Prop where
  | b (x : Bool) : PRep w ok (.b x) (.bool x)
  | i (k : IntKind) (n : Int) : PRep w ok (.i k n) (.int k n)
  | s (l : List UInt8) : PRep w ok (.s l) (.string ⟨l.toArray⟩)
  | nf : PRep w ok .nf .nilFunc
  | sl0 (a : Option Addr) (cap : Nat) : PRep w ok (.sl []) (.slice a 0 cap)
  | sl (l : List PV) (b o cap es : Nat) (us : List Value) (hne : l ≠ []) (hcap : l.length ≤ cap) (hok : ok b)
      (hes : ∀ x ∈ l, x.cells.length = es) (hus : PReps w ok (l.flatMap PV.cells) us)
      (hc : ∀ (j : Nat) u, us[j]? = some u → w.cell? ⟨b, o + j, none⟩ = some u) : PRep w ok (.sl l) (.slice (some ⟨b, o, none⟩) l.length cap)
  | ag (l : List PV) (us : List Value) (h : PReps w ok l us) : PRep w ok (.ag l) (.agg us.toArray)
inductive PReps (w : World) (ok : Nat → Prop) : List PV → List Value → Prop where
  | nil : PReps w ok [] []
  | cons {x : PV} {u : Value} {l : List PV} {us : List Value} (h : PRep w ok x u) (hs : PReps w ok l us) : PReps w ok (x :: l) (u :: us)
end

mutual
theorem PRep.mono {w w' : World} {ok ok' : Nat → Prop} (hm : ∀ b, ok b → ok' b ∧ w'.heap[b]? = w.heap[b]?) :
    ∀ {v : PV} {u : Value}, PRep w ok v u → PRep w' ok' v u
  | _, _, .b x => .b x
  | _, _, .i k n => .i k n
  | _, _, .s l => .s l
  | _, _, .nf => .nf
  | _, _, .sl0 a cap => .sl0 a cap
  | _, _, .sl l b o cap es us hne hcap hok hes hus hc =>
    .sl l b o cap es us hne hcap (hm b hok).1 hes (PReps.mono hm hus) (fun j u hu => by
      rw [← hc j u hu]; exact World.cell?_of_block (w := w) (a := ⟨b, o + j, none⟩) (hm b hok).2)
  | _, _, .ag l us h => .ag l us (PReps.mono hm h)
theorem PReps.mono {w w' : World} {ok ok' : Nat → Prop} (hm : ∀ b, ok b → ok' b ∧ w'.heap[b]? = w.heap[b]?) :
    ∀ {l : List PV} {us : List Value}, PReps w ok l us → PReps w' ok' l us
  | _, _, .nil => .nil
  | _, _, .cons h hs => .cons (PRep.mono hm h) (PReps.mono hm hs)
end

theorem PReps.length {w : World} {ok : Nat → Prop} : ∀ {l : List PV} {us : List Value}, PReps w ok l us → us.length = l.length
  | _, _, .nil => rfl
  | _, _, .cons _ hs => by simp [hs.length]

theorem PReps.get {w : World} {ok : Nat → Prop} : ∀ {l : List PV} {us : List Value}, PReps w ok l us → ∀ {j : Nat} {x : PV}, l[j]? = some x →
    ∃ u, us[j]? = some u ∧ PRep w ok x u
  | _, _, .nil, _, _, h => by simp at h
  | _, _, .cons h hs, 0, _, hx => by simp at hx; exact ⟨_, by simp, hx ▸ h⟩
  | _, _, .cons h hs, j + 1, _, hx => by
    simp at hx
    obtain ⟨u, hu, hr⟩ := hs.get hx
    exact ⟨u, by simpa using hu, hr⟩

theorem PReps.of_get {w : World} {ok : Nat → Prop} : ∀ {l : List PV} {us : List Value}, us.length = l.length →
    (∀ (j : Nat) x u, l[j]? = some x → us[j]? = some u → PRep w ok x u) → PReps w ok l us
  | [], [], _, _ => .nil
  | [], _ :: _, h, _ => by simp at h
  | _ :: _, [], h, _ => by simp at h
  | x :: l, u :: us, h, hg => .cons (hg 0 x u (by simp) (by simp)) (PReps.of_get (by simpa using h) (fun j x u hx hu => hg (j + 1) x u (by simpa using hx) (by simpa using hu)))

theorem PReps.append {w : World} {ok : Nat → Prop} {l2 : List PV} {us2 : List Value} (h2 : PReps w ok l2 us2) :
    ∀ {l : List PV} {us : List Value}, PReps w ok l us → PReps w ok (l ++ l2) (us ++ us2)
  | _, _, .nil => h2
  | _, _, .cons h hs => .cons h (PReps.append h2 hs)

theorem PReps.drop {w : World} {ok : Nat → Prop} : ∀ {l : List PV} {us : List Value}, PReps w ok l us → ∀ n : Nat, PReps w ok (l.drop n) (us.drop n)
  | _, _, .nil, n => by simp; exact .nil
  | _, _, .cons h hs, 0 => .cons h hs
  | _, _, .cons h hs, n + 1 => by simpa using hs.drop n

theorem PReps.take {w : World} {ok : Nat → Prop} : ∀ {l : List PV} {us : List Value}, PReps w ok l us → ∀ n : Nat, PReps w ok (l.take n) (us.take n)
  | _, _, .nil, n => by simp; exact .nil
  | _, _, .cons h hs, 0 => by simp; exact .nil
  | _, _, .cons h hs, n + 1 => by simpa using PReps.cons h (hs.take n)

mutual
inductive VRep (w : World) (ok : Nat → Prop) (ρ : Rho) : V → Value → Prop where
  | p {x : PV} {u : Value} (h : PRep w ok x u) : VRep w ok ρ (.p x) u
  | nils (a : Option Addr) : VRep w ok ρ .nils (.slice a 0 0)
  | agg {l : List V} {us : List Value} (h : VReps w ok ρ l us) : VRep w ok ρ (.agg l) (.agg us.toArray)
  | tup {l : List V} {us : List Value} (h : VReps w ok ρ l us) : VRep w ok ρ (.tup l) (.tuple us.toArray)
  | ptr {r i j : Nat} {a : Option Addr} (h : ∀ L, ρ r none = some L → a = some ⟨L.blk, L.off + i * L.es + j, none⟩) : VRep w ok ρ (.ptr r i j) (.pointer a)
  | pp {cells : List PV} {b o : Nat} {us : List Value} (hok : ok b) (hus : PReps w ok cells us)
      (hc : ∀ (j : Nat) u, us[j]? = some u → w.cell? ⟨b, o + j, none⟩ = some u) : VRep w ok ρ (.pp cells) (.pointer (some ⟨b, o, none⟩))
  | os {r : Nat} {s : Sub} {i n cap : Nat} {a : Option Addr} (h : ∀ L, ρ r s = some L → i + n ≤ L.cap ∧ cap = L.cap - i ∧
      (i < L.cap → a = some ⟨L.blk, L.off + i * L.es, none⟩)) : VRep w ok ρ (.os r s i n) (.slice a n cap)
  | fn {f : Nat} {caps : List V} {us : List Value} (h : VReps w ok ρ caps us) : VRep w ok ρ (.fn f caps) (.func (.func f) #[] us.toArray)
  | mp {r : Nat} {m : Option Nat} (h : ∀ L, ρ r none = some L → m = some L.blk) : VRep w ok ρ (.mp r) (.map m)
  | junk (u : Value) : VRep w ok ρ .junk u
inductive VReps (w : World) (ok : Nat → Prop) (ρ : Rho) : List V → List Value → Prop where
  | nil : VReps w ok ρ [] []
  | cons {x : V} {u : Value} {l : List V} {us : List Value} (h : VRep w ok ρ x u) (hs : VReps w ok ρ l us) : VReps w ok ρ (x :: l) (u :: us)
end

/-- Does a value name the owned memory 'k'? -/
def V.men (k : Nat) : V → Bool
  | .ptr r _ _ => r == k
  | .os r _ _ _ => r == k
  | .mp r => r == k
  | .agg l => mens l
  | .tup l => mens l
  | .fn _ l => mens l
  | _ => false
where mens : List V → Bool
  | [] => false
  | v :: l => V.men k v || mens l

mutual
theorem VRep.mono {w w' : World} {ok ok' : Nat → Prop} {ρ ρ' : Rho} (hm : ∀ b, ok b → ok' b ∧ w'.heap[b]? = w.heap[b]?) :
    ∀ {v : V} {u : Value}, VRep w ok ρ v u → (∀ r s L, v.men r = true → ρ' r s = some L → ρ r s = some L) → VRep w' ok' ρ' v u
  | _, _, .p h, _ => .p (h.mono hm)
  | _, _, .nils a, _ => .nils a
  | _, _, .agg h, hr => .agg (VReps.mono hm h (fun r s L hmn => hr r s L (by simpa [V.men] using hmn)))
  | _, _, .tup h, hr => .tup (VReps.mono hm h (fun r s L hmn => hr r s L (by simpa [V.men] using hmn)))
  | _, _, .ptr h, hr => .ptr (fun L hL => h L (hr _ _ _ (by simp [V.men]) hL))
  | _, _, .pp hok hus hc, _ => .pp (hm _ hok).1 (hus.mono hm) (fun j u hu => by
      rw [← hc j u hu]; exact World.cell?_of_block (w := w) (hm _ hok).2)
  | _, _, .os h, hr => .os (fun L hL => h L (hr _ _ _ (by simp [V.men]) hL))
  | _, _, .fn h, hr => .fn (VReps.mono hm h (fun r s L hmn => hr r s L (by simpa [V.men] using hmn)))
  | _, _, .mp h, hr => .mp (fun L hL => h L (hr _ _ _ (by simp [V.men]) hL))
  | _, _, .junk u, _ => .junk u
theorem VReps.mono {w w' : World} {ok ok' : Nat → Prop} {ρ ρ' : Rho} (hm : ∀ b, ok b → ok' b ∧ w'.heap[b]? = w.heap[b]?) :
    ∀ {l : List V} {us : List Value}, VReps w ok ρ l us → (∀ r s L, V.men.mens r l = true → ρ' r s = some L → ρ r s = some L) → VReps w' ok' ρ' l us
  | _, _, .nil, _ => .nil
  | _, _, .cons h hs, hr => .cons (VRep.mono hm h (fun r s L hmn => hr r s L (by simp [V.men.mens, hmn])))
      (VReps.mono hm hs (fun r s L hmn => hr r s L (by simp [V.men.mens, hmn])))
end

theorem VReps.length {w : World} {ok : Nat → Prop} {ρ : Rho} : ∀ {l : List V} {us : List Value}, VReps w ok ρ l us → us.length = l.length
  | _, _, .nil => rfl
  | _, _, .cons _ hs => by simp [hs.length]

theorem VReps.get {w : World} {ok : Nat → Prop} {ρ : Rho} : ∀ {l : List V} {us : List Value}, VReps w ok ρ l us → ∀ {j : Nat} {x : V}, l[j]? = some x →
    ∃ u, us[j]? = some u ∧ VRep w ok ρ x u
  | _, _, .nil, _, _, h => by simp at h
  | _, _, .cons h hs, 0, _, hx => by simp at hx; exact ⟨_, by simp, hx ▸ h⟩
  | _, _, .cons h hs, j + 1, _, hx => by
    simp at hx
    obtain ⟨u, hu, hr⟩ := hs.get hx
    exact ⟨u, by simpa using hu, hr⟩

theorem VReps.of_get {w : World} {ok : Nat → Prop} {ρ : Rho} : ∀ {l : List V} {us : List Value}, us.length = l.length →
    (∀ (j : Nat) x u, l[j]? = some x → us[j]? = some u → VRep w ok ρ x u) → VReps w ok ρ l us
  | [], [], _, _ => .nil
  | [], _ :: _, h, _ => by simp at h
  | _ :: _, [], h, _ => by simp at h
  | x :: l, u :: us, h, hg => .cons (hg 0 x u (by simp) (by simp)) (VReps.of_get (by simpa using h) (fun j x u hx hu => hg (j + 1) x u (by simpa using hx) (by simpa using hu)))

theorem VReps.of_p {w : World} {ok : Nat → Prop} {ρ : Rho} : ∀ {l : List PV} {us : List Value}, PReps w ok l us → VReps w ok ρ (l.map .p) us
  | _, _, .nil => .nil
  | _, _, .cons h hs => .cons (.p h) (VReps.of_p hs)

theorem VReps.to_p {w : World} {ok : Nat → Prop} {ρ : Rho} : ∀ {l : List PV} {us : List Value}, VReps w ok ρ (l.map .p) us → PReps w ok l us
  | [], _, .nil => .nil
  | _ :: _, _, .cons (.p h) hs => .cons h (VReps.to_p hs)

/-- A cell that holds an owned slice is named by its place. -/
def V.al (r i j : Nat) : V → V
  | .own els => .os r (some (i, j)) 0 els.length
  | v => v

/-- Cells of arrays of slices that are owned by the array. -/
inductive W where
  | p (x : PV)
  | nils
  | own (els : List PV)
  deriving Inhabited

def W.v : W → V
  | .p x => .p x
  | .nils => .nils
  | .own els => .own els

inductive Box where
  | pv (es : Nat) (els : List PV)
  | vs (es : Nat) (els : List (List V))
  | ow (es : Nat) (els : List (List W))
  | mp (ents : List (PV × V))
  deriving Inhabited

def Box.men (k : Nat) : Box → Bool
  | .vs _ els => els.any fun l => V.men.mens k l
  | .mp ents => ents.any fun e => e.2.men k
  | _ => false

def pcells (els : List PV) : List (List V) := els.map fun x => x.cells.map .p

def Box.elems : Box → List (List V)
  | .pv _ els => pcells els
  | .vs _ els => els
  | .ow _ els => els.map (·.map W.v)
  | .mp _ => []

def Box.es : Box → Nat
  | .pv es _ => es
  | .vs es _ => es
  | .ow es _ => es
  | .mp _ => 0

structure ArrRep (w : World) (ok : Nat → Prop) (ρ : Rho) (r : Nat) (L : Loc) (els : List (List V)) : Prop where
  len : els.length ≤ L.cap
  sz : ∀ cs ∈ els, cs.length = L.es
  mem : 0 < L.cap → ∃ c T, w.heap[L.blk]? = some (.cells c T (0, 0)) ∧ L.off + L.cap * L.es ≤ c.size ∧
    ∀ (i j : Nat) cs v, els[i]? = some cs → cs[j]? = some v → ∃ u, c[L.off + i * L.es + j]? = some u ∧ VRep w ok ρ (v.al r i j) u

/-- The entries of a map, and their stamps. -/
structure MapRep (w : World) (ok : Nat → Prop) (ρ : Rho) (r : Nat) (L : Loc) (ents : List (PV × V)) : Prop where
  cap : L.cap = 1
  mem : ∃ es, w.heap[L.blk]? = some (.map es es.size) ∧ es.size = ents.length ∧ (∀ (i : Nat) e, es[i]? = some e → e.born = i) ∧
    ∀ (i : Nat) k v, ents[i]? = some (k, v) → ∃ e, es[i]? = some e ∧ PRep w ok k e.key ∧ VRep w ok ρ (v.al r i 0) e.val

structure BoxRep (w : World) (ok : Nat → Prop) (ρ : Rho) (r : Nat) (b : Box) (L : Loc) : Prop where
  loc : ρ r none = some L
  esz : (∀ ents, b ≠ .mp ents) → L.es = b.es
  arr : (∀ ents, b ≠ .mp ents) → ArrRep w ok ρ r L b.elems
  sub : (∀ ents, b ≠ .mp ents) → ∀ (i j : Nat) cs els, b.elems[i]? = some cs → cs[j]? = some (.own els) → ∃ L', ρ r (some (i, j)) = some L' ∧ ArrRep w ok ρ r L' (pcells els)
  map : ∀ ents, b = .mp ents → MapRep w ok ρ r L ents ∧ ∀ (i : Nat) k els, ents[i]? = some (k, .own els) → ∃ L', ρ r (some (i, 0)) = some L' ∧ ArrRep w ok ρ r L' (pcells els)

def Owned (ρ : Rho) (b : Nat) : Prop := ∃ r s L, ρ r s = some L ∧ 0 < L.cap ∧ L.blk = b

def okOf (w : World) (Fr : Nat → Prop) (ρ : Rho) (b : Nat) : Prop := b < w.heap.size ∧ ¬ Fr b ∧ ¬ Owned ρ b

abbrev Sg := List (Nat × Option Box)

def Sg.get : Sg → Nat → Option Box
  | [], _ => none
  | (r', b) :: sg, r => match Nat.beq r r' with
    | true => b
    | false => Sg.get sg r

structure SgRel (w : World) (Fr : Nat → Prop) (ρ : Rho) (sg : Sg) : Prop where
  box : ∀ r b, Sg.get sg r = some b → ∃ L, BoxRep w (okOf w Fr ρ) ρ r b L
  dom : ∀ r s L, ρ r s = some L → ∃ b, Sg.get sg r = some b
  inj : ∀ r s L r' s' L', ρ r s = some L → ρ r' s' = some L' → 0 < L.cap → 0 < L'.cap → L.blk = L'.blk → r = r' ∧ s = s'
  own : ∀ b, Owned ρ b → ¬ Fr b ∧ b < w.heap.size
  fr : ∀ b, Fr b → b < w.heap.size

/-- What a run may do to the world: what is not owned stays as it is, and stays not owned. -/
structure Evo (w : World) (ρ : Rho) (w' : World) (ρ' : Rho) : Prop where
  os : w'.os = w.os
  tape : w'.tape = w.tape
  output : w'.output = w.output
  size : w.heap.size ≤ w'.heap.size
  same : ∀ b, b < w.heap.size → ¬ Owned ρ b → w'.heap[b]? = w.heap[b]? ∧ ¬ Owned ρ' b

theorem Evo.refl (w : World) (ρ : Rho) : Evo w ρ w ρ := ⟨rfl, rfl, rfl, Nat.le_refl _, fun _ _ h => ⟨rfl, h⟩⟩

theorem Evo.trans {w w1 w2 : World} {ρ ρ1 ρ2 : Rho} (h : Evo w ρ w1 ρ1) (k : Evo w1 ρ1 w2 ρ2) : Evo w ρ w2 ρ2 :=
  ⟨k.os.trans h.os, k.tape.trans h.tape, k.output.trans h.output, Nat.le_trans h.size k.size, fun b hb hn =>
    have h1 := h.same b hb hn
    have h2 := k.same b (Nat.lt_of_lt_of_le hb h.size) h1.2
    ⟨h2.1.trans h1.1, h2.2⟩⟩

theorem Evo.ok {w w' : World} {ρ ρ' : Rho} (h : Evo w ρ w' ρ') (Fr : Nat → Prop) (b : Nat) (hb : okOf w Fr ρ b) :
    okOf w' Fr ρ' b ∧ w'.heap[b]? = w.heap[b]? :=
  have h1 := h.same b hb.1 hb.2.2
  ⟨⟨Nat.lt_of_lt_of_le hb.1 h.size, hb.2.1, h1.2⟩, h1.1⟩

theorem V.men_al {k r i j : Nat} {v : V} (h : (v.al r i j).men k = true) : k = r ∨ v.men k = true := by
  cases v <;> simp_all [V.al, V.men]

theorem mens_of_get {k : Nat} : ∀ {l : List V} {j : Nat} {v : V}, l[j]? = some v → v.men k = true → V.men.mens k l = true
  | [], _, _, h, _ => by simp at h
  | x :: l, 0, v, h, hm => by simp at h; subst h; simp [V.men.mens, hm]
  | x :: l, j + 1, v, h, hm => by simp at h; simp [V.men.mens, mens_of_get h hm]

theorem W.men_v {k : Nat} (x : W) : x.v.men k = false := by cases x <;> rfl

theorem Box.men_of_elems {k : Nat} {b : Box} {i j : Nat} {cs : List V} {v : V} (h1 : b.elems[i]? = some cs) (h2 : cs[j]? = some v) (h3 : v.men k = true) : b.men k = true := by
  cases b with
  | pv es els =>
    simp [Box.elems, pcells] at h1
    obtain ⟨x, _, rfl⟩ := h1
    simp at h2
    obtain ⟨y, _, rfl⟩ := h2
    simp [V.men] at h3
  | vs es els =>
    simp only [Box.elems] at h1
    simp only [Box.men, List.any_eq_true]
    exact ⟨cs, List.mem_of_getElem? h1, mens_of_get h2 h3⟩
  | ow es els =>
    simp [Box.elems] at h1
    obtain ⟨x, _, rfl⟩ := h1
    simp at h2
    obtain ⟨y, _, rfl⟩ := h2
    rw [W.men_v] at h3
    cases h3
  | mp ents => simp [Box.elems] at h1

section
variable {w w' : World} {ok ok' : Nat → Prop} {ρ ρ' : Rho} {r : Nat} {L : Loc}

theorem ArrRep.mono {els : List (List V)} (hm : ∀ b, ok b → ok' b ∧ w'.heap[b]? = w.heap[b]?)
    (hρ : ∀ (i j : Nat) cs v, els[i]? = some cs → cs[j]? = some v → ∀ r' s L', (v.al r i j).men r' = true → ρ' r' s = some L' → ρ r' s = some L')
    (hb : 0 < L.cap → w'.heap[L.blk]? = w.heap[L.blk]?) (h : ArrRep w ok ρ r L els) : ArrRep w' ok' ρ' r L els :=
  ⟨h.len, h.sz, fun hc => by
    obtain ⟨c, T, h1, h3, h4⟩ := h.mem hc
    refine ⟨c, T, (hb hc).trans h1, h3, fun i j cs v hi hj => ?_⟩
    obtain ⟨u, hu, hv⟩ := h4 i j cs v hi hj
    exact ⟨u, hu, hv.mono hm (hρ i j cs v hi hj)⟩⟩

theorem ArrRep.mono_p {els : List PV} (hm : ∀ b, ok b → ok' b ∧ w'.heap[b]? = w.heap[b]?)
    (hb : 0 < L.cap → w'.heap[L.blk]? = w.heap[L.blk]?) (h : ArrRep w ok ρ r L (pcells els)) : ArrRep w' ok' ρ' r L (pcells els) :=
  h.mono hm (fun i j cs v hi hj r' s L' hmn => by
    simp [pcells] at hi
    obtain ⟨x, _, rfl⟩ := hi
    simp at hj
    obtain ⟨y, _, rfl⟩ := hj
    simp [V.al, V.men] at hmn) hb

theorem BoxRep.mono {b : Box} (hm : ∀ b, ok b → ok' b ∧ w'.heap[b]? = w.heap[b]?)
    (hρ : ∀ r' s L', b.men r' = true → ρ' r' s = some L' → ρ r' s = some L')
    (hself : ∀ s, ρ' r s = ρ r s)
    (hb : ∀ s L', ρ r s = some L' → 0 < L'.cap → w'.heap[L'.blk]? = w.heap[L'.blk]?) (h : BoxRep w ok ρ r b L) : BoxRep w' ok' ρ' r b L := by
  refine ⟨(hself none).trans h.loc, h.esz, fun hn => ?_, fun hn i j cs els hi hj => ?_, fun ents he => ?_⟩
  · exact (h.arr hn).mono hm (fun i j cs v hi hj r' s L' hmn hL => by
      rcases V.men_al hmn with rfl | hmn
      · rw [hself] at hL; exact hL
      · exact hρ r' s L' (Box.men_of_elems hi hj hmn) hL) (hb none L h.loc)
  · obtain ⟨L', h1, h2⟩ := h.sub hn i j cs els hi hj
    exact ⟨L', (hself _).trans h1, h2.mono_p hm (hb _ L' h1)⟩
  · obtain ⟨hmap, hsub⟩ := h.map ents he
    refine ⟨⟨hmap.cap, ?_⟩, fun i k els hi => ?_⟩
    · obtain ⟨es, h1, h2, h4, h3⟩ := hmap.mem
      refine ⟨es, (hb none L h.loc (by rw [hmap.cap]; decide)).trans h1, h2, h4, fun i k v hi => ?_⟩
      obtain ⟨e, a1, a2, a3⟩ := h3 i k v hi
      refine ⟨e, a1, a2.mono hm, a3.mono hm (fun r' s L' hmn hL => ?_)⟩
      rcases V.men_al hmn with rfl | hmn
      · rw [hself] at hL; exact hL
      · refine hρ r' s L' ?_ hL
        subst he
        simp only [Box.men, List.any_eq_true]
        exact ⟨_, List.mem_of_getElem? hi, hmn⟩
    · obtain ⟨L', h1, h2⟩ := hsub i k els hi
      exact ⟨L', (hself _).trans h1, h2.mono_p hm (hb _ L' h1)⟩
end

end Go.DW

/- The intermediate form of the model's code, how it is compiled, and what its operations do to abstract values. -/
namespace Go.DW

/-- Operands. Slots from 1000000 on name package-level variables. -/
inductive X where
  | t (n : Nat)
  | c (v : V)
  deriving Inhabited

abbrev Env := List (Nat × V)

def Env.get : Env → Nat → Option V
  | [], _ => none
  | (t', v) :: e, t => match Nat.beq t t' with
    | true => some v
    | false => Env.get e t

structure St where
  env : Env
  sg : Sg

def X.ev (e : Env) : X → Option V
  | .t n => Env.get e n
  | .c v => some v

def evs (e : Env) : List X → Option (List V)
  | [] => some []
  | x :: l => match x.ev e with
    | some v => match evs e l with
      | some vs => some (v :: vs)
      | none => none
    | none => none

/-- Kinds of operations, their types resolved. -/
inductive K where
  | mv
  | pick
  | box (es : Nat)
  | build (z : List V) (parts : List (Nat × Nat))
  | bslice (es : Nat) (z : V) (n : Nat) (places : List Nat)
  | load (ag : Bool) (sz : Nat)
  | store (sz : Nat)
  | nilck
  | bin (op : BinOp)
  | beq (str neg : Bool)
  | seq (tags : List Nat) (neg : Bool)
  | not
  | conv (k : IntKind)
  | b2s
  | mark
  | fn (f : Nat)
  | mks (es bytes : Nat) (z : V)
  | slc (es : Nat) (lo hi : Bool)
  | slc0
  | sls (lo hi : Bool)
  | fad (off : Nat)
  | iad (es : Nat)
  | iaa (es n : Nat)
  | idx
  | idxa (ag : Bool) (sz n : Nat)
  | arp (n : Nat)
  | ext (i : Nat)
  | len
  | lens
  | mima (mx : Bool)
  | app (es bytes : Nat)
  | apps
  | mkmap
  | mins (kk : IntKind)
  | mlook (kk : IntKind) (cok : Bool) (z : V)
  | call
  deriving Inhabited

structure IOper where
  dst : Option Nat
  k : K
  args : List X
  guard : Option (Nat × Bool)
  deriving Inhabited

inductive IC where
  | skip
  | reg (draw : Bool) (unord : List (Nat × Nat)) (ops : List IOper)
  | seq (a b : IC)
  | cond (x : X) (a b : IC)
  | block (id : Nat) (a : IC)
  | loop (a : IC)
  | scope (a : IC)
  | exit (id : Nat)
  | ret
  deriving Inhabited

/-! ### Compiling -/

def cLeaf : Value → Option V
  | .bool b => some (.p (.b b))
  | .int k n => some (.p (.i k n))
  | .string s => some (.p (.s s.data.toList))
  | .slice none 0 0 => some .nils
  | .nilFunc => some (.p .nf)
  | .pointer none => some .junk
  | _ => none

def cLeaves : List Value → Option (List V)
  | [] => some []
  | v :: l => match cLeaf v, cLeaves l with
    | some x, some xs => some (x :: xs)
    | _, _ => none

def cV : Value → Option V
  | .agg cs => (cLeaves cs.toList).map .agg
  | v => cLeaf v

def cX : Operand → Option X
  | .tmp t => if t < 1000000 then some (.t t) else none
  | .const v => (cV v).map .c
  | .global g => some (.t (1000000 + g))
  | .func f => some (.c (.fn f []))

def cXs : List Operand → Option (List X)
  | [] => some []
  | x :: l => match cX x, cXs l with
    | some y, some ys => some (y :: ys)
    | _, _ => none

def zeroOf (P : Program) (t : TypeId) : Option V := ((P.info? t).bind (·.zero)).bind cV
def sizeOfT (P : Program) (t : TypeId) : Option Nat := (P.info? t).map (·.size)
def bytesOfT (P : Program) (t : TypeId) : Option Nat := (P.info? t).map (·.bytes)

def V.cellsV : V → List V
  | .agg l => l
  | .p x => x.cells.map .p
  | v => [v]

def PV.leaf : PV → Bool
  | .ag _ => false
  | _ => true

def V.leaf : V → Bool
  | .p x => x.leaf
  | .agg _ | .tup _ | .junk | .own _ => false
  | _ => true

def isAggT (P : Program) (t : TypeId) : Option Bool :=
  match P.underlying t with
  | some (.struct _) | some (.array _ _) => some true
  | some _ => some false
  | none => none

/-- The kinds of a struct's fields, if each is one cell of an integer, a string or a bool, one behind the other. -/
def flatTags (P : Program) : Nat → List Field → Option (List Nat)
  | _, [] => some []
  | i, f :: fs => if f.offset = i ∧ f.name ≠ "_" then
      match P.underlying f.type, flatTags P (i + 1) fs with
      | some (.int _), some r => some (0 :: r)
      | some .string, some r => some (1 :: r)
      | some .bool, some r => some (2 :: r)
      | _, _ => none
    else none

/-- The places of a struct's fields. -/
def placesOf (P : Program) : List Field → Option (List (Nat × Nat))
  | [] => some []
  | f :: fs => match sizeOfT P f.type, placesOf P fs with
    | some s, some r => some ((f.offset, s) :: r)
    | _, _ => none

def pickPlaces (ps : List (Nat × Nat)) : List Nat → Option (List (Nat × Nat))
  | [] => some []
  | i :: l => match ps[i]?, pickPlaces ps l with
    | some p, some r => some (p :: r)
    | _, _ => none

def isU8 (P : Program) (e : TypeId) : Bool := match P.underlying e with
  | some (.int .u8) => true
  | _ => false

theorem isU8_spec {P : Program} {e : TypeId} (h : isU8 P e = true) : P.underlying e = some (.int .u8) := by
  unfold isU8 at h
  split at h
  · assumption
  · cases h

def compileOp (P : Program) : Op → Option (K × List X)
  | .move x | .assign x => (cX x).map fun y => (.mv, [y])
  | .pick c a b => (cXs [c, a, b]).map fun y => (.pick, y)
  | .alloc t => match zeroOf P t, sizeOfT P t with
    | some z, some s => if z.cellsV.length = s then some (.box s, [.c z]) else none
    | _, _ => none
  | .box t x => match sizeOfT P t, cX x with
    | some s, some y => some (.box s, [y])
    | _, _ => none
  | .build t parts => match P.underlying t, zeroOf P t, cXs (parts.toList.map (·.2)) with
    | some (.struct fs), some z, some ys => match placesOf P fs.toList with
      | some pl => (pickPlaces pl (parts.toList.map (·.1))).map fun ps => (.build z.cellsV ps, ys)
      | none => none
    | some (.array _ e), some z, some ys => match sizeOfT P e with
      | some s => some (.build z.cellsV (parts.toList.map fun p => (p.1 * s, s)), ys)
      | none => none
    | _, _, _ => none
  | .buildSlice t n parts => match P.underlying t with
    | some (.slice e) => match sizeOfT P e, zeroOf P e, cXs (parts.toList.map (·.2)) with
      | some s, some z, some ys => if 0 < s ∧ n * s ≤ 2 ^ 24 ∧ z.cellsV.length = s then some (.bslice s z n (parts.toList.map (·.1)), ys) else none
      | _, _, _ => none
    | _ => none
  | .load t x => match isAggT P t, sizeOfT P t, cX x with
    | some a, some s, some y => if a || s == 1 then some (.load a s, [y]) else none
    | _, _, _ => none
  | .store t x v => match sizeOfT P t, cXs [x, v] with
    | some s, some ys => some (.store s, ys)
    | _, _ => none
  | .nilCheck x => (cX x).map fun y => (.nilck, [y])
  | .binOp op t x y _ => match cXs [x, y], P.underlying t with
    | some ys, some (.int _) => some (.bin op, ys)
    | some ys, some .bool => match op with | .eql => some (.beq false false, ys) | .neq => some (.beq false true, ys) | _ => none
    | some ys, some .string => match op with | .eql => some (.beq true false, ys) | .neq => some (.beq true true, ys) | _ => none
    | some ys, some (.struct fs) => if !P.eqGuardType P.depth t && !P.stoodInHeld t then
        (match op, flatTags P 0 fs.toList with | .eql, some ts => some (.seq ts false, ys) | .neq, some ts => some (.seq ts true, ys) | _, _ => none) else none
    | _, _ => none
  | .unOp .not _ x => (cX x).map fun y => (.not, [y])
  | .convert s d x => match cX x, P.underlying s, P.underlying d with
    | some y, some (.int _), some (.int k) => some (.conv k, [y])
    | some y, some (.slice e), some .string => if isU8 P e = true then some (.b2s, [y]) else none
    | some y, some (.slice _), some (.slice e) => if s = d ∧ isU8 P e = true then some (.mark, [y]) else none
    | _, _, _ => none
  | .makeFunc (.func f) first captured => if first.size = 0 then (cXs captured.toList).map fun ys => (.fn f, ys) else none
  | .makeSlice t l c => match P.underlying t with
    | some (.slice e) => match sizeOfT P e, bytesOfT P e, zeroOf P e, cXs [l, c] with
      | some s, some b, some z, some ys => if 0 < s ∧ z.cellsV.length = s then some (.mks s b z, ys) else none
      | _, _, _, _ => none
    | _ => none
  | .slice t x lo hi mx => match P.underlying t with
    | some (.slice e) => match mx with
      | none => match sizeOfT P e, cXs ([x] ++ lo.toList ++ hi.toList) with
        | some s, some ys => some (.slc s lo.isSome hi.isSome, ys)
        | _, _ => none
      | some m => match lo, hi with
        | none, some h => match sizeOfT P e, cXs [x, h, m] with
          | some _, some ys => some (.slc0, ys)
          | _, _ => none
        | _, _ => none
    | some .string => match mx, cXs ([x] ++ lo.toList ++ hi.toList) with
      | none, some ys => some (.sls lo.isSome hi.isSome, ys)
      | _, _ => none
    | _ => none
  | .fieldAddr t x f => match P.underlying t, cX x with
    | some (.struct fs), some y => match fs[f]? with
      | some fd => match sizeOfT P fd.type with
        | some (_ + 1) => some (.fad fd.offset, [y])
        | _ => none
      | none => none
    | _, _ => none
  | .indexAddr t x i => match P.underlying t, cXs [x, i] with
    | some (.slice e), some ys => (sizeOfT P e).map fun s => (.iad s, ys)
    | some (.array n e), some ys => (sizeOfT P e).map fun s => (.iaa s n, ys)
    | _, _ => none
  | .index t x i => match P.underlying t, cXs [x, i] with
    | some .string, some ys => some (.idx, ys)
    | some (.array n e), some ys => match sizeOfT P e, isAggT P e with
      | some s, some a => if a || s == 1 then some (.idxa a s n, ys) else none
      | _, _ => none
    | _, _ => none
  | .sliceToArrayPointer t x => match P.underlying t, cX x with
    | some (.array n _), some y => some (.arp n, [y])
    | _, _ => none
  | .extract x i => (cX x).map fun y => (.ext i, [y])
  | .makeMap _ none => some (.mkmap, [])
  | .insert t m k x => match P.underlying t with
    | some (.map kt _) => match P.underlying kt, cXs [m, k, x] with
      | some (.int kk), some ys => some (.mins kk, ys)
      | _, _ => none
    | _ => none
  | .lookup t x ix cok => match P.underlying t with
    | some (.map kt et) => match P.underlying kt, zeroOf P et, cXs [x, ix] with
      | some (.int kk), some z, some ys => some (.mlook kk cok z, ys)
      | _, _, _ => none
    | _ => none
  | .call c => match c.callee with
    | .value f => (cXs (f :: c.args.toList)).map fun ys => (.call, ys)
    | .builtin .len => match c.args.toList, c.argTypes[0]? with
      | [x], some t => match P.underlying t, cX x with
        | some (.slice _), some y => some (.len, [y])
        | some .string, some y => some (.lens, [y])
        | _, _ => none
      | _, _ => none
    | .builtin .min => match c.args.toList with
      | [x, y] => (cXs [x, y]).map fun ys => (.mima false, ys)
      | _ => none
    | .builtin .max => match c.args.toList with
      | [x, y] => (cXs [x, y]).map fun ys => (.mima true, ys)
      | _ => none
    | .builtin .append => match c.args.toList, c.argTypes.toList with
      | [x, y], [t, u] => match P.underlying t, P.underlying u, cXs [x, y] with
        | some (.slice e), some (.slice _), some ys => match sizeOfT P e, bytesOfT P e, zeroOf P e with
          | some s, some b, some z => if 0 < s ∧ 0 < b ∧ z.cellsV.length = s ∧ z.cellsV.all V.leaf = true then some (.app s b, ys) else none
          | _, _, _ => none
        | some (.slice e), some .string, some ys => match P.underlying e, sizeOfT P e, bytesOfT P e, zeroOf P e with
          | some (.int .u8), some 1, some 1, some z => if z.cellsV.length = 1 ∧ z.cellsV.all V.leaf = true then some (.apps, ys) else none
          | _, _, _, _ => none
        | _, _, _ => none
      | _, _ => none
    | _ => none
  | _ => none

def compileOper (P : Program) (nt : Nat) (ops : Array Oper) (o : Oper) : Option IOper :=
  match compileOp P o.op with
  | none => none
  | some (k, xs) =>
    if o.dst.all (fun d => decide (d < 1000 ∧ d < nt)) then
      match o.guard with
      | none => some ⟨o.dst, k, xs, none⟩
      | some (j, want) => match (ops[j]?).bind (·.dst) with
        | some g => if g < 1000 then some ⟨o.dst, k, xs, some (g, want)⟩ else none
        | none => none
    else none

def compileOpers (P : Program) (nt : Nat) (ops : Array Oper) : List Oper → Option (List IOper)
  | [] => some []
  | o :: l => match compileOper P nt ops o, compileOpers P nt ops l with
    | some x, some xs => some (x :: xs)
    | _, _ => none

/-- The pairs of operations of a region whose order is open: (i, j) with i < j. -/
def unordOf (ops : Array Oper) : List (Nat × Nat) :=
  let b := Region.before ops
  (List.range ops.size).flatMap fun j => (List.range j).filterMap fun i => if (b.getD j 0).testBit i then none else some (i, j)

def acyclic (ops : Array Oper) : Bool := ops.toList.zipIdx.all fun p => p.1.after.toList.all fun e => !Region.binds .any e || decide (e.on < p.2)

def compileC (P : Program) (nt : Nat) : Code → Option IC
  | .skip => some .skip
  | .region _ ops draw => match compileOpers P nt ops ops.toList with
    | some l => if draw then (if acyclic ops then some (.reg true (unordOf ops) l) else none) else some (.reg false [] l)
    | none => none
  | .seq a b => match compileC P nt a, compileC P nt b with
    | some x, some y => some (.seq x y)
    | _, _ => none
  | .cond c a b => match cX c, compileC P nt a, compileC P nt b with
    | some c, some x, some y => some (.cond c x y)
    | _, _, _ => none
  | .block id a => (compileC P nt a).map (.block id)
  | .loop a => (compileC P nt a).map .loop
  | .scope a => (compileC P nt a).map .scope
  | .label _ => some .skip
  | .exit id => some (.exit id)
  | .ret => some .ret
  | _ => none

/-! ### What an operation does -/

/-- A condition, the value, the owned memory that is read, the owned memory that is changed. -/
abbrev Out := Prop × V × List Nat × List (Nat × Option Box)

/-- All of a list as persistent data. -/
def allP : List V → Option (List PV)
  | [] => some []
  | .p x :: l => match allP l with
    | some xs => some (x :: xs)
    | none => none
  | _ :: _ => none

/-- The same, nil slices read as empty ones. -/
def allPn : List V → Option (List PV)
  | [] => some []
  | .p x :: l => match allPn l with
    | some xs => some (x :: xs)
    | none => none
  | .nils :: l => match allPn l with
    | some xs => some (.sl [] :: xs)
    | none => none
  | _ :: _ => none

/-- An aggregate of leaves. -/
def mkAgg (l : List V) : V := match allP l with
  | some xs => .p (.ag xs)
  | none => .agg l

/-- An element of an array: persistent, if all its cells are. -/
def elemP : V → Option PV
  | .p x => some x
  | .nils => some (.sl [])
  | .agg l => match allPn l with
    | some xs => some (.ag xs)
    | none => none
  | _ => none

def elemsP : List V → Option (List PV)
  | [] => some []
  | v :: l => match elemP v, elemsP l with
    | some x, some xs => some (x :: xs)
    | _, _ => none

/-- The box of an array with these elements. -/
def boxOf (es : Nat) (l : List V) : Box := match elemsP l with
  | some xs => .pv es xs
  | none => .vs es (l.map V.cellsV)

def fillV : List V → List (Nat × Nat) → List V → List V
  | cs, (off, _) :: ps, v :: vs => fillV (cs.take off ++ v.cellsV ++ cs.drop (off + v.cellsV.length)) ps vs
  | cs, _, _ => cs

def fillOk (n : Nat) : List (Nat × Nat) → List V → Prop
  | (off, sz) :: ps, v :: vs => v.cellsV.length = sz ∧ off + sz ≤ n ∧ fillOk n ps vs
  | [], [] => True
  | _, _ => False

def V.isJunk : V → Bool
  | .junk => true
  | _ => false

def setAll : List V → List Nat → List V → List V
  | zs, i :: is, v :: vs => setAll (zs.set i v) is vs
  | zs, _, _ => zs

def binI (op : BinOp) (k : IntKind) (a b : Int) : Option (Prop × PV) :=
  match op with
  | .add => some (True, .i k (k.wrap (a + b)))
  | .sub => some (True, .i k (k.wrap (a - b)))
  | .mul => some (True, .i k (k.wrap (a * b)))
  | .quo => some (b ≠ 0, .i k (k.wrap (a.tdiv b)))
  | .rem => some (b ≠ 0, .i k (a.tmod b))
  | .and => some (True, .i k (k.wrap (BitVec.ofInt k.bits a &&& BitVec.ofInt k.bits b).toNat))
  | .or => some (True, .i k (k.wrap (BitVec.ofInt k.bits a ||| BitVec.ofInt k.bits b).toNat))
  | .xor => some (True, .i k (k.wrap (BitVec.ofInt k.bits a ^^^ BitVec.ofInt k.bits b).toNat))
  | .andNot => none
  | .shl => none
  | .shr => none
  | .eql => some (True, .b (a == b))
  | .neq => some (True, .b (a != b))
  | .lss => some (True, .b (decide (a < b)))
  | .leq => some (True, .b (decide (a ≤ b)))
  | .gtr => some (True, .b (decide (a > b)))
  | .geq => some (True, .b (decide (a ≥ b)))

def shI (left : Bool) (k : IntKind) (a b : Int) : Prop × PV :=
  match left with
  | true => (0 ≤ b, .i k (k.wrap (a * 2 ^ (min b.toNat k.bits))))
  | false => (0 ≤ b, .i k (a.fdiv (2 ^ (min b.toNat k.bits))))

def IntKind.beq : IntKind → IntKind → Bool
  | .i8, .i8 | .i16, .i16 | .i32, .i32 | .i64, .i64 | .u8, .u8 | .u16, .u16 | .u32, .u32 | .u64, .u64 => true
  | _, _ => false

/-- Equality of leaves. -/
def PV.eql : PV → PV → Bool
  | .b x, .b y => x == y
  | .i _ x, .i _ y => x == y
  | .s x, .s y => x == y
  | _, _ => false

def PV.plain : PV → Bool
  | .b _ | .i _ _ | .s _ => true
  | _ => false

def PV.sameKind : PV → PV → Bool
  | .b _, .b _ => true
  | .i k _, .i k' _ => IntKind.beq k k'
  | .s _, .s _ => true
  | _, _ => false

def eqls : List PV → List PV → Bool
  | [], [] => true
  | x :: l, y :: m => x.eql y && eqls l m
  | _, _ => false

def sameKinds : List PV → List PV → Bool
  | [], [] => true
  | x :: l, y :: m => x.sameKind y && sameKinds l m
  | _, _ => false

def PV.byte : PV → UInt8
  | .i _ n => UInt8.ofNat n.toNat
  | _ => 0

def PV.isByte : PV → Prop
  | .i .u8 n => 0 ≤ n ∧ n < 256
  | _ => False

def B (b : UInt8) : PV := .i .u8 b.toNat

/-- The elements that a slice holds, if they are persistent. -/
def elsOf (sg : Sg) : V → Option (Prop × List PV × List Nat)
  | .p (.sl l) => some (True, l, [])
  | .nils => some (True, [], [])
  | .os r none i n => match Sg.get sg r with
    | some (.pv _ els) => match i, n with
      | 0, n => some (n = els.length, els, [r])
      | i + 1, n => some (i + 1 + n ≤ els.length, (els.drop (i + 1)).take n, [r])
    | _ => none
  | _ => none

def leafAt (cells : List PV) (j : Nat) : PV := cells.getD j .nf

def setP (l : List PV) (j : Nat) (ys : List PV) : PV := .ag (l.take j ++ ys ++ l.drop (j + ys.length))

def K.new : K → Bool
  | .box _ | .bslice .. | .mks .. | .app .. | .apps | .mkmap => true
  | _ => false

/-! What the operations do, kind by kind. -/
def semMv : List V → Option Out
  | [v] => some (True, v, [], [])
  | _ => none
def semPick : List V → Option Out
  | [.p (.b true), a, _] => some (True, a, [], [])
  | [.p (.b false), _, b] => some (True, b, [], [])
  | _ => none
def semBox (dst es : Nat) : List V → Option Out
  | [v] => some (v.cellsV.length = es ∧ v.cellsV.all V.leaf = true, .ptr dst 0 0, [], [(dst, some (.vs es [v.cellsV]))])
  | _ => none
def semBuild (z : List V) (ps : List (Nat × Nat)) (vs : List V) : Option Out :=
  some (fillOk z.length ps vs ∧ z.all V.leaf = true ∧ (∀ v ∈ vs, v.cellsV.all V.leaf = true), mkAgg (fillV z ps vs), [], [])
def semBslice (dst es : Nat) (z : V) (n : Nat) (places : List Nat) (vs : List V) : Option Out :=
  match n with
  | 0 => some (places = [], .nils, [], [])
  | n + 1 => some ((∀ v ∈ vs, v.cellsV.length = es ∧ v.cellsV.all V.leaf = true) ∧ (∀ i ∈ places, i < n + 1) ∧ places.length = vs.length ∧ z.cellsV.all V.leaf = true,
        .os dst none 0 (n + 1), [], [(dst, some (boxOf es (setAll (List.replicate (n + 1) z) places vs)))])
def semLoad (alt : Nat) (ag : Bool) (sz : Nat) (vs : List V) (sg : Sg) : Option Out :=
  match vs with
  | [.pp cells] => match ag with
    | true => some (sz ≤ cells.length, .p (.ag (cells.take sz)), [], [])
    | false => some (0 < cells.length, .p (leafAt cells 0), [], [])
  | [.ptr r i j] => match Sg.get sg r with
    | some (.pv es els) => match ag with
      | true => match alt with
        | 0 => some (j = 0 ∧ i < els.length ∧ els.getD i .nf = .ag (els.getD i .nf).cells ∧ es = sz, .p (els.getD i .nf), [r], [])
        | _ => some (i < els.length ∧ j + sz ≤ es, .p (.ag (((els.getD i .nf).cells.drop j).take sz)), [r], [])
      | false => some (i < els.length ∧ j < es, .p (leafAt (els.getD i .nf).cells j), [r], [])
    | some (.vs es els) => match ag with
      | true => some (i < els.length ∧ j + sz ≤ es ∧ ((els.getD i []).all V.leaf = true), mkAgg (((els.getD i []).drop j).take sz), [r], [])
      | false => match (els.getD i [])[j]? with
        | some v => some (v.leaf = true ∧ i < els.length, v, [r], [])
        | none => none
    | _ => none
  | _ => none
def semStore (alt : Nat) (sz : Nat) (vs : List V) (sg : Sg) : Option Out :=
  match vs with
  | [.ptr r i j, v] => match Sg.get sg r with
    | some (.pv es els) => match elemP v with
      | some x => match alt with
        | 0 => some (j = 0 ∧ i < els.length ∧ x.cells.length = sz ∧ es = sz ∧ v.cellsV.all V.leaf = true, .junk, [r], [(r, some (.pv es (els.set i x)))])
        | _ => some (i < els.length ∧ x.cells.length = sz ∧ j + sz ≤ es ∧ v.cellsV.all V.leaf = true, .junk, [r], [(r, some (.pv es (els.set i (setP (els.getD i .nf).cells j x.cells))))])
      | none => none
    | some (.vs es els) => some (i < els.length ∧ v.cellsV.length = sz ∧ j + sz ≤ es ∧ v.cellsV.all V.leaf = true, .junk, [r],
        [(r, some (.vs es (els.set i ((els.getD i []).take j ++ v.cellsV ++ (els.getD i []).drop (j + sz)))))])
    | _ => none
  | _ => none
def semNilck (vs : List V) (sg : Sg) : Option Out :=
  match vs with
  | [.ptr r i j] => match Sg.get sg r with
    | some _ => some (True, .ptr r i j, [r], [])
    | none => none
  | [.pp cells] => some (True, .pp cells, [], [])
  | [.fn f caps] => some (True, .fn f caps, [], [])
  | _ => none
def semBin (op : BinOp) (vs : List V) : Option Out :=
  match vs with
  | [.p (.i k a), .p (.i k' b)] => match op with
    | .shl => some ((shI true k a b).1, .p (shI true k a b).2, [], [])
    | .shr => some ((shI false k a b).1, .p (shI false k a b).2, [], [])
    | op => match IntKind.beq k k', binI op k a b with
      | true, some (c, v) => some (c, .p v, [], [])
      | _, _ => none
  | _ => none
def semBeq (str neg : Bool) (vs : List V) : Option Out :=
  match str with
  | false => match vs with
    | [.p (.b a), .p (.b b)] => match neg with
      | false => some (True, .p (.b (a == b)), [], [])
      | true => some (True, .p (.b (!(a == b))), [], [])
    | _ => none
  | true => match vs with
    | [.p (.s a), .p (.s b)] => match neg with
      | false => some (True, .p (.b (a == b)), [], [])
      | true => some (True, .p (.b (!(a == b))), [], [])
    | _ => none
def semNot (vs : List V) : Option Out :=
  match vs with
  | [.p (.b a)] => some (True, .p (.b (!a)), [], [])
  | _ => none
def semConv (k : IntKind) (vs : List V) : Option Out :=
  match vs with
  | [.p (.i _ n)] => some (True, .p (.i k (k.wrap n)), [], [])
  | _ => none
def semB2s (vs : List V) (sg : Sg) : Option Out :=
  match vs with
  | [v] => match elsOf sg v with
    | some (c, l, R) => some (c ∧ ∀ x ∈ l, x.isByte, .p (.s (l.map PV.byte)), R, [])
    | none => none
  | _ => none
def semMark (vs : List V) (sg : Sg) : Option Out :=
  match vs with
  | [.os r none i n] => match elsOf sg (.os r none i n) with
    | some (c, l, R) => some (c ∧ 0 < n, .p (.sl l), R, [(r, none)])
    | none => none
  | _ => none
def semMks (dst es bytes : Nat) (z : V) (vs : List V) : Option Out :=
  match vs with
  | [.p (.i .i64 n), .p (.i .i64 m)] => match elemP z with
    | some x => some (0 ≤ n ∧ n = m ∧ bytes * n ≤ 281474976710656 ∧ x.cells.length = es ∧ z.cellsV.all V.leaf = true ∧ n ≤ 9223372036854775807, .os dst none 0 n.toNat, [], [(dst, some (.pv es (List.replicate n.toNat x)))])
    | none => none
  | _ => none
def szs (es : Nat) (l : List PV) : Prop := ∀ x ∈ l, x.cells.length = es
/-- A slice expression: from a to b, of a slice of n elements. -/
def slcAt (es : Nat) (v : V) (a b : Int) (sg : Sg) : Option Out :=
  match v with
  | .p (.sl l) => match a with
    | .ofNat 0 => some (0 ≤ b ∧ b ≤ l.length, .p (.sl (l.take b.toNat)), [], [])
    | a => some (0 ≤ a ∧ a ≤ b ∧ b ≤ l.length ∧ szs es l, .p (.sl ((l.drop a.toNat).take (b.toNat - a.toNat))), [], [])
  | .os r none i n => match Sg.get sg r with
    | some (.pv es' _) => match a with
      | .ofNat 0 => some (0 ≤ b ∧ b ≤ n, .os r none i b.toNat, [r], [])
      | a => some (0 ≤ a ∧ a ≤ b ∧ b ≤ n ∧ es' = es, .os r none (i + a.toNat) (b.toNat - a.toNat), [r], [])
    | _ => none
  | .nils => some (a = 0 ∧ b = 0, .nils, [], [])
  | _ => none
def slcFrom (es : Nat) (v : V) (a : Int) (sg : Sg) : Option Out :=
  match v with
  | .p (.sl l) => some (0 ≤ a ∧ a ≤ l.length ∧ szs es l, .p (.sl (l.drop a.toNat)), [], [])
  | .os r none i n => match Sg.get sg r with
    | some (.pv es' _) => some (0 ≤ a ∧ a ≤ n ∧ es' = es, .os r none (i + a.toNat) (n - a.toNat), [r], [])
    | _ => none
  | .nils => some (a = 0, .nils, [], [])
  | _ => none
def semSlc (es : Nat) (lo hi : Bool) (vs : List V) (sg : Sg) : Option Out :=
  match vs with
  | v :: bs => match lo, hi, bs with
    | true, true, [.p (.i .i64 a), .p (.i .i64 b)] => slcAt es v a b sg
    | true, false, [.p (.i .i64 a)] => slcFrom es v a sg
    | false, true, [.p (.i .i64 b)] => slcAt es v 0 b sg
    | _, _, _ => none
  | _ => none
def semSlc0 (vs : List V) : Option Out :=
  match vs with
  | [.p (.sl _), .p (.i .i64 0), .p (.i .i64 0)] => some (True, .nils, [], [])
  | _ => none
def semSls (lo hi : Bool) (vs : List V) : Option Out :=
  match vs with
  | .p (.s l) :: bs => match lo, hi, bs with
    | true, true, [.p (.i .i64 a), .p (.i .i64 b)] => some (0 ≤ a ∧ a ≤ b ∧ b ≤ l.length, .p (.s ((l.drop a.toNat).take (b.toNat - a.toNat))), [], [])
    | true, false, [.p (.i .i64 a)] => some (0 ≤ a ∧ a ≤ l.length, .p (.s (l.drop a.toNat)), [], [])
    | false, true, [.p (.i .i64 b)] => some (0 ≤ b ∧ b ≤ l.length, .p (.s (l.take b.toNat)), [], [])
    | _, _, _ => none
  | _ => none
def semFad (off : Nat) (vs : List V) (sg : Sg) : Option Out :=
  match vs with
  | [.ptr r i j] => match Sg.get sg r with
    | some _ => some (True, .ptr r i (j + off), [r], [])
    | none => none
  | [.pp cells] => some (True, .pp (cells.drop off), [], [])
  | _ => none
def semIad (es : Nat) (vs : List V) (sg : Sg) : Option Out :=
  match vs with
  | [v, .p (.i _ a)] => match v with
    | .p (.sl l) => some (0 ≤ a ∧ a < l.length ∧ (l.getD a.toNat .nf).cells.length = es, .pp (l.getD a.toNat .nf).cells, [], [])
    | .os r none i n => match Sg.get sg r with
      | some (.pv es' _) => some (0 ≤ a ∧ a < n ∧ es' = es, .ptr r (i + a.toNat) 0, [r], [])
      | some (.vs es' _) => some (0 ≤ a ∧ a < n ∧ es' = es, .ptr r (i + a.toNat) 0, [r], [])
      | _ => none
    | _ => none
  | _ => none
def semIaa (es n : Nat) (vs : List V) (sg : Sg) : Option Out :=
  match vs with
  | [.ptr r i j, .p (.i _ a)] => match Sg.get sg r with
    | some _ => some (0 ≤ a ∧ a < n, .ptr r i (j + a.toNat * es), [r], [])
    | none => none
  | [.pp cells, .p (.i _ a)] => some (0 ≤ a ∧ a < n, .pp (cells.drop (a.toNat * es)), [], [])
  | _ => none
def semIdx (vs : List V) : Option Out :=
  match vs with
  | [.p (.s l), .p (.i _ a)] => some (0 ≤ a ∧ a < l.length, .p (B (l.getD a.toNat 0)), [], [])
  | _ => none
def semIdxa (ag : Bool) (sz n : Nat) (vs : List V) : Option Out :=
  match vs with
  | [.p (.ag l), .p (.i _ a)] => match ag with
    | true => some (0 ≤ a ∧ a < n ∧ n * sz ≤ l.length, .p (.ag ((l.drop (a.toNat * sz)).take sz)), [], [])
    | false => some (0 ≤ a ∧ a < n ∧ n ≤ l.length, .p (leafAt l a.toNat), [], [])
  | _ => none
def semArp (n : Nat) (vs : List V) : Option Out :=
  match vs with
  | [.p (.sl l)] => some (l ≠ [] ∧ n ≤ l.length, .pp (l.flatMap PV.cells), [], [])
  | _ => none
def semExt (i : Nat) (vs : List V) : Option Out :=
  match vs with
  | [.tup l] => match l[i]? with
    | some v => some (True, v, [], [])
    | none => none
  | _ => none
def semLen (vs : List V) : Option Out :=
  match vs with
  | [v] => match v with
    | .p (.sl l) => some (True, .p (.i .i64 l.length), [], [])
    | .os _ _ _ n => some (True, .p (.i .i64 n), [], [])
    | .nils => some (True, .p (.i .i64 0), [], [])
    | _ => none
  | _ => none
def semLens (vs : List V) : Option Out :=
  match vs with
  | [.p (.s l)] => some (True, .p (.i .i64 l.length), [], [])
  | _ => none
def semMima (mx : Bool) (vs : List V) : Option Out :=
  match vs with
  | [.p (.i k a), .p (.i k' b)] => match IntKind.beq k k', mx with
    | true, false => some (True, .p (.i k (min a b)), [], [])
    | true, true => some (True, .p (.i k (max a b)), [], [])
    | _, _ => none
  | _ => none
/-- What is appended to: its elements, and the box that it is taken out of. -/
def baseOf (es : Nat) (sg : Sg) : V → Option (Prop × List PV × List Nat)
  | .nils => some (True, [], [])
  | .os r none i n => match Sg.get sg r with
    | some (.pv es' els) => match i with
      | 0 => some (n = els.length ∧ es' = es, els, [r])
      | i + 1 => some (i + 1 + n = els.length ∧ es' = es, els.drop (i + 1), [r])
    | _ => none
  | _ => none
def semApp (dst es bytes : Nat) (vs : List V) (sg : Sg) : Option Out :=
  match vs with
  | [b, x] => match baseOf es sg b, elsOf sg x with
    | some (c0, els, R0), some (c, l, R) =>
      some (c0 ∧ c ∧ (∀ y ∈ l, y.cells.length = es ∧ y.cells.all PV.leaf = true) ∧ (els.length + l.length) * bytes ≤ 140737488355328,
        .os dst none 0 (els.length + l.length), R0 ++ R, (dst, some (.pv es (els ++ l))) :: R0.map fun r => (r, none))
    | _, _ => none
  | _ => none
def semApps (dst : Nat) (vs : List V) (sg : Sg) : Option Out :=
  match vs with
  | [b, .p (.s l)] => match baseOf 1 sg b with
    | some (c0, els, R0) =>
      some (c0 ∧ els.length + l.length ≤ 140737488355328,
        .os dst none 0 (els.length + l.length), R0, (dst, some (.pv 1 (els ++ l.map B))) :: R0.map fun r => (r, none))
    | none => none
  | _ => none
/-- Keys of one kind of integers. -/
def intKeys (kk : IntKind) : List (PV × V) → Bool
  | [] => true
  | (.i k _, _) :: l => IntKind.beq kk k && intKeys kk l
  | _ :: _ => false
def noKey (n : Int) : List (PV × V) → Prop
  | [] => True
  | (.i _ a, _) :: l => n ≠ a ∧ noKey n l
  | _ :: l => noKey n l
def semMkmap (dst : Nat) : List V → Option Out
  | [] => some (True, .mp dst, [], [(dst, some (.mp []))])
  | _ => none
def semMins (kk : IntKind) (vs : List V) (sg : Sg) : Option Out :=
  match vs with
  | [.mp r, .p (.i k n), v] => match Sg.get sg r with
    | some (.mp ents) => some (IntKind.beq kk k = true ∧ intKeys kk ents = true ∧ noKey n ents ∧ v.leaf = true, .junk, [r], [(r, some (.mp (ents ++ [(.i k n, v)])))])
    | _ => none
  | _ => none
/-- The entry alt - 1, or none ('alt' = 0). -/
def semMlook (alt : Nat) (kk : IntKind) (cok : Bool) (z : V) (vs : List V) (sg : Sg) : Option Out :=
  match vs with
  | [.mp r, .p (.i k n)] => match Sg.get sg r with
    | some (.mp ents) => match alt with
      | 0 => match cok with
        | true => some (IntKind.beq kk k = true ∧ intKeys kk ents = true ∧ noKey n ents, .tup [z, .p (.b false)], [r], [])
        | false => some (IntKind.beq kk k = true ∧ intKeys kk ents = true ∧ noKey n ents, z, [r], [])
      | i + 1 => match ents[i]? with
        | some (.i _ a, v) => match cok with
          | true => some (IntKind.beq kk k = true ∧ intKeys kk ents = true ∧ noKey n (ents.take i) ∧ n = a ∧ v.leaf = true, .tup [v, .p (.b true)], [r], [])
          | false => some (IntKind.beq kk k = true ∧ intKeys kk ents = true ∧ noKey n (ents.take i) ∧ n = a ∧ v.leaf = true, v, [r], [])
        | _ => none
    | _ => none
  | _ => none
def PV.isTag : PV → Nat → Bool
  | .i _ _, 0 => true
  | .s _, 1 => true
  | .b _, 2 => true
  | _, _ => false
def tagsOk : List Nat → List PV → Bool
  | [], [] => true
  | t :: ts, x :: l => x.isTag t && tagsOk ts l
  | _, _ => false
def semSeq (tags : List Nat) (neg : Bool) (vs : List V) : Option Out :=
  match vs with
  | [.p (.ag l), .p (.ag m)] => match neg with
    | false => some (tagsOk tags l = true ∧ tagsOk tags m = true ∧ sameKinds l m = true, .p (.b (eqls l m)), [], [])
    | true => some (tagsOk tags l = true ∧ tagsOk tags m = true ∧ sameKinds l m = true, .p (.b (!eqls l m)), [], [])
  | _ => none

/-- What an operation does, in one of several ways ('alt'). -/
def sem (alt : Nat) (dst : Nat) (k : K) (vs : List V) (sg : Sg) : Option Out :=
  match k with
  | .mv => semMv vs
  | .pick => semPick vs
  | .box es => semBox dst es vs
  | .build z ps => semBuild z ps vs
  | .bslice es z n places => semBslice dst es z n places vs
  | .load ag sz => semLoad alt ag sz vs sg
  | .store sz => semStore alt sz vs sg
  | .nilck => semNilck vs sg
  | .bin op => semBin op vs
  | .beq str neg => semBeq str neg vs
  | .seq tags neg => semSeq tags neg vs
  | .not => semNot vs
  | .conv k => semConv k vs
  | .b2s => semB2s vs sg
  | .mark => semMark vs sg
  | .fn f => some (True, .fn f vs, [], [])
  | .mks es bytes z => semMks dst es bytes z vs
  | .slc es lo hi => semSlc es lo hi vs sg
  | .slc0 => semSlc0 vs
  | .sls lo hi => semSls lo hi vs
  | .fad off => semFad off vs sg
  | .iad es => semIad es vs sg
  | .iaa es n => semIaa es n vs sg
  | .idx => semIdx vs
  | .idxa ag sz n => semIdxa ag sz n vs
  | .arp n => semArp n vs
  | .ext i => semExt i vs
  | .len => semLen vs
  | .lens => semLens vs
  | .mima mx => semMima mx vs
  | .app es bytes => semApp dst es bytes vs sg
  | .apps => semApps dst vs sg
  | .mkmap => semMkmap dst vs
  | .mins kk => semMins kk vs sg
  | .mlook kk cok z => semMlook alt kk cok z vs sg
  | .call => none

end Go.DW

/- The operations of the intermediate form are sound: operands, and what touches no memory. -/
namespace Go.DW

def look (a : Act) (t : Nat) : Option Value := if t < 1000000 then a.tmps[t]? else some (.pointer (some ⟨t - 1000000, 0, none⟩))

def EnvRep (w : World) (ok : Nat → Prop) (ρ : Rho) (a : Act) (e : Env) : Prop := ∀ t v, Env.get e t = some v → ∃ u, look a t = some u ∧ VRep w ok ρ v u

theorem cLeaf_rep {w : World} {ok : Nat → Prop} {ρ : Rho} {x : Value} {v : V} (h : cLeaf x = some v) : VRep w ok ρ v x := by
  unfold cLeaf at h
  split at h <;> simp at h <;> subst h
  · exact .p (.b _)
  · exact .p (.i _ _)
  · rename_i s
    have : Value.string s = .string ⟨s.data.toList.toArray⟩ := by simp
    rw [this]; exact .p (.s _)
  · exact .nils _
  · exact .p .nf
  · exact .junk _

theorem cLeaves_rep {w : World} {ok : Nat → Prop} {ρ : Rho} : ∀ {l : List Value} {vs : List V}, cLeaves l = some vs → VReps w ok ρ vs l
  | [], _, h => by simp [cLeaves] at h; subst h; exact .nil
  | x :: l, vs, h => by
    simp only [cLeaves] at h
    cases hx : cLeaf x <;> simp [hx] at h
    cases hl : cLeaves l <;> simp [hl] at h
    subst h
    exact .cons (cLeaf_rep hx) (cLeaves_rep hl)

theorem cV_rep {w : World} {ok : Nat → Prop} {ρ : Rho} {x : Value} {v : V} (h : cV x = some v) : VRep w ok ρ v x := by
  unfold cV at h
  split at h
  · rename_i cs
    simp at h
    obtain ⟨vs, hvs, rfl⟩ := h
    have := VRep.agg (cLeaves_rep (w := w) (ok := ok) (ρ := ρ) hvs)
    simpa using this
  · exact cLeaf_rep h

theorem cX_rep {w : World} {ok : Nat → Prop} {ρ : Rho} {a : Act} {e : Env} (he : EnvRep w ok ρ a e) {o : Operand} {x : X} {v : V} (hx : cX o = some x) (hv : x.ev e = some v) :
    VRep w ok ρ v (a.eval o) := by
  cases o with
  | tmp t =>
    simp only [cX] at hx
    split at hx
    · rename_i ht
      simp at hx
      subst hx
      obtain ⟨u, hu, hr⟩ := he t v hv
      simp [look, ht] at hu
      have : a.eval (.tmp t) = u := by simp [Act.eval, Array.getD_eq_getD_getElem?, hu]
      rw [this]; exact hr
    · simp at hx
  | const c =>
    simp [cX] at hx
    obtain ⟨v', h1, rfl⟩ := hx
    simp [X.ev] at hv
    subst hv
    exact cV_rep h1
  | global g =>
    simp [cX] at hx
    subst hx
    obtain ⟨u, hu, hr⟩ := he _ v hv
    have hlt : ¬ (1000000 + g < 1000000) := by omega
    simp [look, hlt] at hu
    subst hu
    exact hr
  | func f =>
    simp [cX] at hx
    subst hx
    simp [X.ev] at hv
    subst hv
    have := VRep.fn (w := w) (ok := ok) (ρ := ρ) (f := f) (VReps.nil)
    simpa [Act.eval] using this

theorem cXs_rep {w : World} {ok : Nat → Prop} {ρ : Rho} {a : Act} {e : Env} (he : EnvRep w ok ρ a e) : ∀ {os : List Operand} {xs : List X} {vs : List V}, cXs os = some xs → evs e xs = some vs →
    VReps w ok ρ vs (os.map a.eval)
  | [], xs, vs, h, hv => by
    simp [cXs] at h; subst h
    simp [evs] at hv; subst hv
    exact .nil
  | o :: os, xs, vs, h, hv => by
    simp only [cXs] at h
    cases hx : cX o <;> simp [hx] at h
    cases hl : cXs os <;> simp [hl] at h
    subst h
    simp only [evs] at hv
    rename_i x xs'
    cases h1 : x.ev e <;> simp [h1] at hv
    cases h2 : evs e xs' <;> simp [h2] at hv
    subst hv
    exact .cons (cX_rep he hx h1) (cXs_rep he hl h2)

/-- What has to be shown of an operation's run. -/
def Res (Fr : Nat → Prop) (ρ : Rho) (w : World) (sg : Sg) (dst : Nat) (new : Bool) (v : V) (Δ : Sg) (r : Result Next) : Prop :=
  ∃ u w' ρ', (r = .ok (.value u) w' ∨ (r = .ok .skip w' ∧ u = undef)) ∧ Evo w ρ w' ρ' ∧ VRep w' (okOf w' Fr ρ') ρ' v u ∧ SgRel w' Fr ρ' (Δ ++ sg) ∧
    (∀ r s L, ρ' r s = some L → ρ r s = some L ∨ (new = true ∧ r = dst))

section
variable {P : Program} {Fr : Nat → Prop} {ρ : Rho} {w : World} {sg : Sg} {dst : Nat} {new : Bool}

theorem Res.pure {v : V} {u : Value} {r : Result Next} (hsg : SgRel w Fr ρ sg) (hr : r = .ok (.value u) w) (hv : VRep w (okOf w Fr ρ) ρ v u) : Res Fr ρ w sg dst new v [] r :=
  ⟨u, w, ρ, .inl hr, Evo.refl _ _, hv, hsg, fun _ _ _ h => .inl h⟩

theorem run_value (s : Sem Value) (x : Value) (w' : World) (h : s.run P w = .ok x w') :
    (do Pure.pure (Next.value (← s)) : Sem Next).run P w = .ok (.value x) w' := by
  simp [h]

/-! ### Inversions -/
theorem VRep.inv_p {v : PV} {u : Value} {ok : Nat → Prop} (h : VRep w ok ρ (.p v) u) : PRep w ok v u := by cases h; assumption
theorem PRep.inv_b {x : Bool} {u : Value} {ok : Nat → Prop} (h : PRep w ok (.b x) u) : u = .bool x := by cases h; rfl
theorem PRep.inv_i {k : IntKind} {n : Int} {u : Value} {ok : Nat → Prop} (h : PRep w ok (.i k n) u) : u = .int k n := by cases h; rfl
theorem PRep.inv_s {l : List UInt8} {u : Value} {ok : Nat → Prop} (h : PRep w ok (.s l) u) : u = .string ⟨l.toArray⟩ := by cases h; rfl
theorem VRep.inv_b {x : Bool} {u : Value} {ok : Nat → Prop} (h : VRep w ok ρ (.p (.b x)) u) : u = .bool x := h.inv_p.inv_b
theorem VRep.inv_i {k : IntKind} {n : Int} {u : Value} {ok : Nat → Prop} (h : VRep w ok ρ (.p (.i k n)) u) : u = .int k n := h.inv_p.inv_i
theorem VRep.inv_s {l : List UInt8} {u : Value} {ok : Nat → Prop} (h : VRep w ok ρ (.p (.s l)) u) : u = .string ⟨l.toArray⟩ := h.inv_p.inv_s
theorem VReps.inv1 {x : V} {us : List Value} {ok : Nat → Prop} (h : VReps w ok ρ [x] us) : ∃ u, us = [u] ∧ VRep w ok ρ x u := by
  cases h with
  | cons h hs => cases hs; exact ⟨_, rfl, h⟩
theorem VReps.inv2 {x y : V} {us : List Value} {ok : Nat → Prop} (h : VReps w ok ρ [x, y] us) : ∃ u v, us = [u, v] ∧ VRep w ok ρ x u ∧ VRep w ok ρ y v := by
  cases h with
  | cons h hs => obtain ⟨v, rfl, hv⟩ := VReps.inv1 hs; exact ⟨_, _, rfl, h, hv⟩
theorem VReps.inv3 {x y z : V} {us : List Value} {ok : Nat → Prop} (h : VReps w ok ρ [x, y, z] us) : ∃ u v t, us = [u, v, t] ∧ VRep w ok ρ x u ∧ VRep w ok ρ y v ∧ VRep w ok ρ z t := by
  cases h with
  | cons h hs => obtain ⟨v, t, rfl, hv, ht⟩ := VReps.inv2 hs; exact ⟨_, _, _, rfl, h, hv, ht⟩
theorem VReps.inv0 {us : List Value} {ok : Nat → Prop} (h : VReps w ok ρ [] us) : us = [] := by cases h; rfl

/-- The cells of a value. -/
theorem VRep.cells {v : V} {u : Value} {ok : Nat → Prop} (h : VRep w ok ρ v u) (hl : v.cellsV.all V.leaf = true) : VReps w ok ρ v.cellsV u.cells.toList := by
  cases h with
  | p h =>
    cases h <;> simp only [V.cellsV, PV.cells, List.map, Value.cells] <;> first
      | exact .cons (.p (.b _)) .nil
      | exact .cons (.p (.i _ _)) .nil
      | exact .cons (.p (.s _)) .nil
      | exact .cons (.p .nf) .nil
      | exact .cons (.p (.sl0 _ _)) .nil
      | skip
    · rename_i h1 h2 h3 h4 h5 h6
      exact .cons (.p (.sl _ _ _ _ _ _ h1 h2 h3 h4 h5 h6)) .nil
    · rename_i l us h
      exact VReps.of_p h
  | agg h => simpa [V.cellsV, Value.cells] using h
  | nils a => exact .cons (.nils a) .nil
  | tup h => simp [V.cellsV, V.leaf] at hl
  | junk => simp [V.cellsV, V.leaf] at hl
  | ptr h => exact .cons (.ptr h) .nil
  | pp h1 h2 h3 => exact .cons (.pp h1 h2 h3) .nil
  | os h => exact .cons (.os h) .nil
  | fn h => exact .cons (.fn h) .nil
  | mp h => exact .cons (.mp h) .nil

/-! ### Operations that touch no memory -/
theorem snd_mv {vals : List V} {us : List Value} {c : Prop} {v : V} {R : List Nat} {Δ : Sg} (hs : semMv vals = some (c, v, R, Δ)) (hv : VReps w (okOf w Fr ρ) ρ vals us) (hsg : SgRel w Fr ρ sg) :
    ∃ u, us = [u] ∧ ∀ r, r = .ok (.value u) w → Res Fr ρ w sg dst new v Δ r := by
  unfold semMv at hs
  split at hs
  · simp only [Option.some.injEq, Prod.mk.injEq] at hs; obtain ⟨rfl, rfl, rfl, rfl⟩ := hs
    obtain ⟨u, rfl, hu⟩ := hv.inv1
    exact ⟨u, rfl, fun r hr => Res.pure hsg hr hu⟩
  · simp at hs

theorem snd_pick {vals : List V} {us : List Value} {c : Prop} {v : V} {R : List Nat} {Δ : Sg} (hs : semPick vals = some (c, v, R, Δ)) (hv : VReps w (okOf w Fr ρ) ρ vals us) (hsg : SgRel w Fr ρ sg) :
    ∃ b x y, us = [.bool b, x, y] ∧ ∀ r, r = .ok (.value (if b then x else y)) w → Res Fr ρ w sg dst new v Δ r := by
  unfold semPick at hs
  split at hs
  · simp only [Option.some.injEq, Prod.mk.injEq] at hs; obtain ⟨rfl, rfl, rfl, rfl⟩ := hs
    obtain ⟨u, x, y, rfl, h1, h2, h3⟩ := hv.inv3
    cases h1.inv_b
    exact ⟨true, x, y, rfl, fun r hr => Res.pure hsg hr h2⟩
  · simp only [Option.some.injEq, Prod.mk.injEq] at hs; obtain ⟨rfl, rfl, rfl, rfl⟩ := hs
    obtain ⟨u, x, y, rfl, h1, h2, h3⟩ := hv.inv3
    cases h1.inv_b
    exact ⟨false, x, y, rfl, fun r hr => Res.pure hsg hr h3⟩
  · simp at hs

theorem beq_kind : ∀ {k k' : IntKind}, IntKind.beq k k' = true → k = k' := by
  intro k k' h
  cases k <;> cases k' <;> simp_all [IntKind.beq]

theorem run_binI {ok : Nat → Prop} (t : TypeId) {op : BinOp} {k : IntKind} {a b : Int} {c : Prop} {x : PV} (h : binI op k a b = some (c, x)) (hc : c) :
    ∃ u, (binOp op t (.int k a) (.int k b)).run P w = .ok u w ∧ PRep w ok x u := by
  cases op <;> simp only [binI, Option.some.injEq, Prod.mk.injEq, reduceCtorEq] at h
  all_goals (obtain ⟨rfl, rfl⟩ := h)
  · exact ⟨_, by rw [binOp_add]; rfl, .i _ _⟩
  · exact ⟨_, by rw [binOp_sub]; rfl, .i _ _⟩
  · exact ⟨_, by rw [binOp_mul]; rfl, .i _ _⟩
  · exact ⟨_, by rw [binOp_quo, Op.intDiv, if_neg hc]; rfl, .i _ _⟩
  · exact ⟨_, by rw [binOp_rem, Op.intDiv, if_neg hc]; rfl, .i _ _⟩
  · exact ⟨_, by rw [binOp_and]; rfl, .i _ _⟩
  · exact ⟨_, by rw [binOp_or]; rfl, .i _ _⟩
  · exact ⟨_, by rw [binOp_xor]; rfl, .i _ _⟩
  · exact ⟨_, by rw [binOp_eql]; rfl, .b _⟩
  · exact ⟨_, by rw [binOp_neq]; rfl, .b _⟩
  · exact ⟨_, by rw [binOp_lss]; rfl, .b _⟩
  · exact ⟨_, by rw [binOp_leq]; rfl, .b _⟩
  · exact ⟨_, by rw [binOp_gtr]; rfl, .b _⟩
  · exact ⟨_, by rw [binOp_geq]; rfl, .b _⟩

theorem snd_bin (t : TypeId) {op : BinOp} {vals : List V} {us : List Value} {c : Prop} {v : V} {R : List Nat} {Δ : Sg} (hs : semBin op vals = some (c, v, R, Δ)) (hc : c) (hv : VReps w (okOf w Fr ρ) ρ vals us) (hsg : SgRel w Fr ρ sg) :
    ∃ x y, us = [x, y] ∧ ∀ (o1 o2 : Operand), Res Fr ρ w sg dst new v Δ ((do Pure.pure (Next.value (← (do eqGuard op t o1 o2 x y; binOp op t x y))) : Sem Next).run P w) := by
  unfold semBin at hs
  split at hs
  · rename_i k a k' b
    obtain ⟨x, y, rfl, h1, h2⟩ := hv.inv2
    cases h1.inv_i; cases h2.inv_i
    refine ⟨_, _, rfl, fun o1 o2 => ?_⟩
    split at hs
    · simp only [shI, Option.some.injEq, Prod.mk.injEq] at hs; obtain ⟨rfl, rfl, rfl, rfl⟩ := hs
      refine Res.pure hsg (u := .int k (k.wrap (a * 2 ^ (min b.toNat k.bits)))) ?_ (.p (.i _ _))
      have : ¬ b < 0 := by simpa using hc
      simp [binOp, Op.shift, this, eqGuard]
    · simp only [shI, Option.some.injEq, Prod.mk.injEq] at hs; obtain ⟨rfl, rfl, rfl, rfl⟩ := hs
      refine Res.pure hsg (u := .int k (a.fdiv (2 ^ (min b.toNat k.bits)))) ?_ (.p (.i _ _))
      have : ¬ b < 0 := by simpa using hc
      simp [binOp, Op.shift, this, eqGuard]
    · split at hs
      · rename_i hk hb
        cases beq_kind hk
        simp only [Option.some.injEq, Prod.mk.injEq] at hs; obtain ⟨rfl, rfl, rfl, rfl⟩ := hs
        obtain ⟨u, hu, hr⟩ := run_binI (P := P) (w := w) (ok := okOf w Fr ρ) t hb hc
        exact Res.pure hsg (u := u) (by simp [eqGuard_at_int, hu]) (.p hr)
      · simp at hs
  · simp at hs

theorem toList_mk (l : List UInt8) : (⟨l.toArray⟩ : ByteArray).toList = l := by rw [ByteArray.toList_eq]

theorem snd_beq (t : TypeId) {str neg : Bool} {op : BinOp} (hop : (neg = false ∧ op = .eql) ∨ (neg = true ∧ op = .neq)) (ht : str = false → P.underlying t = some .bool) {vals : List V} {us : List Value} {c : Prop} {v : V} {R : List Nat} {Δ : Sg}
    (hs : semBeq str neg vals = some (c, v, R, Δ)) (hv : VReps w (okOf w Fr ρ) ρ vals us) (hsg : SgRel w Fr ρ sg) :
    ∃ x y, us = [x, y] ∧ ∀ (o1 o2 : Operand), Res Fr ρ w sg dst new v Δ ((do Pure.pure (Next.value (← (do eqGuard op t o1 o2 x y; binOp op t x y))) : Sem Next).run P w) := by
  unfold semBeq at hs
  split at hs
  · split at hs
    · obtain ⟨x, y, rfl, h1, h2⟩ := hv.inv2
      cases h1.inv_b; cases h2.inv_b
      have hb := ht rfl
      refine ⟨_, _, rfl, fun o1 o2 => ?_⟩
      rcases hop with ⟨rfl, rfl⟩ | ⟨rfl, rfl⟩
      all_goals simp only [Option.some.injEq, Prod.mk.injEq] at hs; obtain ⟨rfl, rfl, rfl, rfl⟩ := hs
      · exact Res.pure hsg (u := .bool _) (by simp only [eqGuard_at_bool, Sem.run_bind, Sem.run_pure, Result.andThen_ok, run_eql_bool w t _ _ hb]) (.p (.b _))
      · exact Res.pure hsg (u := .bool _) (by simp only [eqGuard_at_bool, Sem.run_bind, Sem.run_pure, Result.andThen_ok, run_neq_bool w t _ _ hb]) (.p (.b _))
    · simp at hs
  · split at hs
    · obtain ⟨x, y, rfl, h1, h2⟩ := hv.inv2
      cases h1.inv_s; cases h2.inv_s
      refine ⟨_, _, rfl, fun o1 o2 => ?_⟩
      rcases hop with ⟨rfl, rfl⟩ | ⟨rfl, rfl⟩
      all_goals simp only [Option.some.injEq, Prod.mk.injEq] at hs; obtain ⟨rfl, rfl, rfl, rfl⟩ := hs
      · exact Res.pure hsg (u := .bool _) (by simp only [eqGuard_at_string, Sem.run_bind, Sem.run_pure, Result.andThen_ok, binOp, Op.stringOp, toList_mk]) (.p (.b _))
      · exact Res.pure hsg (u := .bool _) (by simp only [eqGuard_at_string, Sem.run_bind, Sem.run_pure, Result.andThen_ok, binOp, Op.stringOp, toList_mk]) (.p (.b _))
    · simp at hs

theorem snd_not {vals : List V} {us : List Value} {c : Prop} {v : V} {R : List Nat} {Δ : Sg} (hs : semNot vals = some (c, v, R, Δ)) (hv : VReps w (okOf w Fr ρ) ρ vals us) (hsg : SgRel w Fr ρ sg) :
    ∃ x, us = [x] ∧ Res Fr ρ w sg dst new v Δ ((do Pure.pure (Next.value (← Op.unary .not x)) : Sem Next).run P w) := by
  unfold semNot at hs
  split at hs
  · obtain ⟨x, rfl, h1⟩ := hv.inv1
    cases h1.inv_b
    simp only [Option.some.injEq, Prod.mk.injEq] at hs; obtain ⟨rfl, rfl, rfl, rfl⟩ := hs
    exact ⟨_, rfl, Res.pure hsg (u := .bool _) (by simp [Op.unary]) (.p (.b _))⟩
  · simp at hs

theorem snd_conv (s d : TypeId) {k k' : IntKind} (hsT : P.underlying s = some (.int k')) (hdT : P.underlying d = some (.int k)) {vals : List V} {us : List Value} {c : Prop} {v : V} {R : List Nat} {Δ : Sg} (hs : semConv k vals = some (c, v, R, Δ)) (hv : VReps w (okOf w Fr ρ) ρ vals us) (hsg : SgRel w Fr ρ sg) :
    ∃ x, us = [x] ∧ Res Fr ρ w sg dst new v Δ ((do Pure.pure (Next.value (← convert s d x)) : Sem Next).run P w) := by
  unfold semConv at hs
  split at hs
  · obtain ⟨x, rfl, h1⟩ := hv.inv1
    cases h1.inv_i
    simp only [Option.some.injEq, Prod.mk.injEq] at hs; obtain ⟨rfl, rfl, rfl, rfl⟩ := hs
    exact ⟨_, rfl, Res.pure hsg (u := .int k _) (by simp [convert, run_underlying hsT, run_underlying hdT, Conv.intToInt]) (.p (.i _ _))⟩
  · simp at hs

theorem snd_ext {i : Nat} {vals : List V} {us : List Value} {c : Prop} {v : V} {R : List Nat} {Δ : Sg} (hs : semExt i vals = some (c, v, R, Δ)) (hv : VReps w (okOf w Fr ρ) ρ vals us) (hsg : SgRel w Fr ρ sg) :
    ∃ x, us = [x] ∧ Res Fr ρ w sg dst new v Δ ((do Pure.pure (Next.value (← Instr.extract x i)) : Sem Next).run P w) := by
  unfold semExt at hs
  split at hs
  · rename_i l
    obtain ⟨x, rfl, h1⟩ := hv.inv1
    split at hs
    · rename_i y hy
      simp only [Option.some.injEq, Prod.mk.injEq] at hs; obtain ⟨rfl, rfl, rfl, rfl⟩ := hs
      cases h1 with
      | tup h =>
        obtain ⟨u, hu, hr⟩ := h.get hy
        exact ⟨_, rfl, Res.pure hsg (u := u) (by simp [Instr.extract, hu]) hr⟩
    · simp at hs
  · simp at hs

theorem snd_len (t ty e : TypeId) (ht : P.underlying t = some (.slice e)) {vals : List V} {us : List Value} {c : Prop} {v : V} {R : List Nat} {Δ : Sg} (hs : semLen vals = some (c, v, R, Δ)) (hv : VReps w (okOf w Fr ρ) ρ vals us) (hsg : SgRel w Fr ρ sg) :
    ∃ x, us = [x] ∧ Res Fr ρ w sg dst new v Δ ((do Pure.pure (Next.value (← Builtin.len_ #[t] ty #[x])) : Sem Next).run P w) := by
  unfold semLen at hs
  split at hs
  · obtain ⟨x, rfl, h1⟩ := hv.inv1
    refine ⟨x, rfl, ?_⟩
    have key : ∀ (a : Option Addr) (n cap : Nat), x = .slice a n cap → v = .p (.i .i64 n) → Δ = [] → Res Fr ρ w sg dst new v Δ ((do Pure.pure (Next.value (← Builtin.len_ #[t] ty #[x])) : Sem Next).run P w) := by
      rintro a n cap rfl rfl rfl
      exact Res.pure hsg (u := .int .i64 n) (by simp [Builtin.len_, run_underlying ht, goInt]) (.p (.i _ _))
    split at hs
    · simp only [Option.some.injEq, Prod.mk.injEq] at hs; obtain ⟨rfl, rfl, rfl, rfl⟩ := hs
      cases h1 with
      | p h => cases h with
        | sl0 a cap => exact key a 0 cap rfl rfl rfl
        | sl => exact key _ _ _ rfl rfl rfl
    · simp only [Option.some.injEq, Prod.mk.injEq] at hs; obtain ⟨rfl, rfl, rfl, rfl⟩ := hs
      cases h1 with
      | os h => exact key _ _ _ rfl rfl rfl
    · simp only [Option.some.injEq, Prod.mk.injEq] at hs; obtain ⟨rfl, rfl, rfl, rfl⟩ := hs
      cases h1 with
      | nils a => exact key _ _ _ rfl rfl rfl
    · simp at hs
  · simp at hs

theorem snd_lens (t ty : TypeId) (ht : P.underlying t = some .string) {vals : List V} {us : List Value} {c : Prop} {v : V} {R : List Nat} {Δ : Sg} (hs : semLens vals = some (c, v, R, Δ)) (hv : VReps w (okOf w Fr ρ) ρ vals us) (hsg : SgRel w Fr ρ sg) :
    ∃ x, us = [x] ∧ Res Fr ρ w sg dst new v Δ ((do Pure.pure (Next.value (← Builtin.len_ #[t] ty #[x])) : Sem Next).run P w) := by
  unfold semLens at hs
  split at hs
  · rename_i l
    obtain ⟨x, rfl, h1⟩ := hv.inv1
    cases h1.inv_s
    simp only [Option.some.injEq, Prod.mk.injEq] at hs; obtain ⟨rfl, rfl, rfl, rfl⟩ := hs
    have hsz : (⟨l.toArray⟩ : ByteArray).size = l.length := rfl
    refine ⟨_, rfl, Res.pure hsg (u := .int .i64 l.length) ?_ (.p (.i _ _))⟩
    rw [← hsz]
    generalize (⟨l.toArray⟩ : ByteArray) = s
    simp [Builtin.len_, run_underlying ht, goInt]
  · simp at hs

theorem snd_mima (ts : Array TypeId) (ty : TypeId) {mx : Bool} {vals : List V} {us : List Value} {c : Prop} {v : V} {R : List Nat} {Δ : Sg} (hs : semMima mx vals = some (c, v, R, Δ)) (hv : VReps w (okOf w Fr ρ) ρ vals us) (hsg : SgRel w Fr ρ sg) :
    ∃ x y, us = [x, y] ∧ Res Fr ρ w sg dst new v Δ ((do Pure.pure (Next.value (← (if mx then Builtin.max_ ts ty #[x, y] else Builtin.min_ ts ty #[x, y]))) : Sem Next).run P w) := by
  unfold semMima at hs
  split at hs
  · rename_i k a k' b
    obtain ⟨x, y, rfl, h1, h2⟩ := hv.inv2
    cases h1.inv_i; cases h2.inv_i
    refine ⟨_, _, rfl, ?_⟩
    split at hs
    · rename_i hk
      simp only [Option.some.injEq, Prod.mk.injEq] at hs; obtain ⟨rfl, rfl, rfl, rfl⟩ := hs
      refine Res.pure hsg (u := .int k (min a b)) ?_ (.p (.i _ _))
      have : (if b < a then b else a) = min a b := by rw [Int.min_def]; split <;> split <;> omega
      simp [run_min_int2, this]
    · rename_i hk
      simp only [Option.some.injEq, Prod.mk.injEq] at hs; obtain ⟨rfl, rfl, rfl, rfl⟩ := hs
      refine Res.pure hsg (u := .int k (max a b)) ?_ (.p (.i _ _))
      have : (if b > a then b else a) = max a b := by rw [Int.max_def]; split <;> split <;> omega
      simp [run_max_int2, this]
    · simp at hs
  · simp at hs

theorem snd_fn (f : FuncId) {vals : List V} {us : List Value} (hv : VReps w (okOf w Fr ρ) ρ vals us) (hsg : SgRel w Fr ρ sg) :
    Res Fr ρ w sg dst new (.fn f vals) [] ((do Pure.pure (Next.value (← Instr.makeFunc (.func f) #[] us.toArray)) : Sem Next).run P w) :=
  Res.pure hsg (u := .func (.func f) #[] us.toArray) (by simp [Instr.makeFunc]) (.fn hv)
end

end Go.DW

/- The operations that read memory, and addresses. -/
namespace Go.DW
section
variable {P : Program} {Fr : Nat → Prop} {ρ : Rho} {w : World} {sg : Sg} {dst : Nat} {new : Bool} {ok : Nat → Prop}

theorem info_of_size {t : TypeId} {n : Nat} (h : sizeOfT P t = some n) : ∃ i, P.info? t = some i ∧ i.size = n := by
  unfold sizeOfT at h
  cases hi : P.info? t with
  | none => simp [hi] at h
  | some i => simp [hi] at h; exact ⟨i, rfl, h⟩

theorem run_sizeOf {t : TypeId} {n : Nat} (h : sizeOfT P t = some n) (w : World) : (sizeOf t).run P w = .ok n w := by
  obtain ⟨i, hi, rfl⟩ := info_of_size h
  simp [sizeOf, typeInfo, hi]

theorem run_isAgg {t : TypeId} {b : Bool} (h : isAggT P t = some b) (w : World) : (isAgg t).run P w = .ok b w := by
  unfold isAggT at h
  split at h
  · rename_i hu; simp at h; subst h; simp [isAgg, run_underlying hu]
  · rename_i hu; simp at h; subst h; simp [isAgg, run_underlying hu]
  · rename_i d h1 h2 hu; simp at h; subst h
    simp only [isAgg, Sem.run_bind, run_underlying hu, Result.andThen_ok]
    cases d <;> simp_all
  · simp at h

theorem run_load_agg {t : TypeId} {b o : Nat} {us : List Value} (ha : isAggT P t = some true) (hs : sizeOfT P t = some us.length)
    (hc : ∀ (j : Nat) u, us[j]? = some u → w.cell? ⟨b, o + j, none⟩ = some u) : (loadVar t ⟨b, o, none⟩).run P w = .ok (.agg us.toArray) w := by
  have hl := run_loadCells_list (P := P) w ⟨b, o, none⟩ us (fun j v hv => by rw [Addr.add_lit]; exact hc j v hv)
  simp [loadVar, run_isAgg ha, run_sizeOf hs, hl]

theorem run_load_one {t : TypeId} {b o : Nat} {u : Value} (ha : isAggT P t = some false) (hc : w.cell? ⟨b, o, none⟩ = some u) : (loadVar t ⟨b, o, none⟩).run P w = .ok u w := by
  simp [loadVar, run_isAgg ha, hc]

/-- The cells of an element of an owned array. -/
theorem ArrRep.cells {r : Nat} {L : Loc} {els : List (List V)} (h : ArrRep w ok ρ r L els) {i : Nat} {cs : List V} (hi : els[i]? = some cs) (hnw : cs.all V.leaf = true) :
    ∃ us, VReps w ok ρ cs us ∧ ∀ (j : Nat) u, us[j]? = some u → w.cell? ⟨L.blk, L.off + i * L.es + j, none⟩ = some u := by
  have hil : i < els.length := (List.getElem?_eq_some_iff.1 hi).1
  have hcap : 0 < L.cap := Nat.lt_of_lt_of_le (Nat.lt_of_le_of_lt (Nat.zero_le _) hil) h.len
  obtain ⟨c, T, h1, h2, h3⟩ := h.mem hcap
  have hcs := h.sz cs (List.mem_of_getElem? hi)
  refine ⟨(List.range cs.length).map (fun j => c.getD (L.off + i * L.es + j) undef), VReps.of_get (by simp) (fun j x u hx hu => ?_), fun j u hu => ?_⟩
  · obtain ⟨u', hu', hv⟩ := h3 i j cs x hi hx
    have hj : j < cs.length := (List.getElem?_eq_some_iff.1 hx).1
    simp [hj, hu'] at hu
    subst hu
    have : x.al r i j = x := by
      have hx' : x.leaf = true := List.all_eq_true.1 hnw x (List.mem_of_getElem? hx)
      cases x <;> simp_all [V.al, V.leaf]
    rw [this] at hv
    exact hv
  · have hj : j < cs.length := by
      have := (List.getElem?_eq_some_iff.1 hu).1
      simpa using this
    simp [hj] at hu
    subst hu
    obtain ⟨u', hu', _⟩ := h3 i j cs cs[j] hi (by simp)
    simp [World.cell?, h1, hu']

theorem pcells_get {els : List PV} {i : Nat} {x : PV} (h : els[i]? = some x) : (pcells els)[i]? = some (x.cells.map .p) := by simp [pcells, h]

theorem getD_get {α : Type} {l : List α} {i : Nat} (d : α) (h : i < l.length) : l[i]? = some (l.getD i d) := by simp [List.getD, h]

theorem leaf_map_p {l : List PV} (h : l.all PV.leaf = true) : (l.map V.p).all V.leaf = true := by
  simp only [List.all_eq_true, List.mem_map] at h ⊢
  rintro x ⟨y, hy, rfl⟩
  exact h y hy

/-- An element of an array of persistent data. -/
theorem ArrRep.cells_p {r : Nat} {L : Loc} {els : List PV} (h : ArrRep w ok ρ r L (pcells els)) {i : Nat} {x : PV} (hi : els[i]? = some x) :
    ∃ us, PReps w ok x.cells us ∧ us.length = L.es ∧ ∀ (j : Nat) u, us[j]? = some u → w.cell? ⟨L.blk, L.off + i * L.es + j, none⟩ = some u := by
  have hil : i < els.length := (List.getElem?_eq_some_iff.1 hi).1
  have hcap : 0 < L.cap := Nat.lt_of_lt_of_le (Nat.lt_of_le_of_lt (Nat.zero_le _) hil) (by have := h.len; simpa [pcells] using this)
  obtain ⟨c, T, h1, h2, h3⟩ := h.mem hcap
  have hcs := h.sz _ (List.mem_of_getElem? (pcells_get hi))
  simp at hcs
  have key : ∀ (j : Nat) y, x.cells[j]? = some y → ∃ u, c[L.off + i * L.es + j]? = some u ∧ PRep w ok y u := by
    intro j y hy
    obtain ⟨u, hu, hv⟩ := h3 i j _ (.p y) (pcells_get hi) (by simp [hy])
    exact ⟨u, hu, hv.inv_p⟩
  refine ⟨(List.range x.cells.length).map (fun j => c.getD (L.off + i * L.es + j) undef), PReps.of_get (by simp) (fun j y u hy hu => ?_), by simpa using hcs, fun j u hu => ?_⟩
  · obtain ⟨u', hu', hv⟩ := key j y hy
    have hj : j < x.cells.length := (List.getElem?_eq_some_iff.1 hy).1
    simp [hj, hu'] at hu
    subst hu
    exact hv
  · have hj : j < x.cells.length := by
      have := (List.getElem?_eq_some_iff.1 hu).1
      simpa using this
    simp [hj] at hu
    subst hu
    obtain ⟨u', hu', _⟩ := key j x.cells[j] (by simp)
    simp [World.cell?, h1, hu']

theorem allP_rep : ∀ {l : List V} {xs : List PV} {us : List Value}, allP l = some xs → VReps w ok ρ l us → PReps w ok xs us
  | [], xs, us, h, hv => by simp [allP] at h; subst h; cases hv; exact .nil
  | .p x :: l, xs, us, h, hv => by
    simp only [allP] at h
    cases hl : allP l <;> simp [hl] at h
    subst h
    cases hv with
    | cons h1 hs => exact .cons h1.inv_p (allP_rep hl hs)
  | .nils :: _, _, _, h, _ | .agg _ :: _, _, _, h, _ | .tup _ :: _, _, _, h, _ | .ptr .. :: _, _, _, h, _ | .pp _ :: _, _, _, h, _ | .os .. :: _, _, _, h, _ | .own _ :: _, _, _, h, _ | .fn .. :: _, _, _, h, _ | .mp _ :: _, _, _, h, _ | .junk :: _, _, _, h, _ => by simp [allP] at h

theorem mkAgg_rep {l : List V} {us : List Value} (hv : VReps w ok ρ l us) : VRep w ok ρ (mkAgg l) (.agg us.toArray) := by
  unfold mkAgg
  split
  · rename_i xs h
    exact .p (.ag _ _ (allP_rep h hv))
  · exact .agg hv

/-- A run over persistent cells: what a pointer into them leads to. -/
theorem snd_load (t : TypeId) {ag : Bool} {sz alt : Nat} (ha : isAggT P t = some ag) (hz : sizeOfT P t = some sz) (hone : ag = false → sz = 1) {vals : List V} {us : List Value} {c : Prop} {v : V} {R : List Nat} {Δ : Sg} (hs : semLoad alt ag sz vals sg = some (c, v, R, Δ)) (hc : c)
    (hv : VReps w (okOf w Fr ρ) ρ vals us) (hsg : SgRel w Fr ρ sg) :
    ∃ x, us = [x] ∧ Res Fr ρ w sg dst new v Δ ((do Pure.pure (Next.value (← Instr.loadAt t x)) : Sem Next).run P w) := by
  have main : ∀ (b o : Nat) (cells : List PV) (ws : List Value), PReps w (okOf w Fr ρ) cells ws → (∀ (j : Nat) u, ws[j]? = some u → w.cell? ⟨b, o + j, none⟩ = some u) →
      (ag = true → sz ≤ cells.length → Res Fr ρ w sg dst new (.p (.ag (cells.take sz))) [] ((do Pure.pure (Next.value (← Instr.loadAt t (.pointer (some ⟨b, o, none⟩)))) : Sem Next).run P w)) ∧
      (ag = false → 0 < cells.length → Res Fr ρ w sg dst new (.p (leafAt cells 0)) [] ((do Pure.pure (Next.value (← Instr.loadAt t (.pointer (some ⟨b, o, none⟩)))) : Sem Next).run P w)) := by
    intro b o cells ws hws hcell
    refine ⟨fun hag hle => ?_, fun hag hlt => ?_⟩
    · subst hag
      have hl : (ws.take sz).length = sz := by simp [hws.length]; omega
      have hr := run_load_agg (P := P) (w := w) (t := t) (b := b) (o := o) (us := ws.take sz) ha (by rw [hl]; exact hz) (fun j u hu => by
        rw [List.getElem?_take] at hu
        split at hu
        · exact hcell j u hu
        · simp at hu)
      exact Res.pure hsg (u := .agg (ws.take sz).toArray) (by simp [Instr.loadAt, Instr.sureAddr, hr]) (.p (.ag _ _ (hws.take sz)))
    · subst hag
      obtain ⟨u, hu, hp⟩ := hws.get (getD_get .nf hlt)
      have hr := run_load_one (P := P) (w := w) (t := t) (b := b) (o := o) (u := u) ha (by simpa using hcell 0 u hu)
      exact Res.pure hsg (u := u) (by simp [Instr.loadAt, Instr.sureAddr, hr]) (.p hp)
  unfold semLoad at hs
  split at hs
  · rename_i cells
    obtain ⟨x, rfl, h1⟩ := hv.inv1
    cases h1 with
    | pp hok hus hcell =>
      obtain ⟨m1, m2⟩ := main _ _ _ _ hus hcell
      split at hs
      · simp only [Option.some.injEq, Prod.mk.injEq] at hs; obtain ⟨rfl, rfl, rfl, rfl⟩ := hs
        exact ⟨_, rfl, m1 rfl hc⟩
      · simp only [Option.some.injEq, Prod.mk.injEq] at hs; obtain ⟨rfl, rfl, rfl, rfl⟩ := hs
        exact ⟨_, rfl, m2 rfl hc⟩
  · rename_i r i j
    obtain ⟨x, rfl, h1⟩ := hv.inv1
    cases h1 with
    | ptr hptr =>
      split at hs
      · rename_i es els hb
        obtain ⟨L, hbox⟩ := hsg.box r _ hb
        have harr : ArrRep w (okOf w Fr ρ) ρ r L (pcells els) := hbox.arr (by intro e h; cases h)
        cases hptr L hbox.loc
        refine ⟨_, rfl, ?_⟩
        have hesz : L.es = _ := hbox.esz (by intro e h; cases h)
        simp only [Box.es] at hesz
        have helt : i < els.length → (els.getD i .nf).cells.length = L.es := fun hi => by
          have := harr.sz _ (List.mem_of_getElem? (pcells_get (getD_get (.nf : PV) hi))); simpa using this
        have elem : i < els.length → ∃ ws, PReps w (okOf w Fr ρ) ((els.getD i .nf).cells.drop j) ws ∧ ∀ (k : Nat) u, ws[k]? = some u → w.cell? ⟨L.blk, L.off + i * L.es + j + k, none⟩ = some u := by
          intro hi
          obtain ⟨ws, hws, _, hcell⟩ := harr.cells_p (getD_get .nf hi)
          exact ⟨ws.drop j, hws.drop j, fun k u hu => by
            rw [List.getElem?_drop] at hu
            rw [Nat.add_assoc]; exact hcell _ u hu⟩
        split at hs
        · split at hs
          · simp only [Option.some.injEq, Prod.mk.injEq] at hs; obtain ⟨rfl, rfl, rfl, rfl⟩ := hs
            obtain ⟨rfl, hi, he, hl⟩ := hc
            have hl := (helt hi).trans (hesz.trans hl)
            obtain ⟨ws, hws, hcell⟩ := elem hi
            have := (main _ _ _ _ hws hcell).1 rfl (by rw [List.length_drop]; omega)
            rw [List.drop_zero, List.take_of_length_le (by omega), ← he] at this
            exact this
          · simp only [Option.some.injEq, Prod.mk.injEq] at hs; obtain ⟨rfl, rfl, rfl, rfl⟩ := hs
            obtain ⟨hi, hl⟩ := hc
            have hel := helt hi
            obtain ⟨ws, hws, hcell⟩ := elem hi
            exact (main _ _ _ _ hws hcell).1 rfl (by rw [List.length_drop]; omega)
        · simp only [Option.some.injEq, Prod.mk.injEq] at hs; obtain ⟨rfl, rfl, rfl, rfl⟩ := hs
          obtain ⟨hi, hl⟩ := hc
          have hel := helt hi
          obtain ⟨ws, hws, hcell⟩ := elem hi
          have := (main _ _ _ _ hws hcell).2 rfl (by rw [List.length_drop]; omega)
          simpa [leafAt, List.getD] using this
      · rename_i es els hb
        obtain ⟨L, hbox⟩ := hsg.box r _ hb
        have harr : ArrRep w (okOf w Fr ρ) ρ r L els := hbox.arr (by intro e h; cases h)
        cases hptr L hbox.loc
        refine ⟨_, rfl, ?_⟩
        split at hs
        · simp only [Option.some.injEq, Prod.mk.injEq] at hs; obtain ⟨rfl, rfl, rfl, rfl⟩ := hs
          obtain ⟨hi, hl, hlf⟩ := hc
          have hesz : L.es = _ := hbox.esz (by intro e h; cases h)
          simp only [Box.es] at hesz
          have hel := harr.sz _ (List.mem_of_getElem? (getD_get [] hi))
          obtain ⟨ws, hws, hcell⟩ := harr.cells (getD_get [] hi) hlf
          have hws' : VReps w (okOf w Fr ρ) ρ (((els.getD i []).drop j).take sz) ((ws.drop j).take sz) := by
            refine VReps.of_get (by simp [hws.length]) (fun k x u hx hu => ?_)
            rw [List.getElem?_take] at hx hu
            split at hx
            · rename_i hk
              simp only [hk, if_true] at hu
              rw [List.getElem?_drop] at hx hu
              obtain ⟨u', hu', hr⟩ := hws.get hx
              rw [hu'] at hu; cases hu; exact hr
            · simp at hx
          have hl2 : ((ws.drop j).take sz).length = sz := by simp only [List.length_take, List.length_drop, hws.length]; omega
          have hr := run_load_agg (P := P) (w := w) (t := t) (b := L.blk) (o := L.off + i * L.es + j) (us := (ws.drop j).take sz) ha (by rw [hl2]; exact hz) (fun k u hu => by
            rw [List.getElem?_take] at hu
            split at hu
            · rw [List.getElem?_drop] at hu; rw [Nat.add_assoc]; exact hcell _ u hu
            · simp at hu)
          refine Res.pure hsg (u := .agg ((ws.drop j).take sz).toArray) (by simp [Instr.loadAt, Instr.sureAddr, hr]) ?_
          exact mkAgg_rep hws'
        · split at hs
          · rename_i y hy
            simp only [Option.some.injEq, Prod.mk.injEq] at hs; obtain ⟨rfl, rfl, rfl, rfl⟩ := hs
            obtain ⟨hlf, hi⟩ := hc
            have hcap : 0 < L.cap := Nat.lt_of_lt_of_le (Nat.lt_of_le_of_lt (Nat.zero_le _) hi) harr.len
            obtain ⟨cc, T, q1, q2, q3⟩ := harr.mem hcap
            obtain ⟨u, hu, hr⟩ := q3 i j _ y (getD_get [] hi) hy
            have : y.al r i j = y := by cases y <;> simp_all [V.al, V.leaf]
            rw [this] at hr
            have hrun := run_load_one (P := P) (w := w) (t := t) (b := L.blk) (o := L.off + i * L.es + j) (u := u) ha (by simp [World.cell?, q1, hu])
            exact Res.pure hsg (u := u) (by simp [Instr.loadAt, Instr.sureAddr, hrun]) hr
          · simp at hs
      · simp at hs
  · simp at hs

theorem snd_nilck {vals : List V} {us : List Value} {c : Prop} {v : V} {R : List Nat} {Δ : Sg} (hs : semNilck vals sg = some (c, v, R, Δ)) (hv : VReps w (okOf w Fr ρ) ρ vals us) (hsg : SgRel w Fr ρ sg) :
    ∃ x, us = [x] ∧ ((∃ a, x = .pointer (some a)) ∨ ∃ f cs, x = .func (.func f) #[] cs) ∧ ∀ r, r = .ok (.value x) w → Res Fr ρ w sg dst new v Δ r := by
  unfold semNilck at hs
  split at hs
  · obtain ⟨x, rfl, h1⟩ := hv.inv1
    split at hs
    · rename_i b hb
      simp only [Option.some.injEq, Prod.mk.injEq] at hs; obtain ⟨rfl, rfl, rfl, rfl⟩ := hs
      obtain ⟨L, hbox⟩ := hsg.box _ _ hb
      cases h1 with
      | ptr h =>
        cases h L hbox.loc
        exact ⟨_, rfl, .inl ⟨_, rfl⟩, fun r hr => Res.pure hsg hr (.ptr h)⟩
    · simp at hs
  · obtain ⟨x, rfl, h1⟩ := hv.inv1
    simp only [Option.some.injEq, Prod.mk.injEq] at hs; obtain ⟨rfl, rfl, rfl, rfl⟩ := hs
    cases h1 with
    | pp a b c => exact ⟨_, rfl, .inl ⟨_, rfl⟩, fun r hr => Res.pure hsg hr (.pp a b c)⟩
  · obtain ⟨x, rfl, h1⟩ := hv.inv1
    simp only [Option.some.injEq, Prod.mk.injEq] at hs; obtain ⟨rfl, rfl, rfl, rfl⟩ := hs
    cases h1 with
    | fn h => exact ⟨_, rfl, .inr ⟨_, _, rfl⟩, fun r hr => Res.pure hsg hr (.fn h)⟩
  · simp at hs

theorem snd_fad (t : TypeId) {fs : Array Field} {f : Nat} {fd : Field} {n : Nat} (ht : P.underlying t = some (.struct fs)) (hf : fs[f]? = some fd) (hz : sizeOfT P fd.type = some (n + 1)) {vals : List V} {us : List Value} {c : Prop} {v : V} {R : List Nat} {Δ : Sg}
    (hs : semFad fd.offset vals sg = some (c, v, R, Δ)) (hv : VReps w (okOf w Fr ρ) ρ vals us) (hsg : SgRel w Fr ρ sg) :
    ∃ x, us = [x] ∧ Res Fr ρ w sg dst new v Δ ((do Pure.pure (Next.value (← Instr.fieldAt t x f)) : Sem Next).run P w) := by
  have hrun : ∀ b o, (Instr.fieldAt t (.pointer (some ⟨b, o, none⟩)) f).run P w = .ok (.pointer (some ⟨b, o + fd.offset, none⟩)) w := by
    intro b o
    simp [Instr.fieldAt, run_underlying ht, hf, Instr.sureAddr, fieldPlace, run_sizeOf hz, Addr.add_lit]
  unfold semFad at hs
  split at hs
  · obtain ⟨x, rfl, h1⟩ := hv.inv1
    split at hs
    · rename_i b hb
      simp only [Option.some.injEq, Prod.mk.injEq] at hs; obtain ⟨rfl, rfl, rfl, rfl⟩ := hs
      obtain ⟨L, hbox⟩ := hsg.box _ _ hb
      cases h1 with
      | ptr h =>
        cases h L hbox.loc
        refine ⟨_, rfl, Res.pure hsg (u := _) (by rw [Sem.run_bind, hrun]; rfl) (.ptr (fun L' hL' => ?_))⟩
        rw [hbox.loc] at hL'; cases hL'; simp [Nat.add_assoc]
    · simp at hs
  · obtain ⟨x, rfl, h1⟩ := hv.inv1
    simp only [Option.some.injEq, Prod.mk.injEq] at hs; obtain ⟨rfl, rfl, rfl, rfl⟩ := hs
    cases h1 with
    | pp a b c =>
      refine ⟨_, rfl, Res.pure hsg (u := _) (by rw [Sem.run_bind, hrun]; rfl) (.pp a (b.drop _) (fun j u hu => ?_))⟩
      rw [List.getElem?_drop] at hu
      rw [Nat.add_assoc]; exact c _ _ hu
  · simp at hs

theorem flatMap_drop {es : Nat} : ∀ {l : List PV}, (∀ x ∈ l, x.cells.length = es) → ∀ n : Nat, (l.drop n).flatMap PV.cells = (l.flatMap PV.cells).drop (n * es)
  | [], _, n => by simp
  | x :: l, h, 0 => by simp
  | x :: l, h, n + 1 => by
    have h1 := h x (by simp)
    rw [List.drop_succ_cons, flatMap_drop (fun y hy => h y (by simp [hy])) n, List.flatMap_cons, List.drop_append]
    rw [h1, List.drop_of_length_le (l := x.cells) (by rw [h1, Nat.add_mul]; omega)]
    simp only [List.nil_append]
    congr 1
    rw [Nat.add_mul]; omega

theorem flatMap_take {es : Nat} : ∀ {l : List PV}, (∀ x ∈ l, x.cells.length = es) → ∀ n : Nat, (l.take n).flatMap PV.cells = (l.flatMap PV.cells).take (n * es)
  | [], _, n => by simp
  | x :: l, h, 0 => by simp
  | x :: l, h, n + 1 => by
    have h1 := h x (by simp)
    rw [List.take_succ_cons, List.flatMap_cons, flatMap_take (fun y hy => h y (by simp [hy])) n, List.flatMap_cons, List.take_append]
    rw [h1, List.take_of_length_le (l := x.cells) (by rw [h1, Nat.add_mul]; omega)]
    congr 2
    rw [Nat.add_mul]; omega

theorem flatMap_get {es : Nat} : ∀ {l : List PV}, (∀ x ∈ l, x.cells.length = es) → ∀ {i : Nat} {x : PV}, l[i]? = some x → ∀ j, j < es → (l.flatMap PV.cells)[i * es + j]? = x.cells[j]?
  | [], _, i, x, hx, _, _ => by simp at hx
  | y :: l, h, 0, x, hx, j, hj => by
    simp at hx; subst hx
    have h1 := h y (by simp)
    rw [List.flatMap_cons, Nat.zero_mul, Nat.zero_add, List.getElem?_append_left (by omega)]
  | y :: l, h, i + 1, x, hx, j, hj => by
    simp at hx
    have h1 := h y (by simp)
    rw [List.flatMap_cons, List.getElem?_append_right (by rw [h1, Nat.add_mul]; omega), h1]
    rw [← flatMap_get (fun z hz => h z (by simp [hz])) hx j hj]
    congr 1
    rw [Nat.add_mul]; omega

/-- A slice's value, and where its elements lie. -/
structure SliceRep (w : World) (ok : Nat → Prop) (l : List PV) (a : Option Addr) (cap es : Nat) : Prop where
  cap : l.length ≤ cap
  sz : ∀ x ∈ l, x.cells.length = es
  mem : l ≠ [] → ∃ b o us, a = some ⟨b, o, none⟩ ∧ ok b ∧ PReps w ok (l.flatMap PV.cells) us ∧ ∀ (j : Nat) u, us[j]? = some u → w.cell? ⟨b, o + j, none⟩ = some u

theorem PRep.inv_sl {l : List PV} {u : Value} (h : PRep w ok (.sl l) u) : ∃ a cap es, u = .slice a l.length cap ∧ SliceRep w ok l a cap es := by
  cases h with
  | sl0 a cap => exact ⟨a, cap, 0, rfl, by simp, by simp, by simp⟩
  | sl _ b o cap es us h1 h2 h3 h4 h5 h6 => exact ⟨_, cap, es, rfl, h2, h4, fun _ => ⟨b, o, us, rfl, h3, h5, h6⟩⟩

theorem SliceRep.rep {l : List PV} {a : Option Addr} {cap es n : Nat} (h : SliceRep w ok l a cap es) (hn : n = l.length) : PRep w ok (.sl l) (.slice a n cap) := by
  subst hn
  rcases Classical.em (l = []) with rfl | hne
  · exact .sl0 a cap
  · obtain ⟨b, o, us, rfl, h1, h2, h3⟩ := h.mem hne
    exact .sl l b o cap es us hne h.cap h1 h.sz h2 h3

/-- A part of a slice. -/
theorem SliceRep.part {l : List PV} {a : Option Addr} {cap es : Nat} (h : SliceRep w ok l a cap es) (lo hi : Nat) (h1 : lo ≤ hi) (h2 : hi ≤ l.length) :
    SliceRep w ok ((l.drop lo).take (hi - lo)) (if cap = lo then a else a.map (·.add (lo * es))) (cap - lo) es := by
  refine ⟨?_, fun x hx => h.sz x (List.mem_of_mem_drop (List.mem_of_mem_take hx)), fun hne => ?_⟩
  · have := h.cap
    simp only [List.length_take, List.length_drop]; omega
  · have hlo : lo < l.length := by
      rcases Nat.lt_or_ge lo l.length with h' | h'
      · exact h'
      · exact absurd (by simp [List.drop_of_length_le h']) hne
    have hcap := h.cap
    obtain ⟨b, o, us, rfl, g1, g2, g3⟩ := h.mem (by intro e; subst e; simp at hlo)
    have hc : ¬ cap = lo := by omega
    refine ⟨b, o + lo * es, (us.drop (lo * es)).take ((hi - lo) * es), by simp [hc, Addr.add_lit], g1, ?_, fun j u hu => ?_⟩
    · rw [flatMap_take (fun x hx => h.sz x (List.mem_of_mem_drop hx)), flatMap_drop h.sz]
      exact (g2.drop _).take _
    · rw [List.getElem?_take] at hu
      split at hu
      · rw [List.getElem?_drop] at hu; rw [Nat.add_assoc]; exact g3 _ _ hu
      · simp at hu

theorem run_slice_lh' {t e : TypeId} {es : Nat} (ht : P.underlying t = some (.slice e)) (hz : sizeOfT P e = some es) (a : Option Addr) (len cap lo hi : Nat) (k1 k2 : IntKind) (h1 : lo ≤ hi) (h2 : hi ≤ cap) (w : World) :
    (Instr.sliceAt t (.slice a len cap) (some (.int k1 lo)) (some (.int k2 hi)) none).run P w = .ok (.slice (if cap = lo then a else a.map (·.add (lo * es))) (hi - lo) (cap - lo)) w := by
  have e1 : (0 : Int) ≤ hi ∧ (hi : Int) ≤ cap := by omega
  have e2 : (0 : Int) ≤ lo ∧ (lo : Int) ≤ hi := by omega
  simp [Instr.sliceAt, run_underlying ht, Instr.slice, Instr.sliceBounds, Instr.sliceBound, asIntOf, e1, e2, run_sizeOf hz, h1, h2]

theorem run_slice_h' {t e : TypeId} {es : Nat} (ht : P.underlying t = some (.slice e)) (hz : sizeOfT P e = some es) (a : Option Addr) (len cap hi : Nat) (k2 : IntKind) (h2 : hi ≤ cap) (w : World) :
    (Instr.sliceAt t (.slice a len cap) none (some (.int k2 hi)) none).run P w = .ok (.slice (if cap = 0 then a else a.map (·.add 0)) hi cap) w := by
  have e1 : (0 : Int) ≤ hi ∧ (hi : Int) ≤ cap := by omega
  simp [Instr.sliceAt, run_underlying ht, Instr.slice, Instr.sliceBounds, Instr.sliceBound, asIntOf, e1, run_sizeOf hz, h2]

theorem run_slice_l' {t e : TypeId} {es : Nat} (ht : P.underlying t = some (.slice e)) (hz : sizeOfT P e = some es) (a : Option Addr) (len cap lo : Nat) (k1 : IntKind) (h1 : lo ≤ len) (w : World) :
    (Instr.sliceAt t (.slice a len cap) (some (.int k1 lo)) none none).run P w = .ok (.slice (if cap = lo then a else a.map (·.add (lo * es))) (len - lo) (cap - lo)) w := by
  have e2 : (0 : Int) ≤ lo ∧ (lo : Int) ≤ len := by omega
  simp [Instr.sliceAt, run_underlying ht, Instr.slice, Instr.sliceBounds, Instr.sliceBound, asIntOf, e2, run_sizeOf hz, h1]

theorem Addr.add_zero' (a : Addr) : a.add 0 = a := by simp [Addr.add]

theorem map_add_zero (a : Option Addr) : a.map (·.add 0) = a := by cases a <;> simp [Addr.add_zero']

/-- What slicing at these bounds gives. -/
theorem snd_slcAt {es : Nat} {x : V} {u : Value} {a b : Int} {c : Prop} {v : V} {R : List Nat} {Δ : Sg} (hs : slcAt es x a b sg = some (c, v, R, Δ)) (hc : c) (hv : VRep w (okOf w Fr ρ) ρ x u) (hsg : SgRel w Fr ρ sg) :
    ∃ p len cap, u = .slice p len cap ∧ 0 ≤ a ∧ a ≤ b ∧ b.toNat ≤ cap ∧ Δ = [] ∧ VRep w (okOf w Fr ρ) ρ v (.slice (if cap = a.toNat then p else p.map (·.add (a.toNat * es))) (b.toNat - a.toNat) (cap - a.toNat)) := by
  unfold slcAt at hs
  split at hs
  · rename_i l
    obtain ⟨p, cap, es', rfl, hr⟩ := hv.inv_p.inv_sl
    have hcap := hr.cap
    split at hs
    · simp only [Option.some.injEq, Prod.mk.injEq] at hs; obtain ⟨rfl, rfl, rfl, rfl⟩ := hs
      obtain ⟨h1, h2⟩ := hc
      have hr' := hr.part 0 b.toNat (Nat.zero_le _) (by omega)
      simp only [Nat.zero_mul, map_add_zero, ite_self, List.drop_zero, Nat.sub_zero] at hr'
      refine ⟨p, _, cap, rfl, by simp, h1, by omega, rfl, ?_⟩
      simp only [Int.ofNat_eq_natCast, Int.natCast_zero, Int.toNat_zero, Nat.zero_mul, map_add_zero, ite_self, Nat.sub_zero]
      exact .p (hr'.rep (by simp; omega))
    · simp only [Option.some.injEq, Prod.mk.injEq] at hs; obtain ⟨rfl, rfl, rfl, rfl⟩ := hs
      obtain ⟨h0, h1, h2, h3⟩ := hc
      refine ⟨p, _, cap, rfl, h0, h1, by omega, rfl, ?_⟩
      have hr' := hr.part a.toNat b.toNat (by omega) (by omega)
      rcases Classical.em (l = []) with rfl | hne
      · simp at h2
        have : a.toNat = 0 := by omega
        simp only [this, Nat.zero_mul, map_add_zero, ite_self, Nat.sub_zero, List.drop_nil, List.take_nil]
        have hb : b.toNat = 0 := by omega
        rw [hb]; exact .p (.sl0 _ _)
      · have hes : es' = es := by
          obtain ⟨y, hy⟩ := List.exists_mem_of_ne_nil l hne
          exact (hr.sz y hy).symm.trans (h3 y hy)
        subst hes
        exact .p (hr'.rep (by simp; omega))
  · rename_i r i n
    cases hv with
    | os h =>
      split at hs
      · rename_i es2 els hb
        obtain ⟨L, hbox⟩ := hsg.box _ _ hb
        obtain ⟨g1, rfl, g3⟩ := h L hbox.loc
        split at hs
        · simp only [Option.some.injEq, Prod.mk.injEq] at hs; obtain ⟨rfl, rfl, rfl, rfl⟩ := hs
          obtain ⟨h1, h2⟩ := hc
          refine ⟨_, _, _, rfl, by simp, h1, by omega, rfl, ?_⟩
          simp only [Int.ofNat_eq_natCast, Int.natCast_zero, Int.toNat_zero, Nat.zero_mul, map_add_zero, ite_self, Nat.sub_zero]
          refine .os (fun L' hL' => ?_)
          rw [hbox.loc] at hL'; cases hL'
          exact ⟨by omega, rfl, g3⟩
        · simp only [Option.some.injEq, Prod.mk.injEq] at hs; obtain ⟨rfl, rfl, rfl, rfl⟩ := hs
          obtain ⟨h0, h1, h2, h3⟩ := hc
          refine ⟨_, _, _, rfl, h0, h1, by omega, rfl, ?_⟩
          refine .os (fun L' hL' => ?_)
          rw [hbox.loc] at hL'; cases hL'
          refine ⟨by omega, by omega, fun hlt => ?_⟩
          have hes : es = L.es := h3.symm.trans (hbox.esz (by intro e h; cases h)).symm
          subst hes
          have hi : i < L.cap := by omega
          have hne : ¬ (L.cap - i = a.toNat) := by omega
          rw [if_neg hne, g3 hi]
          simp [Addr.add_lit, Nat.add_mul, Nat.add_assoc]
      · simp at hs
  · simp only [Option.some.injEq, Prod.mk.injEq] at hs; obtain ⟨rfl, rfl, rfl, rfl⟩ := hs
    obtain ⟨rfl, rfl⟩ := hc
    cases hv with
    | nils p => exact ⟨p, 0, 0, rfl, by simp, by simp, by simp, rfl, by simpa using .nils p⟩
  · simp at hs

theorem snd_slcFrom {es : Nat} {x : V} {u : Value} {a : Int} {c : Prop} {v : V} {R : List Nat} {Δ : Sg} (hs : slcFrom es x a sg = some (c, v, R, Δ)) (hc : c) (hv : VRep w (okOf w Fr ρ) ρ x u) (hsg : SgRel w Fr ρ sg) :
    ∃ p len cap, u = .slice p len cap ∧ 0 ≤ a ∧ a.toNat ≤ len ∧ Δ = [] ∧ VRep w (okOf w Fr ρ) ρ v (.slice (if cap = a.toNat then p else p.map (·.add (a.toNat * es))) (len - a.toNat) (cap - a.toNat)) := by
  unfold slcFrom at hs
  split at hs
  · rename_i l
    obtain ⟨p, cap, es', rfl, hr⟩ := hv.inv_p.inv_sl
    simp only [Option.some.injEq, Prod.mk.injEq] at hs; obtain ⟨rfl, rfl, rfl, rfl⟩ := hs
    obtain ⟨h0, h1, h3⟩ := hc
    refine ⟨p, _, cap, rfl, h0, by omega, rfl, ?_⟩
    have hr' := hr.part a.toNat l.length (by omega) (Nat.le_refl _)
    rw [List.take_of_length_le (by simp)] at hr'
    rcases Classical.em (l = []) with rfl | hne
    · simp at h1
      have : a.toNat = 0 := by omega
      simp only [this, Nat.zero_mul, map_add_zero, ite_self, Nat.sub_zero, List.drop_nil, List.length_nil]
      exact .p (.sl0 _ _)
    · have hes : es' = es := by
        obtain ⟨y, hy⟩ := List.exists_mem_of_ne_nil l hne
        exact (hr.sz y hy).symm.trans (h3 y hy)
      subst hes
      exact .p (hr'.rep (by simp))
  · rename_i r i n
    cases hv with
    | os h =>
      split at hs
      · rename_i es2 els hb
        obtain ⟨L, hbox⟩ := hsg.box _ _ hb
        obtain ⟨g1, rfl, g3⟩ := h L hbox.loc
        simp only [Option.some.injEq, Prod.mk.injEq] at hs; obtain ⟨rfl, rfl, rfl, rfl⟩ := hs
        obtain ⟨h0, h1, h3⟩ := hc
        refine ⟨_, _, _, rfl, h0, by omega, rfl, ?_⟩
        refine .os (fun L' hL' => ?_)
        rw [hbox.loc] at hL'; cases hL'
        refine ⟨by omega, by omega, fun hlt => ?_⟩
        have hes : es = L.es := h3.symm.trans (hbox.esz (by intro e h; cases h)).symm
        subst hes
        have hi : i < L.cap := by omega
        have hne : ¬ (L.cap - i = a.toNat) := by omega
        rw [if_neg hne, g3 hi]
        simp [Addr.add_lit, Nat.add_mul, Nat.add_assoc]
      · simp at hs
  · simp only [Option.some.injEq, Prod.mk.injEq] at hs; obtain ⟨rfl, rfl, rfl, rfl⟩ := hs
    subst hc
    cases hv with
    | nils p => exact ⟨p, 0, 0, rfl, by simp, by simp, rfl, by simpa using .nils p⟩
  · simp at hs
end
end Go.DW

/- Slices, indexes, comparisons of structs, aggregates. -/
namespace Go.DW
section
variable {P : Program} {Fr : Nat → Prop} {ρ : Rho} {w : World} {sg : Sg} {dst : Nat} {new : Bool} {ok : Nat → Prop}

theorem snd_slc (t e : TypeId) {es : Nat} (ht : P.underlying t = some (.slice e)) (hz : sizeOfT P e = some es) {lo hi : Option Operand} {vals : List V} {us : List Value} {c : Prop} {v : V} {R : List Nat} {Δ : Sg}
    (hs : semSlc es lo.isSome hi.isSome vals sg = some (c, v, R, Δ)) (hc : c) (hv : VReps w (okOf w Fr ρ) ρ vals us) (hsg : SgRel w Fr ρ sg)
    {x : Operand} {ev : Operand → Value} (hus : us = ([x] ++ lo.toList ++ hi.toList).map ev) :
    Res Fr ρ w sg dst new v Δ ((do Pure.pure (Next.value (← Instr.sliceAt t (ev x) (lo.map ev) (hi.map ev) none)) : Sem Next).run P w) := by
  unfold semSlc at hs
  split at hs
  · rename_i y bs
    split at hs
    · rename_i a b _ _
      cases lo with
      | none => simp at *
      | some lo =>
      cases hi with
      | none => simp at *
      | some hi =>
      simp at hus
      obtain ⟨u0, u1, u2, rfl, h0, h1, h2⟩ := hv.inv3
      simp at hus
      obtain ⟨rfl, rfl, rfl⟩ := hus
      obtain ⟨p, len, cap, hp, g0, g1, g2, rfl, hr⟩ := snd_slcAt hs hc h0 hsg
      have e1 := h1.inv_i
      have e2 := h2.inv_i
      have r1 := run_slice_lh' (P := P) ht hz p len cap a.toNat b.toNat .i64 .i64 (by omega) g2 w
      rw [Int.toNat_of_nonneg g0, Int.toNat_of_nonneg (by omega)] at r1
      simp only [Option.map_some, e1, e2, hp]
      exact Res.pure hsg (by rw [Sem.run_bind, r1]; rfl) hr
    · rename_i a _ _
      cases lo with
      | none => simp at *
      | some lo =>
      cases hi with
      | some hi => simp at *
      | none =>
      simp at hus
      obtain ⟨u0, u1, rfl, h0, h1⟩ := hv.inv2
      simp at hus
      obtain ⟨rfl, rfl⟩ := hus
      obtain ⟨p, len, cap, hp, g0, g1, rfl, hr⟩ := snd_slcFrom hs hc h0 hsg
      have e1 := h1.inv_i
      have r1 := run_slice_l' (P := P) ht hz p len cap a.toNat .i64 g1 w
      rw [Int.toNat_of_nonneg g0] at r1
      simp only [Option.map_some, Option.map_none, e1, hp]
      exact Res.pure hsg (by rw [Sem.run_bind, r1]; rfl) hr
    · rename_i b _ _
      cases lo with
      | some lo => simp at *
      | none =>
      cases hi with
      | none => simp at *
      | some hi =>
      simp at hus
      obtain ⟨u0, u1, rfl, h0, h1⟩ := hv.inv2
      simp at hus
      obtain ⟨rfl, rfl⟩ := hus
      obtain ⟨p, len, cap, hp, g0, g1, g2, rfl, hr⟩ := snd_slcAt hs hc h0 hsg
      have e1 := h1.inv_i
      have r1 := run_slice_h' (P := P) ht hz p len cap b.toNat .i64 g2 w
      rw [Int.toNat_of_nonneg (by omega)] at r1
      simp only [Option.map_some, Option.map_none, e1, hp]
      simp only [Int.toNat_zero, Nat.zero_mul, Nat.sub_zero] at hr
      exact Res.pure hsg (by rw [Sem.run_bind, r1]; rfl) hr
    · simp at hs
  · simp at hs

theorem snd_slc0 (t e : TypeId) {es : Nat} (ht : P.underlying t = some (.slice e)) (hz : sizeOfT P e = some es) {hi mx : Operand} {vals : List V} {us : List Value} {c : Prop} {v : V} {R : List Nat} {Δ : Sg}
    (hs : semSlc0 vals = some (c, v, R, Δ)) (hv : VReps w (okOf w Fr ρ) ρ vals us) (hsg : SgRel w Fr ρ sg)
    {x : Operand} {ev : Operand → Value} (hus : us = [ev x, ev hi, ev mx]) :
    Res Fr ρ w sg dst new v Δ ((do Pure.pure (Next.value (← Instr.sliceAt t (ev x) none (some (ev hi)) (some (ev mx)))) : Sem Next).run P w) := by
  unfold semSlc0 at hs
  split at hs
  · simp only [Option.some.injEq, Prod.mk.injEq] at hs; obtain ⟨rfl, rfl, rfl, rfl⟩ := hs
    obtain ⟨u0, u1, u2, rfl, h0, h1, h2⟩ := hv.inv3
    simp at hus
    obtain ⟨rfl, rfl, rfl⟩ := hus
    rw [h1.inv_i, h2.inv_i]
    obtain ⟨p, cap, es', hp, hr⟩ := h0.inv_p.inv_sl
    rw [hp]
    have e1 : (0 : Int) ≤ cap := by omega
    refine Res.pure hsg (u := .slice (if 0 = 0 then p else p.map (·.add (0 * es))) 0 0) ?_ (.nils _)
    simp [Instr.sliceAt, run_underlying ht, Instr.slice, Instr.sliceBounds, Instr.sliceBound, asIntOf, run_sizeOf hz]
  · simp at hs

theorem extract_mk (l : List UInt8) (a b : Nat) : (⟨l.toArray⟩ : ByteArray).extract a b = ⟨((l.drop a).take (b - a)).toArray⟩ := by
  apply ByteArray.ext
  simp [ByteArray.data_extract]

theorem size_mk (l : List UInt8) : (⟨l.toArray⟩ : ByteArray).size = l.length := rfl

theorem snd_sls (t : TypeId) (ht : P.underlying t = some .string) {lo hi : Option Operand} {vals : List V} {us : List Value} {c : Prop} {v : V} {R : List Nat} {Δ : Sg}
    (hs : semSls lo.isSome hi.isSome vals = some (c, v, R, Δ)) (hc : c) (hv : VReps w (okOf w Fr ρ) ρ vals us) (hsg : SgRel w Fr ρ sg)
    {x : Operand} {ev : Operand → Value} (hus : us = ([x] ++ lo.toList ++ hi.toList).map ev) :
    Res Fr ρ w sg dst new v Δ ((do Pure.pure (Next.value (← Instr.sliceAt t (ev x) (lo.map ev) (hi.map ev) none)) : Sem Next).run P w) := by
  unfold semSls at hs
  split at hs
  · rename_i l bs
    split at hs
    · rename_i a b _ _
      cases lo with
      | none => simp at *
      | some lo =>
      cases hi with
      | none => simp at *
      | some hi =>
      simp at hus
      obtain ⟨u0, u1, u2, rfl, h0, h1, h2⟩ := hv.inv3
      simp at hus
      obtain ⟨rfl, rfl, rfl⟩ := hus
      simp only [Option.some.injEq, Prod.mk.injEq] at hs; obtain ⟨rfl, rfl, rfl, rfl⟩ := hs
      obtain ⟨g0, g1, g2⟩ := hc
      have e1 := h1.inv_i
      have e2 := h2.inv_i
      have e0 := h0.inv_s
      simp only [Option.map_some, e1, e2, e0]
      refine Res.pure hsg (u := .string ⟨((l.drop a.toNat).take (b.toNat - a.toNat)).toArray⟩) ?_ (.p (.s _))
      have c1 : (0 : Int) ≤ b ∧ b ≤ l.length := by omega
      have c2 : ¬ (max b 0 < a) := by omega
      simp [g0, Instr.sliceAt, run_underlying ht, Instr.slice, Instr.sliceBounds, Instr.sliceBound, asIntOf, size_mk, extract_mk, c1, c2]
    · rename_i a _ _
      cases lo with
      | none => simp at *
      | some lo =>
      cases hi with
      | some hi => simp at *
      | none =>
      simp at hus
      obtain ⟨u0, u1, rfl, h0, h1⟩ := hv.inv2
      simp at hus
      obtain ⟨rfl, rfl⟩ := hus
      simp only [Option.some.injEq, Prod.mk.injEq] at hs; obtain ⟨rfl, rfl, rfl, rfl⟩ := hs
      obtain ⟨g0, g1⟩ := hc
      have e1 := h1.inv_i
      have e0 := h0.inv_s
      simp only [Option.map_some, Option.map_none, e1, e0]
      refine Res.pure hsg (u := .string ⟨(l.drop a.toNat).toArray⟩) ?_ (.p (.s _))
      simp [Instr.sliceAt, run_underlying ht, Instr.slice, Instr.sliceBounds, Instr.sliceBound, asIntOf, size_mk, extract_mk, g0, g1]
      rw [List.take_of_length_le (by simp)]
    · rename_i b _ _
      cases lo with
      | some lo => simp at *
      | none =>
      cases hi with
      | none => simp at *
      | some hi =>
      simp at hus
      obtain ⟨u0, u1, rfl, h0, h1⟩ := hv.inv2
      simp at hus
      obtain ⟨rfl, rfl⟩ := hus
      simp only [Option.some.injEq, Prod.mk.injEq] at hs; obtain ⟨rfl, rfl, rfl, rfl⟩ := hs
      obtain ⟨g0, g1⟩ := hc
      have e1 := h1.inv_i
      have e0 := h0.inv_s
      simp only [Option.map_some, Option.map_none, e1, e0]
      refine Res.pure hsg (u := .string ⟨(l.take b.toNat).toArray⟩) ?_ (.p (.s _))
      simp [Instr.sliceAt, run_underlying ht, Instr.slice, Instr.sliceBounds, Instr.sliceBound, asIntOf, size_mk, extract_mk, g0, g1]
    · simp at hs
  · simp at hs

theorem SliceRep.elem {l : List PV} {a : Option Addr} {cap es i : Nat} (h : SliceRep w ok l a cap es) (hi : i < l.length) :
    ∃ b o us, a = some ⟨b, o, none⟩ ∧ ok b ∧ PReps w ok (l.getD i .nf).cells us ∧ ∀ (j : Nat) u, us[j]? = some u → w.cell? ⟨b, o + i * es + j, none⟩ = some u := by
  obtain ⟨b, o, us, rfl, g1, g2, g3⟩ := h.mem (by intro e; subst e; simp at hi)
  have hx := getD_get (.nf : PV) hi
  have hsz := h.sz _ (List.mem_of_getElem? hx)
  have e1 : (l.getD i .nf).cells = ((l.flatMap PV.cells).drop (i * es)).take es := by
    apply List.ext_getElem?
    intro j
    rcases Nat.lt_or_ge j es with hj | hj
    · rw [List.getElem?_take, if_pos hj, List.getElem?_drop, flatMap_get h.sz hx j hj]
    · rw [List.getElem?_eq_none (by omega), List.getElem?_eq_none (by simp; omega)]
  refine ⟨b, o, (us.drop (i * es)).take es, rfl, g1, ?_, fun j u hu => ?_⟩
  · rw [e1]; exact (g2.drop _).take _
  · rw [List.getElem?_take] at hu
    split at hu
    · rw [List.getElem?_drop] at hu; rw [Nat.add_assoc]; exact g3 _ _ hu
    · simp at hu

theorem run_index_slice {t e : TypeId} {es : Nat} (ht : P.underlying t = some (.slice e)) (hz : sizeOfT P e = some es) (b o len cap : Nat) (k : IntKind) (i : Int) (h0 : 0 ≤ i) (h1 : i < len) (w : World) :
    (Instr.indexAt t (.slice (some ⟨b, o, none⟩) len cap) (.int k i)).run P w = .ok (.pointer (some ⟨b, o + i.toNat * es, none⟩)) w := by
  simp [Instr.indexAt, asIntOf, run_underlying ht, h0, h1, run_sizeOf hz, Addr.add_lit]

theorem run_index_array {t e : TypeId} {es n : Nat} (ht : P.underlying t = some (.array n e)) (hz : sizeOfT P e = some es) (b o : Nat) (k : IntKind) (i : Int) (h0 : 0 ≤ i) (h1 : i < n) (w : World) :
    (Instr.indexAt t (.pointer (some ⟨b, o, none⟩)) (.int k i)).run P w = .ok (.pointer (some ⟨b, o + i.toNat * es, none⟩)) w := by
  simp [Instr.indexAt, asIntOf, run_underlying ht, h0, h1, run_sizeOf hz, Addr.add_lit, Instr.sureAddr]

theorem snd_iad (t e : TypeId) {es : Nat} (ht : P.underlying t = some (.slice e)) (hz : sizeOfT P e = some es) {vals : List V} {us : List Value} {c : Prop} {v : V} {R : List Nat} {Δ : Sg}
    (hs : semIad es vals sg = some (c, v, R, Δ)) (hc : c) (hv : VReps w (okOf w Fr ρ) ρ vals us) (hsg : SgRel w Fr ρ sg) :
    ∃ x y, us = [x, y] ∧ Res Fr ρ w sg dst new v Δ ((do Pure.pure (Next.value (← Instr.indexAt t x y)) : Sem Next).run P w) := by
  unfold semIad at hs
  split at hs
  · rename_i y k a
    obtain ⟨x, z, rfl, h1, h2⟩ := hv.inv2
    refine ⟨x, z, rfl, ?_⟩
    rw [h2.inv_i]
    split at hs
    · rename_i l
      simp only [Option.some.injEq, Prod.mk.injEq] at hs; obtain ⟨rfl, rfl, rfl, rfl⟩ := hs
      obtain ⟨g0, g1, g2⟩ := hc
      obtain ⟨p, cap, es', rfl, hr⟩ := h1.inv_p.inv_sl
      have hi : a.toNat < l.length := by omega
      obtain ⟨b, o, ws, rfl, q1, q2, q3⟩ := hr.elem hi
      have hes : es' = es := (hr.sz _ (List.mem_of_getElem? (getD_get (.nf : PV) hi))).symm.trans g2
      subst hes
      exact Res.pure hsg (by rw [Sem.run_bind, run_index_slice ht hz _ _ _ _ _ _ g0 g1]; rfl) (.pp q1 q2 q3)
    · rename_i r i n
      cases h1 with
      | os h =>
        split at hs
        · rename_i es2 els hb
          simp only [Option.some.injEq, Prod.mk.injEq] at hs; obtain ⟨rfl, rfl, rfl, rfl⟩ := hs
          obtain ⟨g0, g1, g3⟩ := hc
          obtain ⟨L, hbox⟩ := hsg.box _ _ hb
          obtain ⟨q1, rfl, q3⟩ := h L hbox.loc
          have hil : i < L.cap := by omega
          cases q3 hil
          have hes : L.es = es := (hbox.esz (by intro e h; cases h)).trans g3
          refine Res.pure hsg (by rw [Sem.run_bind, run_index_slice ht hz _ _ _ _ _ _ g0 g1]; rfl) (.ptr (fun L' hL' => ?_))
          rw [hbox.loc] at hL'; cases hL'
          rw [hes]; simp [Nat.add_mul, Nat.add_assoc]
        · rename_i es2 els hb
          simp only [Option.some.injEq, Prod.mk.injEq] at hs; obtain ⟨rfl, rfl, rfl, rfl⟩ := hs
          obtain ⟨g0, g1, g3⟩ := hc
          obtain ⟨L, hbox⟩ := hsg.box _ _ hb
          obtain ⟨q1, rfl, q3⟩ := h L hbox.loc
          have hil : i < L.cap := by omega
          cases q3 hil
          have hes : L.es = es := (hbox.esz (by intro e h; cases h)).trans g3
          refine Res.pure hsg (by rw [Sem.run_bind, run_index_slice ht hz _ _ _ _ _ _ g0 g1]; rfl) (.ptr (fun L' hL' => ?_))
          rw [hbox.loc] at hL'; cases hL'
          rw [hes]; simp [Nat.add_mul, Nat.add_assoc]
        · simp at hs
    · simp at hs
  · simp at hs

theorem snd_iaa (t e : TypeId) {es n : Nat} (ht : P.underlying t = some (.array n e)) (hz : sizeOfT P e = some es) {vals : List V} {us : List Value} {c : Prop} {v : V} {R : List Nat} {Δ : Sg}
    (hs : semIaa es n vals sg = some (c, v, R, Δ)) (hc : c) (hv : VReps w (okOf w Fr ρ) ρ vals us) (hsg : SgRel w Fr ρ sg) :
    ∃ x y, us = [x, y] ∧ Res Fr ρ w sg dst new v Δ ((do Pure.pure (Next.value (← Instr.indexAt t x y)) : Sem Next).run P w) := by
  unfold semIaa at hs
  split at hs
  · rename_i r i j k a
    obtain ⟨x, z, rfl, h1, h2⟩ := hv.inv2
    refine ⟨x, z, rfl, ?_⟩
    rw [h2.inv_i]
    split at hs
    · rename_i b hb
      simp only [Option.some.injEq, Prod.mk.injEq] at hs; obtain ⟨rfl, rfl, rfl, rfl⟩ := hs
      obtain ⟨L, hbox⟩ := hsg.box _ _ hb
      cases h1 with
      | ptr h =>
        cases h L hbox.loc
        refine Res.pure hsg (by rw [Sem.run_bind, run_index_array ht hz _ _ _ _ hc.1 hc.2]; rfl) (.ptr (fun L' hL' => ?_))
        rw [hbox.loc] at hL'; cases hL'
        simp [Nat.add_assoc]
    · simp at hs
  · obtain ⟨x, z, rfl, h1, h2⟩ := hv.inv2
    refine ⟨x, z, rfl, ?_⟩
    rw [h2.inv_i]
    simp only [Option.some.injEq, Prod.mk.injEq] at hs; obtain ⟨rfl, rfl, rfl, rfl⟩ := hs
    cases h1 with
    | pp q1 q2 q3 =>
      refine Res.pure hsg (by rw [Sem.run_bind, run_index_array ht hz _ _ _ _ hc.1 hc.2]; rfl) (.pp q1 (q2.drop _) (fun j u hu => ?_))
      rw [List.getElem?_drop] at hu; rw [Nat.add_assoc]; exact q3 _ _ hu
  · simp at hs

theorem snd_idx (t : TypeId) (ht : P.underlying t = some .string) {vals : List V} {us : List Value} {c : Prop} {v : V} {R : List Nat} {Δ : Sg}
    (hs : semIdx vals = some (c, v, R, Δ)) (hc : c) (hv : VReps w (okOf w Fr ρ) ρ vals us) (hsg : SgRel w Fr ρ sg) :
    ∃ x y, us = [x, y] ∧ Res Fr ρ w sg dst new v Δ ((do Pure.pure (Next.value (← Instr.index t x y)) : Sem Next).run P w) := by
  unfold semIdx at hs
  split at hs
  · rename_i l k a
    obtain ⟨x, z, rfl, h1, h2⟩ := hv.inv2
    refine ⟨x, z, rfl, ?_⟩
    simp only [Option.some.injEq, Prod.mk.injEq] at hs; obtain ⟨rfl, rfl, rfl, rfl⟩ := hs
    rw [h2.inv_i, h1.inv_s]
    obtain ⟨g0, g1⟩ := hc
    have hg : (⟨l.toArray⟩ : ByteArray)[a.toNat]? = some (l.getD a.toNat 0) := by
      have hlt : a.toNat < (⟨l.toArray⟩ : ByteArray).size := by rw [size_mk]; omega
      rw [getElem?_pos (⟨l.toArray⟩ : ByteArray) a.toNat hlt]
      have hlt' : a.toNat < l.length := by omega
      simp [List.getD, hlt']
      rfl
    refine Res.pure hsg (u := .int .u8 ((l.getD a.toNat 0).toNat : Int)) ?_ (.p (.i _ _))
    simp only [Instr.index, Sem.run_bind, asIntOf, Sem.run_pure, Result.andThen_ok, run_underlying ht, if_pos g0, hg]
  · simp at hs

theorem snd_idxa (t e : TypeId) {ag : Bool} {es n : Nat} (ht : P.underlying t = some (.array n e)) (hz : sizeOfT P e = some es) (ha : isAggT P e = some ag) (hone : ag = false → es = 1) {vals : List V} {us : List Value} {c : Prop} {v : V} {R : List Nat} {Δ : Sg}
    (hs : semIdxa ag es n vals = some (c, v, R, Δ)) (hc : c) (hv : VReps w (okOf w Fr ρ) ρ vals us) (hsg : SgRel w Fr ρ sg) :
    ∃ x y, us = [x, y] ∧ Res Fr ρ w sg dst new v Δ ((do Pure.pure (Next.value (← Instr.index t x y)) : Sem Next).run P w) := by
  unfold semIdxa at hs
  split at hs
  · rename_i l k a
    obtain ⟨x, z, rfl, h1, h2⟩ := hv.inv2
    refine ⟨x, z, rfl, ?_⟩
    rw [h2.inv_i]
    cases h1.inv_p with
    | ag _ ws h =>
      split at hs
      · simp only [Option.some.injEq, Prod.mk.injEq] at hs; obtain ⟨rfl, rfl, rfl, rfl⟩ := hs
        obtain ⟨g0, g1, g2⟩ := hc
        have := PRep.ag _ _ ((h.drop (a.toNat * es)).take es)
        refine Res.pure hsg (u := .agg ((ws.drop (a.toNat * es)).take es).toArray) ?_ (.p this)
        simp [Instr.index, asIntOf, run_underlying ht, g0, g1, part, run_isAgg ha, run_sizeOf hz]
      · simp only [Option.some.injEq, Prod.mk.injEq] at hs; obtain ⟨rfl, rfl, rfl, rfl⟩ := hs
        obtain ⟨g0, g1, g2⟩ := hc
        cases hone rfl
        obtain ⟨u, hu, hp⟩ := h.get (getD_get .nf (show a.toNat < l.length by omega))
        refine Res.pure hsg (u := u) ?_ (.p hp)
        simp [Instr.index, asIntOf, run_underlying ht, g0, g1, part, run_isAgg ha, run_sizeOf hz, hu]
  · simp at hs

theorem snd_arp (t e : TypeId) {n : Nat} (ht : P.underlying t = some (.array n e)) {vals : List V} {us : List Value} {c : Prop} {v : V} {R : List Nat} {Δ : Sg}
    (hs : semArp n vals = some (c, v, R, Δ)) (hc : c) (hv : VReps w (okOf w Fr ρ) ρ vals us) (hsg : SgRel w Fr ρ sg) :
    ∃ x, us = [x] ∧ Res Fr ρ w sg dst new v Δ ((do Pure.pure (Next.value (← Instr.arrayAt t x)) : Sem Next).run P w) := by
  unfold semArp at hs
  split at hs
  · rename_i l
    obtain ⟨x, rfl, h1⟩ := hv.inv1
    refine ⟨x, rfl, ?_⟩
    simp only [Option.some.injEq, Prod.mk.injEq] at hs; obtain ⟨rfl, rfl, rfl, rfl⟩ := hs
    obtain ⟨p, cap, es', rfl, hr⟩ := h1.inv_p.inv_sl
    obtain ⟨b, o, ws, rfl, q1, q2, q3⟩ := hr.mem hc.1
    have : ¬ l.length < n := by omega
    exact Res.pure hsg (u := .pointer (some ⟨b, o, none⟩)) (by simp [Instr.arrayAt, run_underlying ht, this]) (.pp q1 q2 q3)
  · simp at hs

theorem ArrRep.slice {r : Nat} {L : Loc} {els : List PV} (h : ArrRep w ok ρ r L (pcells els)) {i n : Nat} (hn : i + n ≤ els.length) {a : Option Addr} (ha : i < L.cap → a = some ⟨L.blk, L.off + i * L.es, none⟩) :
    L.es = L.es ∧ (∀ x ∈ (els.drop i).take n, x.cells.length = L.es) ∧ ((els.drop i).take n ≠ [] → ∃ us, a = some ⟨L.blk, L.off + i * L.es, none⟩ ∧ PReps w ok (((els.drop i).take n).flatMap PV.cells) us ∧
      ∀ (j : Nat) u, us[j]? = some u → w.cell? ⟨L.blk, L.off + i * L.es + j, none⟩ = some u) := by
  have hsz : ∀ x ∈ els, x.cells.length = L.es := by
    intro x hx
    obtain ⟨k, hk⟩ := List.mem_iff_getElem?.1 hx
    have := h.sz _ (List.mem_of_getElem? (pcells_get hk))
    simpa using this
  have hlen : els.length ≤ L.cap := by have := h.len; simpa [pcells] using this
  refine ⟨rfl, fun x hx => hsz x (List.mem_of_mem_drop (List.mem_of_mem_take hx)), fun hne => ?_⟩
  have hi : i < els.length := by
    rcases Nat.lt_or_ge i els.length with h' | h'
    · exact h'
    · exact absurd (by simp [List.drop_of_length_le h']) hne
  have hcap : 0 < L.cap := by omega
  obtain ⟨c, T, h1, h2, h3⟩ := h.mem hcap
  have key : ∀ (k j : Nat) x y, els[k]? = some x → x.cells[j]? = some y → ∃ u, c[L.off + k * L.es + j]? = some u ∧ PRep w ok y u := by
    intro k j x y hx hy
    obtain ⟨u, hu, hv⟩ := h3 k j _ (.p y) (pcells_get hx) (by simp [hy])
    exact ⟨u, hu, hv.inv_p⟩
  refine ⟨(List.range (((els.drop i).take n).flatMap PV.cells).length).map (fun j => c.getD (L.off + i * L.es + j) undef), ha (by omega), ?_, ?_⟩
  · refine PReps.of_get (by simp) (fun j y u hy hu => ?_)
    have hj := (List.getElem?_eq_some_iff.1 hy).1
    simp only [List.getElem?_map, List.getElem?_range hj, Option.map_some, Option.some.injEq] at hu
    subst hu
    rw [flatMap_take (es := L.es) (fun x hx => hsz x (List.mem_of_mem_drop hx)), List.getElem?_take] at hy
    split at hy
    · rename_i hj2
      rw [flatMap_drop hsz, List.getElem?_drop] at hy
      have hes : 0 < L.es := by
        rcases Nat.eq_zero_or_pos L.es with h0 | h0
        · rw [h0] at hj2; simp at hj2
        · exact h0
      have hq : j / L.es < n := by rw [Nat.div_lt_iff_lt_mul hes]; exact hj2
      have hk : i + j / L.es < els.length := by omega
      have hx := getD_get (.nf : PV) hk
      have hr : j % L.es < L.es := Nat.mod_lt _ hes
      have e1 : i * L.es + j = (i + j / L.es) * L.es + j % L.es := by
        have := Nat.div_add_mod j L.es
        rw [Nat.add_mul, Nat.mul_comm (j / L.es)]; omega
      rw [e1, flatMap_get hsz hx _ hr] at hy
      obtain ⟨u', hu', hp⟩ := key _ _ _ _ hx hy
      have e2 : L.off + i * L.es + j = L.off + (i + j / L.es) * L.es + j % L.es := by omega
      rw [e2, Array.getD_eq_getD_getElem?, hu']
      exact hp
    · simp at hy
  · intro j u hu
    have hj : j < (((els.drop i).take n).flatMap PV.cells).length := by
      have := (List.getElem?_eq_some_iff.1 hu).1
      simpa using this
    simp only [List.getElem?_map, List.getElem?_range hj, Option.map_some, Option.some.injEq] at hu
    subst hu
    have hjs : j < c.size - (L.off + i * L.es) := by
      have e3 : (((els.drop i).take n).flatMap PV.cells).length ≤ n * L.es := by
        rw [flatMap_take (es := L.es) (fun x hx => hsz x (List.mem_of_mem_drop hx))]
        simp only [List.length_take]; omega
      have e4 : (i + n) * L.es ≤ L.cap * L.es := Nat.mul_le_mul_right _ (by omega)
      rw [Nat.add_mul] at e4
      omega
    have : L.off + i * L.es + j < c.size := by omega
    simp [World.cell?, h1, this]

/-- The elements of a slice, and where they lie (no longer 'ok': they may be owned). -/
theorem els_rep {x : V} {u : Value} {c : Prop} {l : List PV} {R : List Nat} (hs : elsOf sg x = some (c, l, R)) (hc : c) (hv : VRep w (okOf w Fr ρ) ρ x u) (hsg : SgRel w Fr ρ sg) :
    ∃ a cap es, u = .slice a l.length cap ∧ (∀ y ∈ l, y.cells.length = es) ∧ (l ≠ [] → ∃ b o us, a = some ⟨b, o, none⟩ ∧ PReps w (okOf w Fr ρ) (l.flatMap PV.cells) us ∧
      ∀ (j : Nat) v, us[j]? = some v → w.cell? ⟨b, o + j, none⟩ = some v) := by
  unfold elsOf at hs
  split at hs
  · rename_i l'
    simp only [Option.some.injEq, Prod.mk.injEq] at hs; obtain ⟨rfl, rfl, rfl⟩ := hs
    obtain ⟨a, cap, es, rfl, hr⟩ := hv.inv_p.inv_sl
    exact ⟨a, cap, es, rfl, hr.sz, fun hne => by obtain ⟨b, o, us, rfl, _, h2, h3⟩ := hr.mem hne; exact ⟨b, o, us, rfl, h2, h3⟩⟩
  · simp only [Option.some.injEq, Prod.mk.injEq] at hs; obtain ⟨rfl, rfl, rfl⟩ := hs
    cases hv with
    | nils a => exact ⟨a, 0, 0, rfl, by simp, by simp⟩
  · rename_i r i n
    cases hv with
    | os h =>
      split at hs
      · rename_i es2 els hb
        obtain ⟨L, hbox⟩ := hsg.box _ _ hb
        have harr : ArrRep w (okOf w Fr ρ) ρ r L (pcells els) := hbox.arr (by intro e h; cases h)
        obtain ⟨q1, rfl, q3⟩ := h L hbox.loc
        split at hs
        · simp only [Option.some.injEq, Prod.mk.injEq] at hs; obtain ⟨rfl, rfl, rfl⟩ := hs
          subst hc
          obtain ⟨_, z1, z2⟩ := harr.slice (i := 0) (n := els.length) (by omega) q3
          simp only [List.drop_zero, List.take_length] at z1 z2
          refine ⟨_, _, L.es, rfl, z1, fun hne => ?_⟩
          obtain ⟨us, y1, y2, y3⟩ := z2 hne
          exact ⟨_, _, us, y1, y2, y3⟩
        · simp only [Option.some.injEq, Prod.mk.injEq] at hs; obtain ⟨rfl, rfl, rfl⟩ := hs
          rename_i i'
          obtain ⟨_, z1, z2⟩ := harr.slice (i := i' + 1) (n := n) hc q3
          have hl : ((els.drop (i' + 1)).take n).length = n := by simp; omega
          refine ⟨_, _, L.es, by rw [hl], z1, fun hne => ?_⟩
          obtain ⟨us, y1, y2, y3⟩ := z2 hne
          exact ⟨_, _, us, y1, y2, y3⟩
      · simp at hs
  · simp at hs
end
end Go.DW

/- Bytes to strings, structs compared, aggregates built. -/
namespace Go.DW
section
variable {P : Program} {Fr : Nat → Prop} {ρ : Rho} {w : World} {sg : Sg} {dst : Nat} {new : Bool} {ok : Nat → Prop}

theorem bytes_rep : ∀ {l : List PV} {us : List Value}, (∀ x ∈ l, x.isByte) → PReps w ok (l.flatMap PV.cells) us →
    ∃ ns : List Int, us = ns.map (Value.int .u8) ∧ l.map PV.byte = ns.map (fun n => UInt8.ofNat n.toNat)
  | [], us, _, h => by cases h; exact ⟨[], rfl, rfl⟩
  | x :: l, us, hb, h => by
    have hx := hb x (by simp)
    cases x with
    | i k n =>
      cases k <;> simp [PV.isByte] at hx
      simp only [List.flatMap_cons, PV.cells, List.cons_append, List.nil_append] at h
      cases h with
      | cons h1 hs =>
        obtain ⟨ns, rfl, h2⟩ := bytes_rep (fun y hy => hb y (by simp [hy])) hs
        cases h1 with
        | i => exact ⟨n :: ns, rfl, by simp [PV.byte, h2]⟩
    | _ => simp [PV.isByte] at hx

theorem fold_push (ns : List Int) : ∀ acc : List UInt8, ns.foldl (fun r n => r.push (UInt8.ofNat n.toNat)) (⟨acc.toArray⟩ : ByteArray) = ⟨(acc ++ ns.map fun n => UInt8.ofNat n.toNat).toArray⟩ := by
  induction ns with
  | nil => intro acc; simp
  | cons n ns ih =>
    intro acc
    have : (⟨acc.toArray⟩ : ByteArray).push (UInt8.ofNat n.toNat) = ⟨(acc ++ [UInt8.ofNat n.toNat]).toArray⟩ := by
      apply ByteArray.ext
      simp [ByteArray.push]
    rw [List.foldl_cons, this, ih]
    simp

theorem snd_b2s (s d e : TypeId) (hsT : P.underlying s = some (.slice e)) (heT : P.underlying e = some (.int .u8)) (hdT : P.underlying d = some .string) {vals : List V} {us : List Value} {c : Prop} {v : V} {R : List Nat} {Δ : Sg}
    (hs : semB2s vals sg = some (c, v, R, Δ)) (hc : c) (hv : VReps w (okOf w Fr ρ) ρ vals us) (hsg : SgRel w Fr ρ sg) :
    ∃ x, us = [x] ∧ Res Fr ρ w sg dst new v Δ ((do Pure.pure (Next.value (← convert s d x)) : Sem Next).run P w) := by
  unfold semB2s at hs
  split at hs
  · obtain ⟨x, rfl, h1⟩ := hv.inv1
    refine ⟨x, rfl, ?_⟩
    split at hs
    · rename_i c' l R' hel
      simp only [Option.some.injEq, Prod.mk.injEq] at hs; obtain ⟨rfl, rfl, rfl, rfl⟩ := hs
      obtain ⟨a, cap, es, rfl, h2, h3⟩ := els_rep hel hc.1 h1 hsg
      refine Res.pure hsg (u := .string ⟨(l.map PV.byte).toArray⟩) ?_ (.p (.s _))
      rw [Sem.run_bind, run_convert_bytes_string w s d e a l.length cap hsT heT hdT]
      rcases Classical.em (l = []) with rfl | hne
      · cases a with
        | none => simp [Conv.bytesToString]; rfl
        | some a =>
          have := run_bytesToString (P := P) w a 0 cap [] (by simp [loadCells, loadCellsFrom])
          simp only [List.length_nil, this, List.foldl_nil]
          rfl
      · obtain ⟨b, o, ws, rfl, h4, h5⟩ := h3 hne
        obtain ⟨ns, rfl, h6⟩ := bytes_rep hc.2 h4
        have hlen : (ns.map (Value.int .u8)).length = l.length := by
          have := congrArg List.length h6
          simpa using this.symm
        have hl := run_loadCells_list (P := P) w ⟨b, o, none⟩ (ns.map (Value.int .u8)) (fun j v hv => by rw [Addr.add_lit]; exact h5 j v hv)
        rw [hlen] at hl
        rw [run_bytesToString (P := P) w _ _ cap ns hl]
        have := fold_push ns []
        simp only [List.nil_append] at this
        have he : ByteArray.empty = (⟨([] : List UInt8).toArray⟩ : ByteArray) := rfl
        rw [he, this, h6]
        rfl
    · simp at hs
  · simp at hs

theorem run_eqFlat (d : Nat) {xs ys : Array Value} : ∀ {fs : List Field} {i : Nat} {tags : List Nat} {l m : List PV} {us vs : List Value}, flatTags P i fs = some tags →
    tagsOk tags l = true → tagsOk tags m = true → sameKinds l m = true → PReps w ok l us → PReps w ok m vs →
    (∀ (j : Nat) u, us[j]? = some u → xs[i + j]? = some u) → (∀ (j : Nat) u, vs[j]? = some u → ys[i + j]? = some u) →
    (Op.eqFields (d + 1) xs ys fs).run P w = .ok (eqls l m) w
  | [], i, tags, l, m, us, vs, ht, hl, hm, hk, h1, h2, _, _ => by
    simp [flatTags] at ht; subst ht
    cases l <;> simp [tagsOk] at hl
    cases m <;> simp [tagsOk] at hm
    simp [Op.eqFields, eqls]
  | f :: fs, i, tags, l, m, us, vs, ht, hl, hm, hk, h1, h2, hx, hy => by
    simp only [flatTags] at ht
    split at ht
    · rename_i hf
      obtain ⟨hf1, hf2⟩ := hf
      have main : ∀ t ts, tags = t :: ts → flatTags P (i + 1) fs = some ts → (isAgg f.type).run P w = .ok false w →
          (∀ (a b : PV) (u v : Value), a.isTag t = true → b.isTag t = true → a.sameKind b = true → PRep w ok a u → PRep w ok b v → (Op.equalIn (d + 1) f.type u v).run P w = .ok (a.eql b) w) →
          (Op.eqFields (d + 1) xs ys (f :: fs)).run P w = .ok (eqls l m) w := by
        intro t ts htg hfs hag heq
        subst htg
        cases l with
        | nil => simp [tagsOk] at hl
        | cons a l =>
        cases m with
        | nil => simp [tagsOk] at hm
        | cons b m =>
        simp only [tagsOk, Bool.and_eq_true] at hl hm
        simp only [sameKinds, Bool.and_eq_true] at hk
        cases h1 with
        | cons p1 ps1 =>
        cases h2 with
        | cons p2 ps2 =>
        rename_i u us v vs
        have e1 := hx 0 u (by simp)
        have e2 := hy 0 v (by simp)
        simp only [Nat.add_zero] at e1 e2
        have ih := run_eqFlat d hfs hl.2 hm.2 hk.2 ps1 ps2 (fun j z hz => by have := hx (j + 1) z (by simpa using hz); rwa [show i + (j + 1) = i + 1 + j by omega] at this)
          (fun j z hz => by have := hy (j + 1) z (by simpa using hz); rwa [show i + (j + 1) = i + 1 + j by omega] at this)
        have heq1 := heq a b u v hl.1 hm.1 hk.1 p1 p2
        simp only [Op.eqFields, hf2, ne_eq, not_false_eq_true, if_true, Sem.run_bind, part, hag, Result.andThen_ok, hf1, e1, e2, Bool.false_eq_true, if_false, Sem.run_pure, heq1, eqls]
        cases hab : a.eql b
        · simp
        · simp [ih]
      split at ht
      · rename_i k r hu hfs
        simp at ht
        exact main 0 r ht.symm hfs (by simp [isAgg, run_underlying hu]) (fun a b u v ha hb hk pa pb => by
          cases a <;> simp [PV.isTag] at ha
          cases b <;> simp [PV.isTag] at hb
          simp only [PV.sameKind] at hk
          cases beq_kind hk
          cases pa.inv_i; cases pb.inv_i
          simp [Op.equalIn, run_underlying hu, PV.eql])
      · rename_i r hu hfs
        simp at ht
        exact main 1 r ht.symm hfs (by simp [isAgg, run_underlying hu]) (fun a b u v ha hb hk pa pb => by
          cases a <;> simp [PV.isTag] at ha
          cases b <;> simp [PV.isTag] at hb
          cases pa.inv_s; cases pb.inv_s
          rw [run_equalIn_string w d f.type _ _ hu, toList_mk, toList_mk]
          rfl)
      · rename_i r hu hfs
        simp at ht
        exact main 2 r ht.symm hfs (by simp [isAgg, run_underlying hu]) (fun a b u v ha hb hk pa pb => by
          cases a <;> simp [PV.isTag] at ha
          cases b <;> simp [PV.isTag] at hb
          cases pa.inv_b; cases pb.inv_b
          rw [run_equalIn_bool w d f.type _ _ hu]
          rfl)
      · simp at ht
    · simp at ht

theorem snd_seq (t : TypeId) {fs : Array Field} {tags : List Nat} (ht : P.underlying t = some (.struct fs)) (hg : P.eqGuardType P.depth t = false) (hh : P.stoodInHeld t = false) (hf : flatTags P 0 fs.toList = some tags)
    {neg : Bool} {op : BinOp} (hop : (neg = false ∧ op = .eql) ∨ (neg = true ∧ op = .neq)) {vals : List V} {us : List Value} {c : Prop} {v : V} {R : List Nat} {Δ : Sg}
    (hs : semSeq tags neg vals = some (c, v, R, Δ)) (hc : c) (hv : VReps w (okOf w Fr ρ) ρ vals us) (hsg : SgRel w Fr ρ sg) :
    ∃ x y, us = [x, y] ∧ ∀ (o1 o2 : Operand), Res Fr ρ w sg dst new v Δ ((do Pure.pure (Next.value (← (do eqGuard op t o1 o2 x y; binOp op t x y))) : Sem Next).run P w) := by
  unfold semSeq at hs
  split at hs
  · rename_i l m
    obtain ⟨x, y, rfl, h1, h2⟩ := hv.inv2
    refine ⟨x, y, rfl, fun o1 o2 => ?_⟩
    cases h1.inv_p with
    | ag _ us1 p1 =>
    cases h2.inv_p with
    | ag _ us2 p2 =>
    have hfo : P.fieldsOf t = fs := by simp [Program.fieldsOf, ht]
    have key : c → (Op.equalIn 10000 t (.agg us1.toArray) (.agg us2.toArray)).run P w = .ok (eqls l m) w := by
      intro _
      rw [run_equalIn_struct w 9999 t _ _ (by rw [hfo]; exact ht) hh, hfo]
      have hc' : tagsOk tags l = true ∧ tagsOk tags m = true ∧ sameKinds l m = true := by
        split at hs <;> (simp only [Option.some.injEq, Prod.mk.injEq] at hs; obtain ⟨rfl, _⟩ := hs; exact hc)
      exact run_eqFlat 9998 hf hc'.1 hc'.2.1 hc'.2.2 p1 p2 (fun j u hu => by simpa using hu) (fun j u hu => by simpa using hu)
    rcases hop with ⟨rfl, rfl⟩ | ⟨rfl, rfl⟩
    all_goals simp only [Option.some.injEq, Prod.mk.injEq] at hs; obtain ⟨rfl, rfl, rfl, rfl⟩ := hs
    · refine Res.pure hsg (u := .bool (eqls l m)) ?_ (.p (.b _))
      rw [Sem.run_bind, Sem.run_bind, run_eqGuard_agg w .eql t o1 o2 _ _ hg, Result.andThen_ok, run_eql_struct, key hc]
      rfl
    · refine Res.pure hsg (u := .bool (!eqls l m)) ?_ (.p (.b _))
      rw [Sem.run_bind, Sem.run_bind, run_eqGuard_agg w .neq t o1 o2 _ _ hg, Result.andThen_ok, run_neq_struct, key hc]
      rfl
  · simp at hs

/-! ### Aggregates -/
theorem fold_set : ∀ (vs : List Value) (k : Nat) (cur : List Value) (off : Nat), off + k + vs.length ≤ cur.length →
    ((vs.zipIdx k).foldl (fun (cs : Array Value) (p : Value × Nat) => cs.setIfInBounds (off + p.2) p.1) cur.toArray) = (cur.take (off + k) ++ vs ++ cur.drop (off + k + vs.length)).toArray
  | [], k, cur, off, _ => by simp
  | v :: vs, k, cur, off, h => by
    simp only [List.zipIdx_cons, List.foldl_cons]
    have hk : off + k < cur.length := by simp at h; omega
    have e : cur.toArray.setIfInBounds (off + k) v = (cur.set (off + k) v).toArray := by simp
    rw [e, fold_set vs (k + 1) _ off (by simp at h ⊢; omega)]
    congr 1
    have := list_seg_step cur (off + k) v vs (by simp at h; omega)
    simpa [Nat.add_assoc] using this

theorem VReps.append {l2 : List V} {us2 : List Value} (h2 : VReps w ok ρ l2 us2) : ∀ {l : List V} {us : List Value}, VReps w ok ρ l us → VReps w ok ρ (l ++ l2) (us ++ us2)
  | _, _, .nil => h2
  | _, _, .cons h hs => .cons h (VReps.append h2 hs)

theorem VReps.take : ∀ {l : List V} {us : List Value}, VReps w ok ρ l us → ∀ n : Nat, VReps w ok ρ (l.take n) (us.take n)
  | _, _, .nil, n => by simp; exact .nil
  | _, _, .cons h hs, 0 => by simp; exact .nil
  | _, _, .cons h hs, n + 1 => by simpa using VReps.cons h (hs.take n)

theorem VReps.drop : ∀ {l : List V} {us : List Value}, VReps w ok ρ l us → ∀ n : Nat, VReps w ok ρ (l.drop n) (us.drop n)
  | _, _, .nil, n => by simp; exact .nil
  | _, _, .cons h hs, 0 => .cons h hs
  | _, _, .cons h hs, n + 1 => by simpa using hs.drop n

/-- Filling an aggregate. -/
theorem run_fill {place : Nat → Option (Nat × Nat)} : ∀ {ps : List (Nat × Nat)} {is : List Nat} {vals zs : List V} {us cur : List Value},
    is.map place = ps.map some → VReps w ok ρ vals us → (∀ v ∈ vals, v.cellsV.all V.leaf = true) → VReps w ok ρ zs cur → fillOk cur.length ps vals →
    ∃ res, Instr.fill place cur.toArray (is.zip us) = some res.toArray ∧ VReps w ok ρ (fillV zs ps vals) res
  | [], is, vals, zs, us, cur, hp, hv, _, hz, hok => by
    cases is with
    | nil => exact ⟨cur, by simp [Instr.fill], by cases vals <;> simpa [fillV] using hz⟩
    | cons i is => simp at hp
  | (off, sz) :: ps, is, vals, zs, us, cur, hp, hv, hl, hz, hok => by
    cases is with
    | nil => simp at hp
    | cons i is =>
    cases vals with
    | nil => simp [fillOk] at hok
    | cons v vals =>
    cases hv with
    | cons h hs =>
    rename_i u us
    simp only [List.map_cons, List.cons.injEq] at hp
    obtain ⟨g1, g2, g3⟩ := hok
    have hc := h.cells (hl v (by simp))
    have hlen := hc.length
    rw [Array.length_toList] at hlen
    have hsz : u.cells.size = sz := by omega
    have hfold := fold_set u.cells.toList 0 cur off (by simp; omega)
    simp only [Nat.add_zero, Array.length_toList] at hfold
    have hz' : VReps w ok ρ (zs.take off ++ v.cellsV ++ zs.drop (off + v.cellsV.length)) (cur.take off ++ u.cells.toList ++ cur.drop (off + u.cells.size)) := by
      have e : off + u.cells.size = off + v.cellsV.length := by omega
      rw [e]
      exact VReps.append (hz.drop _) (VReps.append hc (hz.take _))
    obtain ⟨res, hr1, hr2⟩ := run_fill (place := place) (ps := ps) (is := is) hp.2 hs (fun x hx => hl x (by simp [hx])) hz' (by
      have e : (cur.take off ++ u.cells.toList ++ cur.drop (off + u.cells.size)).length = cur.length := by simp; omega
      rw [e]; exact g3)
    refine ⟨res, ?_, by simpa [fillV] using hr2⟩
    simp only [List.zip_cons_cons, Instr.fill, hp.1]
    rw [if_neg (by simp; omega)]
    have hzi : u.cells.zipIdx.toList = u.cells.toList.zipIdx := by simp
    rw [← Array.foldl_toList, hzi]
    have e2 : (u.cells.toList.zipIdx).foldl (fun (cs : Array Value) (x : Value × Nat) => match x with | (c, j) => cs.setIfInBounds (off + j) c) cur.toArray = (cur.take off ++ u.cells.toList ++ cur.drop (off + u.cells.size)).toArray := by
      exact hfold
    rw [e2]
    exact hr1

theorem zero_rep {t : TypeId} {z : V} (h : zeroOf P t = some z) : ∃ zv, (zeroValue t).run P w = .ok zv w ∧ VRep w ok ρ z zv := by
  unfold zeroOf at h
  cases hi : P.info? t with
  | none => simp [hi] at h
  | some i =>
    cases hz : i.zero with
    | none => simp [hi, hz] at h
    | some zv =>
      simp [hi, hz] at h
      exact ⟨zv, by simp [zeroValue, typeInfo, hi, hz], cV_rep h⟩

theorem run_places' : ∀ {fs : List Field} {pl : List (Nat × Nat)}, placesOf P fs = some pl → (fs.mapM fun f => Prod.mk f.offset <$> sizeOf f.type).run P w = .ok pl w
  | [], pl, h => by simp [placesOf] at h; subst h; simp
  | f :: fs, pl, h => by
    simp only [placesOf] at h
    cases h1 : sizeOfT P f.type <;> simp [h1] at h
    cases h2 : placesOf P fs <;> simp [h2] at h
    subst h
    simp [run_sizeOf h1, run_places' h2]

theorem pickPlaces_spec {pl : List (Nat × Nat)} : ∀ {is : List Nat} {ps : List (Nat × Nat)}, pickPlaces pl is = some ps → is.map (pl[·]?) = ps.map some
  | [], ps, h => by simp [pickPlaces] at h; subst h; rfl
  | i :: is, ps, h => by
    simp only [pickPlaces] at h
    cases h1 : pl[i]? <;> simp [h1] at h
    cases h2 : pickPlaces pl is <;> simp [h2] at h
    subst h
    simp [h1, pickPlaces_spec h2]

theorem snd_build_struct (t : TypeId) {fs : Array Field} {pl ps : List (Nat × Nat)} {z : V} (ht : P.underlying t = some (.struct fs)) (hz : zeroOf P t = some z) (hpl : placesOf P fs.toList = some pl) {parts : Array (Nat × Operand)} (hps : pickPlaces pl (parts.toList.map (·.1)) = some ps)
    {vals : List V} {us : List Value} {c : Prop} {v : V} {R : List Nat} {Δ : Sg} (hs : semBuild z.cellsV ps vals = some (c, v, R, Δ)) (hc : c) (hv : VReps w (okOf w Fr ρ) ρ vals us) (hsg : SgRel w Fr ρ sg)
    {ev : Operand → Value} (hus : us = (parts.toList.map (·.2)).map ev) :
    Res Fr ρ w sg dst new v Δ ((do Pure.pure (Next.value (← Instr.build t (parts.map fun (i, x) => (i, ev x)))) : Sem Next).run P w) := by
  unfold semBuild at hs
  simp only [Option.some.injEq, Prod.mk.injEq] at hs; obtain ⟨rfl, rfl, rfl, rfl⟩ := hs
  obtain ⟨c1, c2, c3⟩ := hc
  obtain ⟨zv, hzr, hzv⟩ := zero_rep (P := P) (w := w) (ok := okOf w Fr ρ) (ρ := ρ) hz
  have hzc := hzv.cells c2
  have hl := hzc.length
  obtain ⟨res, hr1, hr2⟩ := run_fill (place := fun i => pl[i]?) (ps := ps) (is := parts.toList.map (·.1)) (pickPlaces_spec hps) hv c3 hzc (by rw [hl]; exact c1)
  have hzip : (parts.map fun (i, x) => (i, ev x)).toList = (parts.toList.map (·.1)).zip us := by
    subst hus
    simp only [Array.toList_map]
    induction parts.toList with
    | nil => rfl
    | cons a l ih => simp [ih]
  refine Res.pure hsg (u := .agg res.toArray) ?_ (mkAgg_rep hr2)
  have hpr : (fs.mapM fun f => Prod.mk f.offset <$> sizeOf f.type).run P w = .ok pl.toArray w := by
    rw [Array.mapM_eq_mapM_toList, Sem.run_map, run_places' hpl]; rfl
  have hpr' : (fs.mapM (m := Sem) fun f => do pure (f.offset, ← sizeOf f.type)).run P w = .ok pl.toArray w := by
    simpa using hpr
  simp only [Instr.build, Sem.run_bind, hzr, Result.andThen_ok, run_underlying ht, hpr', hzip]
  have : (fun x : Nat => pl.toArray[x]?) = fun i => pl[i]? := by funext i; simp
  rw [this]
  simp only [Array.toArray_toList] at hr1
  rw [hr1]
  rfl

theorem snd_build_array (t e : TypeId) {n es : Nat} {z : V} (ht : P.underlying t = some (.array n e)) (hz : zeroOf P t = some z) (hes : sizeOfT P e = some es) {parts : Array (Nat × Operand)}
    {vals : List V} {us : List Value} {c : Prop} {v : V} {R : List Nat} {Δ : Sg} (hs : semBuild z.cellsV (parts.toList.map fun p => (p.1 * es, es)) vals = some (c, v, R, Δ)) (hc : c) (hv : VReps w (okOf w Fr ρ) ρ vals us) (hsg : SgRel w Fr ρ sg)
    {ev : Operand → Value} (hus : us = (parts.toList.map (·.2)).map ev) :
    Res Fr ρ w sg dst new v Δ ((do Pure.pure (Next.value (← Instr.build t (parts.map fun (i, x) => (i, ev x)))) : Sem Next).run P w) := by
  unfold semBuild at hs
  simp only [Option.some.injEq, Prod.mk.injEq] at hs; obtain ⟨rfl, rfl, rfl, rfl⟩ := hs
  obtain ⟨c1, c2, c3⟩ := hc
  obtain ⟨zv, hzr, hzv⟩ := zero_rep (P := P) (w := w) (ok := okOf w Fr ρ) (ρ := ρ) hz
  have hzc := hzv.cells c2
  have hl := hzc.length
  obtain ⟨res, hr1, hr2⟩ := run_fill (place := fun i => some (i * es, es)) (ps := parts.toList.map fun p => (p.1 * es, es)) (is := parts.toList.map (·.1)) (by simp) hv c3 hzc (by rw [hl]; exact c1)
  have hzip : (parts.map fun (i, x) => (i, ev x)).toList = (parts.toList.map (·.1)).zip us := by
    subst hus
    simp only [Array.toList_map]
    induction parts.toList with
    | nil => rfl
    | cons a l ih => simp [ih]
  refine Res.pure hsg (u := .agg res.toArray) ?_ (mkAgg_rep hr2)
  simp only [Array.toArray_toList] at hr1
  simp only [Instr.build, Sem.run_bind, hzr, Result.andThen_ok, run_underlying ht, run_sizeOf hes, hzip, hr1]
  rfl
end
end Go.DW

/- The operations that make or change memory. -/
namespace Go.DW

def upd (ρ : Rho) (k : Nat) (L : Loc) : Rho := fun r s => if r = k ∧ s = none then some L else ρ r s
def delL (ρ : Rho) (ks : List Nat) : Rho := fun r s => if r ∈ ks then none else ρ r s
def killed (ks : List Nat) (sg : Sg) : Sg := (ks.map fun r => (r, none)) ++ sg

theorem Sg.get_cons (r' : Nat) (b : Option Box) (sg : Sg) (r : Nat) : Sg.get ((r', b) :: sg) r = if r = r' then b else Sg.get sg r := by
  simp only [Sg.get]
  cases h : Nat.beq r r'
  · have : r ≠ r' := Nat.ne_of_beq_eq_false h
    simp [this]
  · have : r = r' := Nat.eq_of_beq_eq_true h
    simp [this]

theorem Sg.get_killed (sg : Sg) (r : Nat) : ∀ ks : List Nat, Sg.get (killed ks sg) r = if r ∈ ks then none else Sg.get sg r
  | [] => by simp [killed]
  | k :: ks => by
    have ih := Sg.get_killed sg r ks
    simp only [killed] at ih
    simp only [killed, List.map_cons, List.cons_append, Sg.get_cons, List.mem_cons, ih]
    by_cases h1 : r = k <;> by_cases h2 : r ∈ ks <;> simp [h1, h2]

def Fresh (ρ : Rho) (sg : Sg) (dst : Nat) : Prop := (∀ s, ρ dst s = none) ∧ ∀ r b, Sg.get sg r = some b → b.men dst = false

section
variable {P : Program} {Fr : Nat → Prop} {ρ : Rho} {w w' : World} {sg : Sg} {dst : Nat} {new : Bool} {ok : Nat → Prop}

/-- New owned memory in the place of some that is given up. -/
theorem SgRel.repl (hsg : SgRel w Fr ρ sg) (hf : Fresh ρ sg dst) (ks : List Nat) (hks : dst ∉ ks) (L : Loc) (bx : Box)
    (hos : w'.os = w.os) (htape : w'.tape = w.tape) (hout : w'.output = w.output) (hsize : w.heap.size ≤ w'.heap.size)
    (hsame : ∀ b, b < w.heap.size → w'.heap[b]? = w.heap[b]? ∨ ∃ k, k ∈ ks ∧ ∃ s L0, ρ k s = some L0 ∧ 0 < L0.cap ∧ L0.blk = b)
    (hblk : 0 < L.cap → (w.heap.size ≤ L.blk ∧ L.blk < w'.heap.size) ∨ ∃ k, k ∈ ks ∧ ∃ s L0, ρ k s = some L0 ∧ 0 < L0.cap ∧ L0.blk = L.blk)
    (hbox : Evo w ρ w' (upd (delL ρ ks) dst L) → BoxRep w' (okOf w' Fr (upd (delL ρ ks) dst L)) (upd (delL ρ ks) dst L) dst bx L) :
    Evo w ρ w' (upd (delL ρ ks) dst L) ∧ SgRel w' Fr (upd (delL ρ ks) dst L) ((dst, some bx) :: killed ks sg) ∧
      (∀ r s L', upd (delL ρ ks) dst L r s = some L' → ρ r s = some L' ∨ r = dst) := by
  have hcase : ∀ r s L', upd (delL ρ ks) dst L r s = some L' → (r = dst ∧ s = none ∧ L' = L) ∨ (r ≠ dst ∧ r ∉ ks ∧ ρ r s = some L') := by
    intro r s L' h
    unfold upd delL at h
    split at h
    · rename_i hh; cases h; exact .inl ⟨hh.1, hh.2, rfl⟩
    · split at h
      · cases h
      · rename_i h1 h2
        refine .inr ⟨fun e => ?_, h2, h⟩
        subst e
        rw [hf.1] at h; cases h
  have hevo : Evo w ρ w' (upd (delL ρ ks) dst L) := by
    refine ⟨hos, htape, hout, hsize, fun b hb hn => ⟨?_, ?_⟩⟩
    · rcases hsame b hb with h | ⟨k, _, s, L0, h1, h2, h3⟩
      · exact h
      · exact absurd ⟨k, s, L0, h1, h2, h3⟩ hn
    · rintro ⟨r, s, L', h1, h2, h3⟩
      rcases hcase r s L' h1 with ⟨rfl, rfl, rfl⟩ | ⟨_, _, h⟩
      · rcases hblk h2 with h | ⟨k, _, s, L0, g1, g2, g3⟩
        · omega
        · exact hn ⟨k, s, L0, g1, g2, g3.trans h3⟩
      · exact hn ⟨r, s, L', h, h2, h3⟩
  refine ⟨hevo, ⟨fun r b hg => ?_, fun r s L' h => ?_, fun r s L1 r' s' L2 h1 h2 c1 c2 he => ?_, fun b hb => ?_, fun b hb => Nat.lt_of_lt_of_le (hsg.fr b hb) hsize⟩, fun r s L' h => ?_⟩
  · rw [Sg.get_cons] at hg
    split at hg
    · rename_i e; subst e; cases hg; exact ⟨L, hbox hevo⟩
    · rename_i hne
      rw [Sg.get_killed] at hg
      split at hg
      · cases hg
      · rename_i hnk
        obtain ⟨L0, h0⟩ := hsg.box r b hg
        refine ⟨L0, h0.mono (fun b hb => hevo.ok Fr b hb) (fun r' s L' hm h => ?_) (fun s => ?_) (fun s L' hL hc => ?_)⟩
        · rcases hcase r' s L' h with ⟨rfl, _, _⟩ | ⟨_, _, h⟩
          · rw [hf.2 r b hg] at hm; cases hm
          · exact h
        · simp [upd, delL, hne, hnk]
        · have hb := hsg.own L'.blk ⟨r, s, L', hL, hc, rfl⟩
          rcases hsame _ hb.2 with h | ⟨k, hk, s', L1, g1, g2, g3⟩
          · exact h
          · have := hsg.inj _ _ _ _ _ _ hL g1 hc g2 g3.symm
            rw [this.1] at hnk
            exact absurd hk hnk
  · rw [Sg.get_cons]
    rcases hcase r s L' h with ⟨rfl, _, _⟩ | ⟨hne, hnk, h⟩
    · exact ⟨bx, by simp⟩
    · rw [if_neg hne, Sg.get_killed, if_neg hnk]
      exact hsg.dom r s L' h
  · rcases hcase _ _ _ h1 with ⟨q1, q2, q3⟩ | ⟨n1, k1, p1⟩ <;> rcases hcase _ _ _ h2 with ⟨t1, t2, t3⟩ | ⟨n2, k2, p2⟩
    · exact ⟨q1.trans t1.symm, q2.trans t2.symm⟩
    · subst q3
      have hb := hsg.own L2.blk ⟨r', s', L2, p2, c2, rfl⟩
      rcases hblk c1 with h | ⟨k, hk, s, L0, g1, g2, g3⟩
      · omega
      · have := hsg.inj _ _ _ _ _ _ p2 g1 c2 g2 (by omega)
        rw [this.1] at k2; exact absurd hk k2
    · subst t3
      have hb := hsg.own L1.blk ⟨r, s, L1, p1, c1, rfl⟩
      rcases hblk c2 with h | ⟨k, hk, s, L0, g1, g2, g3⟩
      · omega
      · have := hsg.inj _ _ _ _ _ _ p1 g1 c1 g2 (by omega)
        rw [this.1] at k1; exact absurd hk k1
    · exact hsg.inj _ _ _ _ _ _ p1 p2 c1 c2 he
  · obtain ⟨r, s, L', h1, h2, h3⟩ := hb
    rcases hcase r s L' h1 with ⟨rfl, rfl, rfl⟩ | ⟨_, _, h⟩
    · rcases hblk h2 with h | ⟨k, _, s, L0, g1, g2, g3⟩
      · exact ⟨fun hfr => by have := hsg.fr b hfr; omega, by omega⟩
      · have := hsg.own b ⟨k, s, L0, g1, g2, g3.trans h3⟩
        exact ⟨this.1, Nat.lt_of_lt_of_le this.2 hsize⟩
    · have := hsg.own b ⟨r, s, L', h, h2, h3⟩
      exact ⟨this.1, Nat.lt_of_lt_of_le this.2 hsize⟩
  · rcases hcase r s L' h with ⟨rfl, _, _⟩ | ⟨_, _, h⟩
    · exact .inr rfl
    · exact .inl h

/-- Memory is given up. -/
theorem SgRel.kill (hsg : SgRel w Fr ρ sg) (ks : List Nat)
    (hos : w'.os = w.os) (htape : w'.tape = w.tape) (hout : w'.output = w.output) (hsize : w.heap.size ≤ w'.heap.size)
    (hsame : ∀ b, b < w.heap.size → w'.heap[b]? = w.heap[b]? ∨ ∃ k, k ∈ ks ∧ ∃ s L0, ρ k s = some L0 ∧ 0 < L0.cap ∧ L0.blk = b) :
    Evo w ρ w' (delL ρ ks) ∧ SgRel w' Fr (delL ρ ks) (killed ks sg) ∧ (∀ r s L', delL ρ ks r s = some L' → ρ r s = some L') := by
  have hcase : ∀ r s L', delL ρ ks r s = some L' → r ∉ ks ∧ ρ r s = some L' := by
    intro r s L' h
    unfold delL at h
    split at h
    · cases h
    · rename_i h1; exact ⟨h1, h⟩
  have hevo : Evo w ρ w' (delL ρ ks) := by
    refine ⟨hos, htape, hout, hsize, fun b hb hn => ⟨?_, ?_⟩⟩
    · rcases hsame b hb with h | ⟨k, _, s, L0, h1, h2, h3⟩
      · exact h
      · exact absurd ⟨k, s, L0, h1, h2, h3⟩ hn
    · rintro ⟨r, s, L', h1, h2, h3⟩
      exact hn ⟨r, s, L', (hcase r s L' h1).2, h2, h3⟩
  refine ⟨hevo, ⟨fun r b hg => ?_, fun r s L' h => ?_, fun r s L1 r' s' L2 h1 h2 c1 c2 he => ?_, fun b hb => ?_, fun b hb => Nat.lt_of_lt_of_le (hsg.fr b hb) hsize⟩, fun r s L' h => (hcase r s L' h).2⟩
  · rw [Sg.get_killed] at hg
    split at hg
    · cases hg
    · rename_i hnk
      obtain ⟨L0, h0⟩ := hsg.box r b hg
      refine ⟨L0, h0.mono (fun b hb => hevo.ok Fr b hb) (fun r' s L' hm h => (hcase r' s L' h).2) (fun s => ?_) (fun s L' hL hc => ?_)⟩
      · simp [delL, hnk]
      · have hb := hsg.own L'.blk ⟨r, s, L', hL, hc, rfl⟩
        rcases hsame _ hb.2 with h | ⟨k, hk, s', L1, g1, g2, g3⟩
        · exact h
        · have := hsg.inj _ _ _ _ _ _ hL g1 hc g2 g3.symm
          rw [this.1] at hnk
          exact absurd hk hnk
  · obtain ⟨hnk, h⟩ := hcase r s L' h
    rw [Sg.get_killed, if_neg hnk]
    exact hsg.dom r s L' h
  · exact hsg.inj _ _ _ _ _ _ (hcase _ _ _ h1).2 (hcase _ _ _ h2).2 c1 c2 he
  · obtain ⟨r, s, L', h1, h2, h3⟩ := hb
    have := hsg.own b ⟨r, s, L', (hcase r s L' h1).2, h2, h3⟩
    exact ⟨this.1, Nat.lt_of_lt_of_le this.2 hsize⟩

/-- The contents of owned memory change in place. -/
theorem SgRel.set (hsg : SgRel w Fr ρ sg) {r : Nat} {b bx : Box} {L : Loc} (hb : Sg.get sg r = some b) (hL : ρ r none = some L) (hcap : 0 < L.cap)
    (hos : w'.os = w.os) (htape : w'.tape = w.tape) (hout : w'.output = w.output) (hsize : w'.heap.size = w.heap.size)
    (hsame : ∀ k, k ≠ L.blk → w'.heap[k]? = w.heap[k]?)
    (hbox : Evo w ρ w' ρ → BoxRep w' (okOf w' Fr ρ) ρ r bx L) : Evo w ρ w' ρ ∧ SgRel w' Fr ρ ((r, some bx) :: sg) := by
  have hevo : Evo w ρ w' ρ := ⟨hos, htape, hout, by omega, fun k hk hn => ⟨hsame k (fun e => hn ⟨r, none, L, hL, hcap, e.symm⟩), hn⟩⟩
  refine ⟨hevo, ⟨fun r' b' hg => ?_, fun r' s L' h => ?_, hsg.inj, fun k hk => by rw [hsize]; exact hsg.own k hk, fun k hk => by rw [hsize]; exact hsg.fr k hk⟩⟩
  · rw [Sg.get_cons] at hg
    split at hg
    · rename_i e; subst e; cases hg; exact ⟨L, hbox hevo⟩
    · rename_i hne
      obtain ⟨L0, h0⟩ := hsg.box r' b' hg
      refine ⟨L0, h0.mono (fun b hb => hevo.ok Fr b hb) (fun _ _ _ _ h => h) (fun _ => rfl) (fun s L' hL' hc => hsame _ (fun e => ?_))⟩
      have := hsg.inj _ _ _ _ _ _ hL' hL hc hcap e
      exact hne this.1
  · rw [Sg.get_cons]
    split
    · exact ⟨bx, rfl⟩
    · exact hsg.dom r' s L' h

/-! ### Arrays out of cells -/
theorem flatten_get {α : Type} {es : Nat} : ∀ {l : List (List α)}, (∀ x ∈ l, x.length = es) → ∀ {i j : Nat} {x : List α} {v : α}, l[i]? = some x → x[j]? = some v → l.flatten[i * es + j]? = some v
  | [], _, i, j, x, v, hx, _ => by simp at hx
  | y :: l, h, 0, j, x, v, hx, hj => by
    simp at hx; subst hx
    have := (List.getElem?_eq_some_iff.1 hj).1
    rw [List.flatten_cons, Nat.zero_mul, Nat.zero_add, List.getElem?_append_left this]; exact hj
  | y :: l, h, i + 1, j, x, v, hx, hj => by
    simp at hx
    have h1 := h y (by simp)
    rw [List.flatten_cons, List.getElem?_append_right (by rw [h1, Nat.add_mul]; omega), h1]
    rw [← flatten_get (fun z hz => h z (by simp [hz])) hx hj]
    congr 1
    rw [Nat.add_mul]; omega

theorem V.al_leaf {r a b : Nat} {v : V} (h : v.leaf = true) : v.al r a b = v := by cases v <;> simp_all [V.al, V.leaf]

theorem ArrRep.of_flat {r : Nat} {L : Loc} {els : List (List V)} {us : List Value} {c : Array Value} {T : TypeId} (hlen : els.length ≤ L.cap) (hsz : ∀ cs ∈ els, cs.length = L.es) (hlf : ∀ cs ∈ els, cs.all V.leaf = true)
    (hv : VReps w ok ρ els.flatten us) (hh : 0 < L.cap → w.heap[L.blk]? = some (.cells c T (0, 0)) ∧ L.off + L.cap * L.es ≤ c.size ∧ ∀ (j : Nat) u, us[j]? = some u → c[L.off + j]? = some u) : ArrRep w ok ρ r L els := by
  refine ⟨hlen, hsz, fun hc => ?_⟩
  obtain ⟨h1, h2, h3⟩ := hh hc
  refine ⟨c, T, h1, h2, fun i j cs v hi hj => ?_⟩
  have hf := flatten_get hsz hi hj
  obtain ⟨u, hu, hr⟩ := hv.get hf
  refine ⟨u, by rw [Nat.add_assoc]; exact h3 _ u hu, ?_⟩
  rw [V.al_leaf (List.all_eq_true.1 (hlf cs (List.mem_of_getElem? hi)) v (List.mem_of_getElem? hj))]
  exact hr

theorem BoxRep.of_leaf {r : Nat} {L : Loc} {b : Box} (hm : ∀ ents, b ≠ .mp ents) (hL : ρ r none = some L) (he : L.es = b.es) (ha : ArrRep w ok ρ r L b.elems) (hlf : ∀ cs ∈ b.elems, ∀ v ∈ cs, ∀ els, v ≠ .own els) : BoxRep w ok ρ r b L :=
  ⟨hL, fun _ => he, fun _ => ha, fun _ i j cs els hi hj => absurd rfl (hlf cs (List.mem_of_getElem? hi) _ (List.mem_of_getElem? hj) els), fun ents he => absurd he (hm ents)⟩

theorem leaf_not_own {v : V} (h : v.leaf = true) (els : List PV) : v ≠ .own els := by rintro rfl; simp [V.leaf] at h

theorem pcells_not_own {l : List PV} : ∀ cs ∈ pcells l, ∀ v ∈ cs, ∀ els, v ≠ .own els := by
  intro cs hcs v hv els
  simp only [pcells, List.mem_map] at hcs
  obtain ⟨x, _, rfl⟩ := hcs
  simp only [List.mem_map] at hv
  obtain ⟨y, _, rfl⟩ := hv
  simp

theorem pcells_flatten (l : List PV) : (pcells l).flatten = (l.flatMap PV.cells).map .p := by
  simp only [pcells, List.flatMap, List.map_flatten, List.map_map]
  rfl

/-- An array of persistent data in a block. -/
theorem ArrRep.of_p {r : Nat} {L : Loc} {els : List PV} {us : List Value} {c : Array Value} {T : TypeId} (hlen : els.length ≤ L.cap) (hsz : ∀ x ∈ els, x.cells.length = L.es)
    (hv : PReps w ok (els.flatMap PV.cells) us) (hh : 0 < L.cap → w.heap[L.blk]? = some (.cells c T (0, 0)) ∧ L.off + L.cap * L.es ≤ c.size ∧ ∀ (j : Nat) u, us[j]? = some u → c[L.off + j]? = some u) : ArrRep w ok ρ r L (pcells els) := by
  refine ⟨by simpa [pcells] using hlen, fun cs hcs => ?_, fun hc => ?_⟩
  · simp only [pcells, List.mem_map] at hcs
    obtain ⟨x, hx, rfl⟩ := hcs
    simpa using hsz x hx
  · obtain ⟨h1, h2, h3⟩ := hh hc
    refine ⟨c, T, h1, h2, fun i j cs v hi hj => ?_⟩
    have hsz' : ∀ cs ∈ pcells els, cs.length = L.es := by
      intro cs hcs
      simp only [pcells, List.mem_map] at hcs
      obtain ⟨x, hx, rfl⟩ := hcs
      simpa using hsz x hx
    have hf := flatten_get hsz' hi hj
    rw [pcells_flatten] at hf
    obtain ⟨u, hu, hr⟩ := (VReps.of_p (ρ := ρ) hv).get hf
    refine ⟨u, by rw [Nat.add_assoc]; exact h3 _ u hu, ?_⟩
    have : v.al r i j = v := by
      simp [pcells] at hi
      obtain ⟨x, _, rfl⟩ := hi
      simp at hj
      obtain ⟨y, _, rfl⟩ := hj
      rfl
    rw [this]; exact hr

theorem upd_self (ρ : Rho) (k : Nat) (L : Loc) : upd ρ k L k none = some L := by simp [upd]

theorem Fresh.mono_v {v : V} {u : Value} {ρ' : Rho} {ok' : Nat → Prop} (hm : ∀ b, ok b → ok' b ∧ w'.heap[b]? = w.heap[b]?) (hρ : ∀ r s L', ρ' r s = some L' → ρ r s = some L' ∨ r = dst) (hd : v.men dst = false) (h : VRep w ok ρ v u) : VRep w' ok' ρ' v u :=
  h.mono hm (fun r s L hmn hL => by
    rcases hρ r s L hL with h | rfl
    · exact h
    · rw [hd] at hmn; cases hmn)

theorem mens_all {k : Nat} : ∀ {l : List V}, V.men.mens k l = false → ∀ v ∈ l, v.men k = false
  | [], _, v, hv => by simp at hv
  | x :: l, h, v, hv => by
    simp only [V.men.mens, Bool.or_eq_false_iff] at h
    rcases List.mem_cons.1 hv with rfl | hv
    · exact h.1
    · exact mens_all h.2 v hv

theorem men_cellsV {k : Nat} {v : V} (h : v.men k = false) : V.men.mens k v.cellsV = false := by
  cases v with
  | p x =>
    simp only [V.cellsV]
    induction x.cells with
    | nil => rfl
    | cons a l ih => simp [V.men.mens, V.men, ih]
  | agg l => simpa [V.cellsV, V.men] using h
  | _ => simp_all [V.cellsV, V.men.mens, V.men]

/-- A variable of its own. -/
theorem snd_box {es : Nat} {x : V} {xv : Value} {t : TypeId} {s : Sem Value} (hx : VRep w (okOf w Fr ρ) ρ x xv) (hlen : x.cellsV.length = es) (hlf : x.cellsV.all V.leaf = true) (hmen : x.men dst = false) (hsg : SgRel w Fr ρ sg) (hf : Fresh ρ sg dst)
    (hs : s.run P w = .ok (.pointer (some ⟨w.heap.size, 0, none⟩)) (w.alloc (.cells xv.cells t))) :
    Res Fr ρ w sg dst true (.ptr dst 0 0) [(dst, some (.vs es [x.cellsV]))] ((do Pure.pure (Next.value (← s)) : Sem Next).run P w) := by
  have hc := hx.cells hlf
  have hlen' := hc.length
  rw [Array.length_toList] at hlen'
  obtain ⟨h1, h2, h3⟩ := hsg.repl (w' := w.alloc (.cells xv.cells t)) hf [] (by simp) ⟨w.heap.size, 0, es, 1⟩ (.vs es [x.cellsV]) rfl rfl rfl (by simp)
    (fun b hb => .inl (RowKit.Below.heap_alloc _ _ _ hb)) (fun _ => .inl (by simp)) (fun hevo => by
      refine BoxRep.of_leaf (by intro e h; cases h) (upd_self _ _ _) rfl ?_ ?_
      · refine ArrRep.of_flat (us := xv.cells.toList) (c := xv.cells) (T := t) (by simp [Box.elems]) (by simpa [Box.elems] using hlen) (by simpa [Box.elems] using hlf) ?_ (fun _ => ⟨heap_alloc_new _ _, by simp; omega, fun j u hu => by simpa using hu⟩)
        simp only [Box.elems, List.flatten_cons, List.flatten_nil, List.append_nil]
        refine VReps.mono (fun b hb => hevo.ok Fr b hb) hc (fun r s L hmn hL => ?_)
        simp only [upd, delL] at hL
        split at hL
        · rename_i e; rw [e.1, men_cellsV hmen] at hmn; cases hmn
        · simpa using hL
      · intro cs hcs v hv els
        simp only [Box.elems, List.mem_singleton] at hcs
        subst hcs
        exact leaf_not_own (List.all_eq_true.1 hlf v hv) els)
  refine ⟨_, _, _, .inl (run_value s _ _ hs), h1, .ptr (fun L hL => ?_), by simpa [killed] using h2, fun r s L h => ?_⟩
  · rw [upd_self] at hL; cases hL; simp
  · rcases h3 r s L h with h | h
    · exact .inl h
    · exact .inr ⟨rfl, h⟩

theorem run_newVar (t : TypeId) (v : Value) : (newVar t v).run P w = .ok ⟨w.heap.size, 0, none⟩ (w.alloc (.cells v.cells t)) := by
  simp [newVar, newRow]

theorem snd_op_box (t : TypeId) {es : Nat} {vals : List V} {us : List Value} {c : Prop} {v : V} {R : List Nat} {Δ : Sg} (hs : semBox dst es vals = some (c, v, R, Δ)) (hc : c)
    (hv : VReps w (okOf w Fr ρ) ρ vals us) (hmen : V.men.mens dst vals = false) (hsg : SgRel w Fr ρ sg) (hf : Fresh ρ sg dst) :
    ∃ x, us = [x] ∧ Res Fr ρ w sg dst true v Δ ((do Pure.pure (Next.value (← Instr.box t x)) : Sem Next).run P w) := by
  unfold semBox at hs
  split at hs
  · obtain ⟨x, rfl, h1⟩ := hv.inv1
    simp only [Option.some.injEq, Prod.mk.injEq] at hs; obtain ⟨rfl, rfl, rfl, rfl⟩ := hs
    exact ⟨x, rfl, snd_box (t := t) h1 hc.1 hc.2 (mens_all hmen _ (by simp)) hsg hf (by simp [Instr.box, run_newVar])⟩
  · simp at hs

theorem snd_op_alloc (t : TypeId) {es : Nat} {z : V} (hz : zeroOf P t = some z) {c : Prop} {v : V} {R : List Nat} {Δ : Sg} (hs : semBox dst es [z] = some (c, v, R, Δ)) (hc : c)
    (hmen : z.men dst = false) (hsg : SgRel w Fr ρ sg) (hf : Fresh ρ sg dst) :
    Res Fr ρ w sg dst true v Δ ((do Pure.pure (Next.value (← Instr.alloc t true (.tuple #[]))) : Sem Next).run P w) := by
  obtain ⟨zv, h1, h2⟩ := zero_rep (P := P) (w := w) (ok := okOf w Fr ρ) (ρ := ρ) hz
  simp only [semBox, Option.some.injEq, Prod.mk.injEq] at hs; obtain ⟨rfl, rfl, rfl, rfl⟩ := hs
  exact snd_box (t := t) h2 hc.1 hc.2 hmen hsg hf (by simp [Instr.alloc, h1, run_newVar])
end
end Go.DW

/- Stores, and arrays that are made. -/
namespace Go.DW
section
variable {P : Program} {Fr : Nat → Prop} {ρ : Rho} {w w' : World} {sg : Sg} {dst : Nat} {new : Bool} {ok : Nat → Prop}

theorem run_storeVar {t : TypeId} {b o : Nat} {v : Value} {cur : Array Value} {T : TypeId} (hz : sizeOfT P t = some v.cells.size) (hg : w.heap[b]? = some (.cells cur T (0, 0))) (hl : o + v.cells.size ≤ cur.size) (h1 : ∀ x ∈ v.cells.toList, x.oneCell' = true) :
    (storeVar t ⟨b, o, none⟩ v).run P w = .ok () (w.setRow b (cur.toList.take o ++ v.cells.toList ++ cur.toList.drop (o + v.cells.size)).toArray) := by
  have h := run_storeCells_at P b o T v.cells.toList 0 cur w hg (by simpa using hl) h1
  simp only [Nat.add_zero, Array.length_toList] at h
  simp [storeVar, run_sizeOf hz, h]

theorem PReps.oneCell : ∀ {l : List PV} {us : List Value}, PReps w ok l us → l.all PV.leaf = true → ∀ u ∈ us, u.oneCell' = true
  | _, _, .nil, _, u, hu => by simp at hu
  | x :: l, _, .cons h hs, hl, u, hu => by
    simp only [List.all_cons, Bool.and_eq_true] at hl
    rcases List.mem_cons.1 hu with rfl | hu
    · cases h <;> simp_all [Value.oneCell', PV.leaf]
    · exact PReps.oneCell hs hl.2 u hu

theorem VRep.oneCell {v : V} {u : Value} (h : VRep w ok ρ v u) (hl : v.leaf = true) : u.oneCell' = true := by
  cases h with
  | p h => cases h <;> simp_all [Value.oneCell', V.leaf, PV.leaf]
  | _ => simp_all [Value.oneCell', V.leaf]

theorem VReps.oneCell : ∀ {l : List V} {us : List Value}, VReps w ok ρ l us → l.all V.leaf = true → ∀ u ∈ us, u.oneCell' = true
  | _, _, .nil, _, u, hu => by simp at hu
  | _, _, .cons h hs, hl, u, hu => by
    simp only [List.all_cons, Bool.and_eq_true] at hl
    rcases List.mem_cons.1 hu with rfl | hu
    · exact h.oneCell hl.1
    · exact hs.oneCell hl.2 u hu

theorem allPn_rep : ∀ {l : List V} {xs : List PV} {us : List Value}, allPn l = some xs → VReps w ok ρ l us → PReps w ok xs us
  | [], xs, us, h, hv => by simp [allPn] at h; subst h; cases hv; exact .nil
  | .p x :: l, xs, us, h, hv => by
    simp only [allPn] at h
    cases hl : allPn l <;> simp [hl] at h
    subst h
    cases hv with
    | cons h1 hs => exact .cons h1.inv_p (allPn_rep hl hs)
  | .nils :: l, xs, us, h, hv => by
    simp only [allPn] at h
    cases hl : allPn l <;> simp [hl] at h
    subst h
    cases hv with
    | cons h1 hs => cases h1 with | nils a => exact .cons (.sl0 a 0) (allPn_rep hl hs)
  | .agg _ :: _, _, _, h, _ | .tup _ :: _, _, _, h, _ | .ptr .. :: _, _, _, h, _ | .pp _ :: _, _, _, h, _ | .os .. :: _, _, _, h, _ | .own _ :: _, _, _, h, _ | .fn .. :: _, _, _, h, _ | .mp _ :: _, _, _, h, _ | .junk :: _, _, _, h, _ => by simp [allPn] at h

/-- The cells of an element, as persistent data. -/
theorem elemP_cells {v : V} {x : PV} (h : elemP v = some x) {us : List Value} (hv : VReps w ok ρ v.cellsV us) : PReps w ok x.cells us := by
  unfold elemP at h
  split at h
  · simp at h; subst h; exact VReps.to_p (by simpa [V.cellsV] using hv)
  · simp at h; subst h
    simp only [V.cellsV] at hv
    cases hv with
    | cons h1 hs => cases h1 with | nils a => cases hs; exact .cons (.sl0 a 0) .nil
  · split at h
    · rename_i l xs hx
      simp at h; subst h
      exact allPn_rep hx hv
    · simp at h
  · simp at h

theorem allPn_length : ∀ {l : List V} {xs : List PV}, allPn l = some xs → xs.length = l.length
  | [], xs, h => by simp [allPn] at h; subst h; rfl
  | .p x :: l, xs, h => by
    simp only [allPn] at h
    cases hx : allPn l <;> simp [hx] at h
    subst h
    simp [allPn_length hx]
  | .nils :: l, xs, h => by
    simp only [allPn] at h
    cases hx : allPn l <;> simp [hx] at h
    subst h
    simp [allPn_length hx]
  | .agg _ :: _, _, h | .tup _ :: _, _, h | .ptr .. :: _, _, h | .pp _ :: _, _, h | .os .. :: _, _, h | .own _ :: _, _, h | .fn .. :: _, _, h | .mp _ :: _, _, h | .junk :: _, _, h => by simp [allPn] at h

theorem elemP_length {v : V} {x : PV} (h : elemP v = some x) : x.cells.length = v.cellsV.length := by
  unfold elemP at h
  split at h
  · simp at h; subst h; simp [V.cellsV]
  · simp at h; subst h; rfl
  · split at h
    · rename_i l _ xs hx
      simp at h; subst h
      exact allPn_length hx
    · simp at h
  · simp at h

theorem allPn_leaf : ∀ {l : List V} {xs : List PV}, allPn l = some xs → l.all V.leaf = true → xs.all PV.leaf = true
  | [], xs, h, _ => by simp [allPn] at h; subst h; rfl
  | .p x :: l, xs, h, hl => by
    simp only [allPn] at h
    cases hx : allPn l <;> simp [hx] at h
    subst h
    simp only [List.all_cons, Bool.and_eq_true, V.leaf] at hl ⊢
    exact ⟨hl.1, allPn_leaf hx hl.2⟩
  | .nils :: l, xs, h, hl => by
    simp only [allPn] at h
    cases hx : allPn l <;> simp [hx] at h
    subst h
    simp only [List.all_cons, Bool.and_eq_true] at hl ⊢
    exact ⟨rfl, allPn_leaf hx hl.2⟩
  | .agg _ :: _, _, h, _ | .tup _ :: _, _, h, _ | .ptr .. :: _, _, h, _ | .pp _ :: _, _, h, _ | .os .. :: _, _, h, _ | .own _ :: _, _, h, _ | .fn .. :: _, _, h, _ | .mp _ :: _, _, h, _ | .junk :: _, _, h, _ => by simp [allPn] at h

theorem elemP_leaf {v : V} {x : PV} (h : elemP v = some x) (hl : v.cellsV.all V.leaf = true) : x.cells.all PV.leaf = true := by
  unfold elemP at h
  split at h
  · simp at h; subst h
    simp only [V.cellsV, List.all_eq_true, List.mem_map] at hl ⊢
    exact fun y hy => hl _ ⟨y, hy, rfl⟩
  · simp at h; subst h; rfl
  · split at h
    · rename_i l xs hx
      simp at h; subst h
      exact allPn_leaf hx hl
    · simp at h
  · simp at h

theorem setP_cells (l : List PV) (j : Nat) (ys : List PV) (h : j + ys.length ≤ l.length) : (setP l j ys).cells.length = l.length ∧
    ∀ (j' : Nat) q, (setP l j ys).cells[j']? = some q → (j ≤ j' ∧ j' < j + ys.length ∧ ys[j' - j]? = some q) ∨ (¬ (j ≤ j' ∧ j' < j + ys.length) ∧ l[j']? = some q) := by
  simp only [setP, PV.cells]
  refine ⟨by simp only [List.length_append, List.length_take, List.length_drop]; omega, fun j' q hq => ?_⟩
  rw [List.append_assoc] at hq
  rcases Nat.lt_or_ge j' j with hlt | hge
  · rw [List.getElem?_append_left (by simp only [List.length_take]; omega), List.getElem?_take, if_pos hlt] at hq
    exact .inr ⟨by omega, hq⟩
  · rw [List.getElem?_append_right (by simp only [List.length_take]; omega)] at hq
    simp only [List.length_take] at hq
    rw [Nat.min_eq_left (by omega)] at hq
    rcases Nat.lt_or_ge j' (j + ys.length) with hlt | hge2
    · rw [List.getElem?_append_left (by omega)] at hq
      exact .inl ⟨hge, hlt, hq⟩
    · rw [List.getElem?_append_right (by omega), List.getElem?_drop] at hq
      refine .inr ⟨by omega, ?_⟩
      rw [← hq]; congr 1; omega

theorem setRow_size' (w : World) (g : Nat) (cs : Array Value) : (w.setRow g cs).heap.size = w.heap.size := by simp

/-- A store into owned memory. -/
theorem snd_store (t : TypeId) {alt sz : Nat} (hz : sizeOfT P t = some sz) {vals : List V} {us : List Value} {c : Prop} {v : V} {R : List Nat} {Δ : Sg} (hs : semStore alt sz vals sg = some (c, v, R, Δ)) (hc : c)
    (hv : VReps w (okOf w Fr ρ) ρ vals us) (hsg : SgRel w Fr ρ sg) :
    ∃ x y, us = [x, y] ∧ Res Fr ρ w sg dst new v Δ ((do Instr.storeAt t x y; Pure.pure Next.skip : Sem Next).run P w) := by
  have main : ∀ (r i j : Nat) (y : V) (yv : Value) (bx bx' : Box) (L : Loc), Sg.get sg r = some bx → ρ r none = some L → (∀ e, bx ≠ .mp e) → (∀ e, bx' ≠ .mp e) → VReps w (okOf w Fr ρ) ρ y.cellsV yv.cells.toList → y.cellsV.all V.leaf = true → y.cellsV.length = sz →
      i < bx.elems.length → j + sz ≤ (bx.elems.getD i []).length → BoxRep w (okOf w Fr ρ) ρ r bx L → bx'.es = bx.es →
      bx'.elems.length = bx.elems.length → (∀ cs ∈ bx'.elems, cs.length = L.es) →
      (∀ (i' j' : Nat) cs x, bx'.elems[i']? = some cs → cs[j']? = some x → (i' = i ∧ j ≤ j' ∧ j' < j + sz ∧ ∀ u, yv.cells.toList[j' - j]? = some u → VRep w (okOf w Fr ρ) ρ x u) ∨ (¬ (i' = i ∧ j ≤ j' ∧ j' < j + sz) ∧ ∃ cs0, bx.elems[i']? = some cs0 ∧ cs0[j']? = some x)) →
      (∀ (i' j' : Nat) cs x, bx'.elems[i']? = some cs → cs[j']? = some x → i' = i → j ≤ j' → j' < j + sz → x.leaf = true) →
      Res Fr ρ w sg dst new .junk [(r, some bx')] ((do Instr.storeAt t (.pointer (some ⟨L.blk, L.off + i * L.es + j, none⟩)) yv; Pure.pure Next.skip : Sem Next).run P w) := by
    intro r i j y yv bx bx' L hb hL hm hm' hy hlf hlen hi hj hbox hes' hlen' hsz' hel hleaf
    have harr := hbox.arr hm
    have hcap : 0 < L.cap := Nat.lt_of_lt_of_le (Nat.lt_of_le_of_lt (Nat.zero_le _) hi) harr.len
    obtain ⟨cur, T, h1, h2, h3⟩ := harr.mem hcap
    have hyl := hy.length
    rw [Array.length_toList] at hyl
    have hes : (bx.elems.getD i []).length = L.es := harr.sz _ (List.mem_of_getElem? (getD_get [] hi))
    have hil : i + 1 ≤ L.cap := by have := harr.len; omega
    have hmul : (i + 1) * L.es ≤ L.cap * L.es := Nat.mul_le_mul_right _ hil
    rw [Nat.add_mul] at hmul
    have hfit : L.off + i * L.es + j + yv.cells.size ≤ cur.size := by omega
    have hrun := run_storeVar (P := P) (w := w) (t := t) (b := L.blk) (o := L.off + i * L.es + j) (v := yv) (cur := cur) (T := T) (by rw [hyl, hlen]; exact hz) h1 hfit (hy.oneCell hlf)
    obtain ⟨g1, g2⟩ := hsg.set (w' := w.setRow L.blk (cur.toList.take (L.off + i * L.es + j) ++ yv.cells.toList ++ cur.toList.drop (L.off + i * L.es + j + yv.cells.size)).toArray) (bx := bx') hb hL hcap rfl rfl rfl (setRow_size' _ _ _) (fun k hk => setRow_other w _ _ _ hk) (fun hevo => by
      refine ⟨hL, fun _ => (hbox.esz hm).trans hes'.symm, fun _ => ⟨by rw [hlen']; exact harr.len, hsz', fun _ => ⟨_, T, setRow_heap w _ _ _ _ _ h1, ?_, fun i' j' cs x hi' hj' => ?_⟩⟩, fun _ i' j' cs els hi' hj' => ?_, fun ents he => absurd he (hm' ents)⟩
      · simp only [List.size_toArray, List.length_append, List.length_take, List.length_drop, Array.length_toList]; omega
      · rcases hel i' j' cs x hi' hj' with ⟨rfl, k1, k2, hx⟩ | ⟨hne, cs0, hc0, hx0⟩
        · have hu : ∃ u, yv.cells.toList[j' - j]? = some u := ⟨_, List.getElem?_eq_getElem (by simp; omega)⟩
          obtain ⟨u, hu⟩ := hu
          refine ⟨u, ?_, ?_⟩
          · have e : L.off + i' * L.es + j' = (cur.toList.take (L.off + i' * L.es + j)).length + (j' - j) := by simp; omega
            rw [e]
            simp only [List.getElem?_toArray, List.append_assoc]
            rw [List.getElem?_append_right (by omega), Nat.add_sub_cancel_left, List.getElem?_append_left (by simp; omega)]
            exact hu
          · rw [V.al_leaf (hleaf i' j' cs x hi' hj' rfl k1 k2)]
            exact (hx u hu).mono (fun b hb => hevo.ok Fr b hb) (fun _ _ _ _ h => h)
        · obtain ⟨u, hu, hr⟩ := h3 i' j' cs0 x hc0 hx0
          refine ⟨u, ?_, hr.mono (fun b hb => hevo.ok Fr b hb) (fun _ _ _ _ h => h)⟩
          have hj'e : j' < L.es := by
            have := harr.sz _ (List.mem_of_getElem? hc0)
            have h' := (List.getElem?_eq_some_iff.1 hx0).1
            omega
          rcases Nat.lt_or_ge (L.off + i' * L.es + j') (L.off + i * L.es + j) with hlt | hge
          · simp only [List.getElem?_toArray, List.append_assoc]
            rw [List.getElem?_append_left (by simp; have := (Array.getElem?_eq_some_iff.1 hu).1; omega), List.getElem?_take, if_pos hlt]
            simpa using hu
          · have hge2 : L.off + i * L.es + j + yv.cells.size ≤ L.off + i' * L.es + j' := by
              rcases Nat.lt_trichotomy i' i with h | h | h
              · have : (i' + 1) * L.es ≤ i * L.es := Nat.mul_le_mul_right _ h
                rw [Nat.add_mul] at this; omega
              · subst h; have : ¬ (j ≤ j' ∧ j' < j + sz) := fun hh => hne ⟨rfl, hh.1, hh.2⟩
                omega
              · have : (i + 1) * L.es ≤ i' * L.es := Nat.mul_le_mul_right _ h
                rw [Nat.add_mul] at this; omega
            simp only [List.getElem?_toArray, List.append_assoc]
            rw [List.getElem?_append_right (by simp; omega), List.getElem?_append_right (by simp; omega), List.getElem?_drop]
            simp only [List.length_take, Array.length_toList]
            rw [← hu, Array.getElem?_toList]
            congr 1
            have := (Array.getElem?_eq_some_iff.1 hu).1
            omega
      · rcases hel i' j' cs _ hi' hj' with ⟨rfl, k1, k2, hx⟩ | ⟨hne, cs0, hc0, hx0⟩
        · exact absurd rfl (leaf_not_own (hleaf i' j' cs _ hi' hj' rfl k1 k2) els)
        · obtain ⟨L', q1, q2⟩ := hbox.sub hm i' j' cs0 els hc0 hx0
          refine ⟨L', q1, q2.mono_p (fun b hb => hevo.ok Fr b hb) (fun hc' => setRow_other w _ _ _ (fun e => ?_))⟩
          have := hsg.inj _ _ _ _ _ _ q1 hL hc' hcap e
          cases this.2)
    refine ⟨undef, _, ρ, .inr ⟨?_, rfl⟩, g1, .junk _, g2, fun _ _ _ h => .inl h⟩
    simp [Instr.storeAt, Instr.sureAddr, hrun]
  unfold semStore at hs
  split at hs
  · rename_i r i j y
    obtain ⟨xv, yv, rfl, h1, h2⟩ := hv.inv2
    refine ⟨xv, yv, rfl, ?_⟩
    cases h1 with
    | ptr hp =>
    split at hs
    · rename_i es els hb
      obtain ⟨L, hbox⟩ := hsg.box r _ hb
      cases hp L hbox.loc
      have hesz : L.es = es := hbox.esz (by intro e h; cases h)
      have harr : ArrRep w (okOf w Fr ρ) ρ r L (pcells els) := hbox.arr (by intro e h; cases h)
      split at hs
      · rename_i x hx
        have hxl := elemP_length hx
        have body : ∀ (z : PV) (jj : Nat), z.cells.length = L.es → i < els.length → jj + sz ≤ L.es → y.cellsV.all V.leaf = true → y.cellsV.length = sz →
            (∀ (j' : Nat) q, z.cells[j']? = some q → (jj ≤ j' ∧ j' < jj + sz ∧ x.cells[j' - jj]? = some q) ∨ (¬ (jj ≤ j' ∧ j' < jj + sz) ∧ (els.getD i .nf).cells[j']? = some q)) → j = jj →
            Res Fr ρ w sg dst new .junk [(r, some (.pv es (els.set i z)))] ((do Instr.storeAt t (.pointer (some ⟨L.blk, L.off + i * L.es + j, none⟩)) yv; Pure.pure Next.skip : Sem Next).run P w) := by
          intro z jj hz1 hi hjj hlf hlen hzc hj
          subst hj
          have hcy := h2.cells hlf
          have hyp := elemP_cells hx hcy
          have hgi := getD_get (.nf : PV) hi
          have heli : (els.getD i .nf).cells.length = L.es := by
            have := harr.sz _ (List.mem_of_getElem? (pcells_get hgi)); simpa using this
          refine main r i j y yv (.pv es els) (.pv es (els.set i z)) L hb hbox.loc (by intro e h; cases h) (by intro e h; cases h) hcy hlf hlen (by simpa [Box.elems, pcells] using hi) ?_ hbox rfl (by simp [Box.elems, pcells]) ?_ ?_ ?_
          · have : (Box.pv es els).elems.getD i [] = (els.getD i .nf).cells.map .p := by
              show (pcells els).getD i [] = _
              rw [List.getD_eq_getElem?_getD, pcells_get hgi]; rfl
            rw [this, List.length_map, heli]; exact hjj
          · intro cs hcs
            simp only [Box.elems, pcells, List.mem_map] at hcs
            obtain ⟨q, hq, rfl⟩ := hcs
            rcases List.mem_or_eq_of_mem_set hq with hq | rfl
            · have := harr.sz (q.cells.map .p) (by simp only [pcells, List.mem_map]; exact ⟨q, hq, rfl⟩)
              exact this
            · simpa using hz1
          · intro i' j' cs q hi' hj'
            simp only [Box.elems, pcells, List.getElem?_map, Option.map_eq_some_iff] at hi'
            obtain ⟨e, he, rfl⟩ := hi'
            simp only [List.getElem?_map, Option.map_eq_some_iff] at hj'
            obtain ⟨q', hq', rfl⟩ := hj'
            rcases Classical.em (i = i') with rfl | hne
            · rw [List.getElem?_set_self hi] at he
              cases he
              rcases hzc j' q' hq' with ⟨k1, k2, k3⟩ | ⟨k1, k2⟩
              · refine .inl ⟨rfl, k1, k2, fun u hu => ?_⟩
                obtain ⟨u', hu', hr⟩ := hyp.get k3
                rw [hu] at hu'; cases hu'; exact .p hr
              · refine .inr ⟨fun h => k1 ⟨h.2.1, h.2.2⟩, _, pcells_get hgi, by rw [List.getElem?_map, k2]; rfl⟩
            · rw [List.getElem?_set_ne hne] at he
              exact .inr ⟨fun h => hne h.1.symm, _, pcells_get he, by simp [hq']⟩
          · intro i' j' cs q hi' hj' e1 e2 e3
            subst e1
            simp only [Box.elems, pcells, List.getElem?_map, Option.map_eq_some_iff] at hi'
            obtain ⟨e, he, rfl⟩ := hi'
            simp only [List.getElem?_map, Option.map_eq_some_iff] at hj'
            obtain ⟨q', hq', rfl⟩ := hj'
            rw [List.getElem?_set_self hi] at he
            cases he
            rcases hzc j' q' hq' with ⟨k1, k2, k3⟩ | ⟨k1, k2⟩
            · have hlp : x.cells.all PV.leaf = true := elemP_leaf hx hlf
              exact List.all_eq_true.1 hlp _ (List.mem_of_getElem? k3)
            · exact absurd ⟨e2, e3⟩ k1
        split at hs
        · simp only [Option.some.injEq, Prod.mk.injEq] at hs; obtain ⟨rfl, rfl, rfl, rfl⟩ := hs
          obtain ⟨rfl, hi, hxs, hel, hlf⟩ := hc
          have heli : (els.getD i .nf).cells.length = L.es := by
            have := harr.sz _ (List.mem_of_getElem? (pcells_get (getD_get (.nf : PV) hi))); simpa using this
          exact body x 0 (by omega) hi (by omega) hlf (by omega) (fun j' q hq => .inl ⟨Nat.zero_le _, by have := (List.getElem?_eq_some_iff.1 hq).1; omega, by simpa using hq⟩) rfl
        · simp only [Option.some.injEq, Prod.mk.injEq] at hs; obtain ⟨rfl, rfl, rfl, rfl⟩ := hs
          obtain ⟨hi, hxs, hjs, hlf⟩ := hc
          have heli : (els.getD i .nf).cells.length = L.es := by
            have := harr.sz _ (List.mem_of_getElem? (pcells_get (getD_get (.nf : PV) hi))); simpa using this
          obtain ⟨z1, z2⟩ := setP_cells (els.getD i .nf).cells j x.cells (by omega)
          exact body _ j (by omega) hi (by omega) hlf (by omega) (fun j' q hq => by
            rcases z2 j' q hq with h | h
            · exact .inl ⟨h.1, by omega, h.2.2⟩
            · exact .inr ⟨fun hh => h.1 ⟨hh.1, by omega⟩, h.2⟩) rfl
      · simp at hs
    · rename_i es els hb
      simp only [Option.some.injEq, Prod.mk.injEq] at hs; obtain ⟨rfl, rfl, rfl, rfl⟩ := hs
      obtain ⟨hi, hlen, hjs, hlf⟩ := hc
      obtain ⟨L, hbox⟩ := hsg.box r _ hb
      cases hp L hbox.loc
      have harr : ArrRep w (okOf w Fr ρ) ρ r L els := hbox.arr (by intro e h; cases h)
      have hcy := h2.cells hlf
      have hgi := getD_get ([] : List V) hi
      have heli : (els.getD i []).length = L.es := harr.sz _ (List.mem_of_getElem? hgi)
      have hesz : L.es = es := hbox.esz (by intro e h; cases h)
      have hnew : ∀ (j' : Nat) q, ((els.getD i []).take j ++ y.cellsV ++ (els.getD i []).drop (j + sz))[j']? = some q → (j ≤ j' ∧ j' < j + sz ∧ y.cellsV[j' - j]? = some q) ∨ (¬ (j ≤ j' ∧ j' < j + sz) ∧ (els.getD i [])[j']? = some q) := by
        intro j' q hq
        rw [List.append_assoc] at hq
        rcases Nat.lt_or_ge j' j with hlt | hge
        · rw [List.getElem?_append_left (by simp only [List.length_take]; omega), List.getElem?_take, if_pos hlt] at hq
          exact .inr ⟨by omega, hq⟩
        · rw [List.getElem?_append_right (by simp only [List.length_take]; omega)] at hq
          simp only [List.length_take] at hq
          rw [Nat.min_eq_left (by omega)] at hq
          rcases Nat.lt_or_ge j' (j + sz) with hlt | hge2
          · rw [List.getElem?_append_left (by omega)] at hq
            exact .inl ⟨hge, hlt, hq⟩
          · rw [List.getElem?_append_right (by omega), List.getElem?_drop] at hq
            refine .inr ⟨by omega, ?_⟩
            rw [← hq]; congr 1; omega
      refine main r i j y yv (.vs es els) (.vs es (els.set i _)) L hb hbox.loc (by intro e h; cases h) (by intro e h; cases h) hcy hlf hlen hi (by show j + sz ≤ (els.getD i []).length; omega) hbox rfl (by simp [Box.elems]) ?_ ?_ ?_
      · intro cs hcs
        rcases List.mem_or_eq_of_mem_set hcs with hq | rfl
        · exact harr.sz _ hq
        · simp only [List.length_append, List.length_take, List.length_drop]; omega
      · intro i' j' cs q hi' hj'
        simp only [Box.elems] at hi' ⊢
        rcases Classical.em (i = i') with rfl | hne
        · rw [List.getElem?_set_self hi] at hi'
          cases hi'
          rcases hnew j' q hj' with ⟨k1, k2, k3⟩ | ⟨k1, k2⟩
          · refine .inl ⟨rfl, k1, k2, fun u hu => ?_⟩
            obtain ⟨u', hu', hr⟩ := hcy.get k3
            rw [hu] at hu'; cases hu'; exact hr
          · exact .inr ⟨fun h => k1 ⟨h.2.1, h.2.2⟩, _, hgi, k2⟩
        · rw [List.getElem?_set_ne hne] at hi'
          exact .inr ⟨fun h => hne h.1.symm, _, hi', hj'⟩
      · intro i' j' cs q hi' hj' e1 e2 e3
        subst e1
        simp only [Box.elems] at hi'
        rw [List.getElem?_set_self hi] at hi'
        cases hi'
        rcases hnew j' q hj' with ⟨k1, k2, k3⟩ | ⟨k1, k2⟩
        · exact List.all_eq_true.1 hlf _ (List.mem_of_getElem? k3)
        · exact absurd ⟨e2, e3⟩ k1
    · simp at hs
  · simp at hs
end
end Go.DW
