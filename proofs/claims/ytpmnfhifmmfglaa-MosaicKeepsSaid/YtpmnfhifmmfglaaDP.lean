/- Plain words of the programs that the walks give: indexing, parts, appending, numbers of a kind. No world in sight. -/
import Derived.Laws.Wrap64
import Derived.IntWalk
set_option linter.unusedVariables false
set_option linter.unusedSimpArgs false
set_option linter.unusedSectionVars false
namespace Go.Proofs.Ytpmnfhifmmfglaa
open Go

def andI (k : IntKind) (m n : Int) : Int := k.wrap (BitVec.ofInt k.bits m &&& BitVec.ofInt k.bits n).toNat
def orI (k : IntKind) (m n : Int) : Int := k.wrap (BitVec.ofInt k.bits m ||| BitVec.ofInt k.bits n).toNat
def xorI (k : IntKind) (m n : Int) : Int := k.wrap (BitVec.ofInt k.bits m ^^^ BitVec.ofInt k.bits n).toNat
def shlI (k : IntKind) (m n : Int) : Int := k.wrap (m * 2 ^ (min n.toNat k.bits))
def shrI (k : IntKind) (m n : Int) : Int := m.fdiv (2 ^ (min n.toNat k.bits))
/-! ### Plain words of the programs that the walks give -/
def idx {α : Type} (xs : List α) (i : Int) : Option α := if 0 ≤ i then xs[i.toNat]? else none
def sli {α : Type} (xs : List α) (lo hi : Int) : Option (List α) := if 0 ≤ lo ∧ lo ≤ hi ∧ hi ≤ xs.length then some ((xs.take hi.toNat).drop lo.toNat) else none
def setL {α : Type} (xs : List α) (i : Int) (x : α) : Option (List α) := if 0 ≤ i ∧ i < xs.length then some (xs.set i.toNat x) else none
def app {α : Type} (b : Nat) (xs ys : List α) : Option (List α) := if (xs.length + ys.length) * b ≤ 140737488355328 then some (xs ++ ys) else none
def mk {α : Type} (b : Nat) (n : Int) (z : α) : Option (List α) := if 0 ≤ n ∧ n * b ≤ 281474976710656 then some (List.replicate n.toNat z) else none
def quoO (k : IntKind) (m n : Int) : Option Int := if n = 0 then none else some (k.wrap (m.tdiv n))
def remO (m n : Int) : Option Int := if n = 0 then none else some (m.tmod n)

theorem obind {α β : Type} {e : Option α} {f : α → Option β} {r : β} (h : e.bind f = some r) : ∃ x, e = some x ∧ f x = some r := by
  cases e with
  | none => cases h
  | some x => exact ⟨x, rfl, h⟩
theorem olet {α β : Type} {e : α} {f : α → Option β} {r : β} (h : (some e).bind f = some r) : ∃ x, e = x ∧ f x = some r := ⟨e, rfl, h⟩
theorem ctrue {β : Type} {b : Bool} {x y r : β} (hb : b = true) (h : cond b x y = r) : x = r := by subst hb; exact h
theorem cfalse {β : Type} {b : Bool} {x y r : β} (hb : b = false) (h : cond b x y = r) : y = r := by subst hb; exact h
theorem idx_spec {α : Type} {xs : List α} {i : Int} {x : α} (h : idx xs i = some x) : 0 ≤ i ∧ i.toNat < xs.length ∧ xs[i.toNat]? = some x := by
  unfold idx at h
  split at h
  · rename_i h0; exact ⟨h0, (List.getElem?_eq_some_iff.1 h).1, h⟩
  · cases h

def bs (l : List UInt8) : ByteArray := ⟨l.toArray⟩
def nz (n : Int) : Option Unit := if n = 0 then none else some ()
def nn (n : Int) : Option Unit := if 0 ≤ n then some () else none
def inr (i : Int) (n : Nat) : Option Unit := if 0 ≤ i ∧ i < n then some () else none
def mok (b : Nat) (n : Int) : Option Unit := if 0 ≤ n ∧ n * b ≤ 281474976710656 then some () else none
theorem nz_spec {n : Int} {u : Unit} (h : nz n = some u) : n ≠ 0 := by unfold nz at h; split at h; cases h; assumption
theorem nn_spec {n : Int} {u : Unit} (h : nn n = some u) : 0 ≤ n := by unfold nn at h; split at h; assumption; cases h
theorem inr_spec {i : Int} {n : Nat} {u : Unit} (h : inr i n = some u) : 0 ≤ i ∧ i < n := by unfold inr at h; split at h; assumption; cases h
theorem mok_spec {b : Nat} {n : Int} {u : Unit} (h : mok b n = some u) : 0 ≤ n ∧ n * b ≤ 281474976710656 := by unfold mok at h; split at h; assumption; cases h
section
variable {α : Type} {xs ys zs : List α} {n : Int} {b : Nat} {z el : α}
theorem sli_spec {p q : Int} (h : sli xs p q = some ys) : 0 ≤ p ∧ p ≤ q ∧ q ≤ xs.length ∧ ys = (xs.take q.toNat).drop p.toNat := by
  unfold sli at h
  split at h
  · rename_i hh; exact ⟨hh.1, hh.2.1, hh.2.2, (Option.some.inj h).symm⟩
  · cases h
theorem app_spec {b : Nat} {zs : List α} (h : app b xs ys = some zs) : zs = xs ++ ys ∧ (xs.length + ys.length) * b ≤ 140737488355328 := by
  unfold app at h
  split at h
  · rename_i h0; exact ⟨(Option.some.inj h).symm, h0⟩
  · cases h
theorem mk_spec {b : Nat} {z : α} (h : mk b n z = some ys) : 0 ≤ n ∧ n * b ≤ 281474976710656 ∧ ys = List.replicate n.toNat z := by
  unfold mk at h
  split at h
  · rename_i h0; exact ⟨h0.1, h0.2, (Option.some.inj h).symm⟩
  · cases h
theorem setL_spec {el : α} (h : setL xs n el = some ys) : 0 ≤ n ∧ n.toNat < xs.length ∧ ys = xs.set n.toNat el := by
  unfold setL at h
  split at h
  · rename_i h0; exact ⟨h0.1, by omega, (Option.some.inj h).symm⟩
  · cases h
end
end Go.Proofs.Ytpmnfhifmmfglaa
