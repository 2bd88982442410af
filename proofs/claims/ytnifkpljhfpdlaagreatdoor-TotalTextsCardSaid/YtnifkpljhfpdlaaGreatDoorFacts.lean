/- What is proved: closed facts of this program's text, by the kernel. No condition. -/
import Derived.Test.YtnifkpljhfpdlaaGreatDoorLib
import Derived.KernelRfl
import Derived.Test.YtnifkpljhfpdlaaGreatDoorProg
set_option linter.unusedVariables false
set_option linter.unusedSimpArgs false
namespace Go.Ab
open Go.Proofs
theorem mx : Tryz.prog.follows .mixedOrders = true := by kernel_rfl
theorem zz : Tryz.prog.types.toList.all zeroOkB = true := by kernel_rfl
theorem ff : Tryz.prog.types.toList.all (fieldsOkB Tryz.prog) = true := by kernel_rfl
theorem cc : Tryz.prog.funcs.toList.all (funcOkB ⟨Tryz.prog, ctxOf Tryz.prog, noStub⟩) = true := by kernel_rfl
end Go.Ab
namespace Go.Ab
open Go.Proofs
theorem goodC (st : Stub) : GoodC ⟨Tryz.prog, ctxOf Tryz.prog, st⟩ := goodC_of mx zz ff cc
def zi (n : Int) : Value := .int .i64 n
def zp (b o : Nat) : Value := .pointer (some ⟨b, o, none⟩)
def zs (b o l c : Nat) : Value := .slice (some ⟨b, o, none⟩) l c
def za (l : List Value) : Value := .agg ⟨l⟩
def zu (l : List Value) : Value := .tuple ⟨l⟩
def zf (f : Nat) (a b : List Value) : Value := .func (.func f) ⟨a⟩ ⟨b⟩
def zt (l : List Nat) : Value := .string ⟨⟨l.map UInt8.ofNat⟩⟩
def tabOf : List (Nat × List Memo) → T (List Memo)
  | [] => .leaf
  | (f, l) :: r => (tabOf r).put f (some l)
def StandsL (P : Program) (Γ : Ctx) (f : Nat) : List Memo → Prop
  | [] => True
  | m :: l => (m.f = f ∧ Stands P Γ m) ∧ StandsL P Γ f l
def StandsAll (P : Program) (Γ : Ctx) : List (Nat × List Memo) → Prop
  | [] => True
  | (f, l) :: r => StandsL P Γ f l ∧ StandsAll P Γ r
section
variable {P : Program} {Γ : Ctx}
theorem sa0 : StandsAll P Γ [] := trivial
theorem sa1 {f : Nat} {l : List Memo} {r : List (Nat × List Memo)} (h : StandsL P Γ f l) (k : StandsAll P Γ r) : StandsAll P Γ ((f, l) :: r) := ⟨h, k⟩
theorem sl0 {f : Nat} : StandsL P Γ f [] := trivial
theorem sl1 {f : Nat} {m : Memo} {l : List Memo} (e : m.f = f) (h : Stands P Γ m) (k : StandsL P Γ f l) : StandsL P Γ f (m :: l) := ⟨⟨e, h⟩, k⟩
theorem standsL_mem {f : Nat} : ∀ {l : List Memo}, StandsL P Γ f l → ∀ m, m ∈ l → m.f = f ∧ Stands P Γ m
  | [], _, _, hm => by cases hm
  | x :: l, h, m, hm => by
    rcases List.mem_cons.1 hm with rfl | hm
    · exact h.1
    · exact standsL_mem h.2 m hm
theorem tabOf_ok : ∀ {t : List (Nat × List Memo)}, StandsAll P Γ t → ∀ f l m, (tabOf t).get f = some l → m ∈ l → m.f = f ∧ Stands P Γ m
  | [], _, f, l, m, h, _ => by simp [tabOf, T.get] at h
  | (f0, l0) :: r, hs, f, l, m, h, hm => by
    simp only [tabOf] at h
    rw [T.get_put] at h
    split at h
    · rename_i e
      cases h; subst e
      exact standsL_mem hs.1 m hm
    · exact tabOf_ok hs.2 f l m h hm
end
end Go.Ab
