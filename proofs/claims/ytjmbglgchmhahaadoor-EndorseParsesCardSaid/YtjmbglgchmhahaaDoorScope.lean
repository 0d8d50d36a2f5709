/- A scope through which the run goes back to one label, with an invariant that is told where the label is met, and bears a number that every pass lowers. -/
import Derived.ScopeJumps
import Derived.WalkMore
import Derived.Deep.LoopGhost
namespace Go.Proofs.PrintScope
open Go

def Closed (P : Program) (body : Code) (l : Nat) (Q : Exit → Act → World → Prop) (I : Nat → Act → World → Prop) : Prop :=
  ∀ n a w, I n a w → body.wp P (Exit.jump l (fun a' w' => ∃ n', n' < n ∧ I n' a' w') Q) a w
def LabJ (P : Program) (body : Code) (l : Nat) (Q : Exit → Act → World → Prop) : Act → World → Prop :=
  fun a w => ∃ I n, I n a w ∧ Closed P body l Q I

theorem jump_ret {l : Nat} {J : Act → World → Prop} {Q : Exit → Act → World → Prop} {a : Act} {w : World} (h : Q .ret a w) : Exit.jump l J Q .ret a w := h

theorem jump_mono {l : Nat} {J J' : Act → World → Prop} {Q : Exit → Act → World → Prop} (h : ∀ a w, J a w → J' a w) : ∀ e a w, Exit.jump l J Q e a w → Exit.jump l J' Q e a w := by
  intro e a w hq
  cases e with
  | goto l' => exact ⟨hq.1, h _ _ hq.2⟩
  | normal => exact hq
  | exit id => exact hq
  | ret => exact hq
  | panic ch => exact hq
  | outgrown => exact hq

theorem wp_scope_inv {P : Program} {Q : Exit → Act → World → Prop} {a : Act} {w : World} {c body : Code} (l : Nat) (hf : findLabel c l = some (Code.skip.seq body))
    (first : c.wp P (Exit.jump l (LabJ P body l Q) Q) a w) : (Code.scope c).wp P Q a w := by
  let p : Act → World → Nat → Prop := fun a w n => ∃ I, I n a w ∧ Closed P body l Q I
  refine wp_scope_jumps l (LabJ P body l Q) (fun a w => leastOf (p a w)) hf first ?_
  intro a w hJ
  have hJ' : ∃ n, p a w n := by obtain ⟨I, n, h⟩ := hJ; exact ⟨n, I, h⟩
  obtain ⟨⟨I, hI, hC⟩, hmin⟩ := leastOf_spec hJ'
  refine wp_seq (wp_skip ?_)
  refine wp_mono (hC _ a w hI) ?_
  refine jump_mono ?_
  rintro a' w' ⟨n', hlt, hI'⟩
  have hp : p a' w' n' := ⟨I, hI', hC⟩
  exact ⟨⟨I, n', hI', hC⟩, Nat.lt_of_le_of_lt ((leastOf_spec ⟨n', hp⟩).2 n' hp) hlt⟩

theorem wp_label_inv {P : Program} {Q : Exit → Act → World → Prop} {a : Act} {w : World} {body : Code} {l : Nat} (I : Nat → Act → World → Prop) (n₀ : Nat) (h₀ : I n₀ a w)
    (round : ∀ n a w, I n a w → ∀ J : Act → World → Prop, (∀ a' w', (∃ n', n' < n ∧ I n' a' w') → J a' w') → body.wp P (Exit.jump l J Q) a w) :
    body.wp P (Exit.jump l (LabJ P body l Q) Q) a w := by
  have hC : Closed P body l Q I := fun n a w h => round n a w h _ (fun _ _ x => x)
  refine wp_mono (hC n₀ a w h₀) (jump_mono ?_)
  rintro a' w' ⟨n', _, h⟩
  exact ⟨I, n', h, hC⟩
/-- A text that is written out: its length. -/
theorem size_mk (a : Array UInt8) : (⟨a⟩ : ByteArray).size = a.size := rfl
end Go.Proofs.PrintScope
