/- At every type the program's SizeOf tells what the reference's tells, for all whole numbers of 64 bits. -/
import Derived.Test.YtnogjankhacdpaaPFnExactSizeOfx1
namespace Go.Proofs.Ytnogjankhacdpaa.Pure
open Go.RowKit Go.Proofs.Ytnogjankhacdpaa.PFnExactSizeOf Go.Proofs.YtnogjankhacdpaaW.PrintWords Go.Proofs.YtnogjankhacdpaaW.PrintLast

theorem FnExactSizeOf : laws_FnExactSizeOf.Pure := by
  intro a0 _
  refine ⟨1, ?_⟩
  have e : ∃ b, impl_SizeOf.f 1 a0 = some b ∧ spec_SizeOf.f a0 = some b := by
    by_cases h1 : a0 = 1
    · subst h1
      exact ⟨1, by decide +kernel, by decide +kernel⟩
    by_cases h8 : a0 = 8
    · subst h8
      exact ⟨1, by decide +kernel, by decide +kernel⟩
    by_cases h16 : a0 = 16
    · subst h16
      exact ⟨2, by decide +kernel, by decide +kernel⟩
    by_cases h32 : a0 = 32
    · subst h32
      exact ⟨4, by decide +kernel, by decide +kernel⟩
    by_cases h64 : a0 = 64
    · subst h64
      exact ⟨8, by decide +kernel, by decide +kernel⟩
    by_cases h65 : a0 = 65
    · subst h65
      exact ⟨8, by decide +kernel, by decide +kernel⟩
    have g64 : (a0 == 64) = false := by simpa using h64
    have g8 : (a0 == 8) = false := by simpa using h8
    refine ⟨0, ?_, ?_⟩
    · simp only [impl_SizeOf.f, impl_SizeOf.j0, if_neg h1, if_neg h16, if_neg h32, if_neg h64, if_neg h65, g8]
      rfl
    · simp only [spec_SizeOf.f, spec_ValidWidth.f, if_neg h1, if_neg h8, if_neg h16, if_neg h32, if_neg h65, g64, Option.bind_some]
      rfl
  obtain ⟨b, hi, hs⟩ := e
  unfold laws_FnExactSizeOf.f
  rw [hi, hs]
  simp

end Go.Proofs.Ytnogjankhacdpaa.Pure
