import Derived.Test.YtpgpfcplchaleaaM4
set_option linter.unusedVariables false
set_option linter.unusedSimpArgs false
namespace Go.Proofs.Ytpgpfcplchaleaa
open Slk
instance : ReadsAs Try.prog 70 PortC := ReadsAs.structG 0 (by kernel_rfl) rfl (ReadsG.cons 0 (ReadsG.cons 1 (ReadsG.last 2 (by decide))))
instance : ReadsAs Try.prog 66 VlanC := ReadsAs.structG 0 (by kernel_rfl) rfl (ReadsG.cons 0 (ReadsG.cons 1 (ReadsG.last 2 (by decide))))
instance : ReadsAs Try.prog 72 StatC := ReadsAs.structG 0 (by kernel_rfl) rfl (ReadsG.cons 0 (ReadsG.cons 1 (ReadsG.last 2 (by decide))))
instance : ReadsAs Try.prog 64 EditC := ReadsAs.structG 0 (by kernel_rfl) rfl (ReadsG.cons 0 (ReadsG.cons 1 (ReadsG.cons 2 (ReadsG.cons 3 (ReadsG.cons 4 (ReadsG.cons 5 (ReadsG.last 6 (by decide))))))))
instance : ReadsAs Try.prog 26 ConfC := ReadsAs.structG 0 (by kernel_rfl) rfl (ReadsG.cons 0 (ReadsG.cons 1 (ReadsG.cons 2 (ReadsG.cons 3 (ReadsG.cons 4 (ReadsG.last 5 (by decide)))))))
theorem conf_open {D : Nat → Prop} {w0 : World} {c : ConfC} {cs : List Value} (k : Old D w0 (Rep.rep c cs)) : ∃ Ap cp Av cv As cx, cs = cfgV c (.slice Ap c.2.2.2.1.length cp) (.slice Av c.2.2.2.2.1.length cv) (.slice As c.2.2.2.2.2.length cx) ∧
    (c.2.2.2.1.length ≤ 1000 → c.2.2.2.2.1.length ≤ 1000 → c.2.2.2.2.2.length ≤ 1000 → ConfOld D w0 c (.slice Ap c.2.2.2.1.length cp) (.slice Av c.2.2.2.2.1.length cv) (.slice As c.2.2.2.2.2.length cx)) := by
  obtain ⟨h, hh, c1, d1, rfl, ⟨rfl, ia⟩, c2, d2, rfl, ⟨rfl, ib⟩, c3, d3, rfl, ⟨rfl, ic⟩, c4, d4, rfl, ⟨Ap, cp, rfl, hp⟩, c5, c6, rfl, ⟨Av, cv, rfl, hv⟩, ⟨As, cx, rfl, hs⟩⟩ := k
  exact ⟨Ap, cp, Av, cv, As, cx, rfl, fun l1 l2 l3 => ⟨ia, ib, ic, ⟨h, hh, Ap, cp, rfl, hp⟩, ⟨h, hh, Av, cv, rfl, hv⟩, ⟨h, hh, As, cx, rfl, hs⟩, l1, l2, l3⟩⟩
end Go.Proofs.Ytpgpfcplchaleaa
