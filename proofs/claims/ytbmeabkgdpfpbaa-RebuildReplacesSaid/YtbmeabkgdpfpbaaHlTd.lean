/- Part of a proof: walks of functions of the program, by contracts. By an AI agent. -/
import Derived.Test.YtbmeabkgdpfpbaaHlTc
import Derived.Test.YtbmeabkgdpfpbaaHlTop
import Derived.Test.YtbmeabkgdpfpbaaRows
set_option linter.unusedSimpArgs false
set_option linter.unusedVariables false
namespace Go.Proofs.Ytbmeabkgdpfpbaa
open Go Go.Hl Go.Pl

theorem list_choose {α : Type} {f : α → CV} {Q : α → Prop} : ∀ (l : List CV), (∀ x ∈ l, ∃ y, x = f y ∧ Q y) → ∃ m : List α, l = m.map f ∧ ∀ y ∈ m, Q y
  | [], _ => ⟨[], rfl, by simp⟩
  | x :: l, h => by
    obtain ⟨y, rfl, hy⟩ := h x (by simp)
    obtain ⟨m, rfl, hm⟩ := list_choose l (fun x hx => h x (by simp [hx]))
    exact ⟨y :: m, rfl, fun z hz => by rcases List.mem_cons.1 hz with rfl | hz; exact hy; exact hm z hz⟩

theorem of_dig {c : CV} (h : HasTy Try.prog 24 c) : ∃ d : Dig, c = dg d := by
  obtain ⟨l, rfl, hl, hn⟩ := h.of_arr Try.underlying24
  obtain ⟨m, rfl, _⟩ := list_choose (f := fun b : UInt8 => CV.int .u8 b.toNat) (Q := fun _ => True) l (fun x hx => by
    obtain ⟨n, rfl, hw⟩ := (hl x hx).of_int Try.underlying5
    have hb : 0 ≤ n ∧ n ≤ 255 := by simpa [Lit.wf, IntKind.min, IntKind.max, IntKind.signed, IntKind.bits] using hw
    refine ⟨UInt8.ofNat n.toNat, ?_, trivial⟩
    congr 1
    have : (UInt8.ofNat n.toNat).toNat = n.toNat := by rw [UInt8.toNat_ofNat']; exact Nat.mod_eq_of_lt (by omega)
    rw [this]; omega)
  exact ⟨⟨m, by simpa using hn⟩, rfl⟩
theorem of_subject {c : CV} (h : HasTy Try.prog 26 c) : ∃ s r o : Dig, c = .agg [dg s, dg r, dg o] := by
  obtain ⟨l, rfl, hn, hl⟩ := h.of_struct Try.underlying26
  match l, hn, hl with
  | [a, b, c], _, hl =>
    obtain ⟨s, rfl⟩ := of_dig (hl 0 _ a rfl rfl)
    obtain ⟨r, rfl⟩ := of_dig (hl 1 _ b rfl rfl)
    obtain ⟨o, rfl⟩ := of_dig (hl 2 _ c rfl rfl)
    exact ⟨s, r, o, rfl⟩
theorem i64_of_wf {n : Int} (hw : (Lit.int .i64 n).wf = true) : -9223372036854775808 ≤ n ∧ n ≤ 9223372036854775807 := by simpa [Lit.wf, IntKind.min, IntKind.max, IntKind.signed, IntKind.bits] using hw
theorem of_report {c : CV} (h : HasTy Try.prog 44 c) : ∃ p : Rp, c = p.cv := by
  obtain ⟨l, rfl, hn, hl⟩ := h.of_struct Try.underlying44
  match l, hn, hl with
  | [a, b], _, hl =>
    obtain ⟨s, r, o, rfl⟩ := of_subject (hl 0 _ a rfl rfl)
    obtain ⟨n, rfl, hw⟩ := (hl 1 _ b rfl rfl).of_int Try.underlying2
    exact ⟨⟨s, r, o, n⟩, rfl⟩
theorem of_rebuilt {c : CV} (h : HasTy Try.prog 46 c) : ∃ x : Rb, c = x.cv ∧ x.w.length ≤ maxLen := by
  obtain ⟨l, rfl, hn, hl⟩ := h.of_struct Try.underlying46
  match l, hn, hl with
  | [a, b], _, hl =>
    obtain ⟨w, rfl, hw⟩ := (hl 0 _ a rfl rfl).of_str Try.underlying9
    obtain ⟨p, rfl⟩ := of_report (hl 1 _ b rfl rfl)
    exact ⟨⟨w, p⟩, rfl, hw⟩
theorem of_rebuilts {c : CV} (h : HasTy Try.prog 22 c) : ∃ l : List Rb, c = .slc (l.map Rb.cv) ∧ (∀ x ∈ l, x.w.length ≤ maxLen) ∧ l.length ≤ maxLen := by
  obtain ⟨l, rfl, hl, hn⟩ := h.of_slc Try.underlying22
  obtain ⟨m, rfl, hm⟩ := list_choose (f := Rb.cv) (Q := fun x => x.w.length ≤ maxLen) l (fun x hx => of_rebuilt (hl x hx))
  exact ⟨m, rfl, hm, by simpa using hn⟩
theorem of_ints3 {c : CV} (h : HasTy Try.prog 27 c) : ∃ a b d : Int, c = .agg [.int .i64 a, .int .i64 b, .int .i64 d] ∧ (Lit.int .i64 a).wf = true := by
  obtain ⟨l, rfl, hl, hn⟩ := h.of_arr Try.underlying27
  match l, hn, hl with
  | [x, y, z], _, hl =>
    obtain ⟨a, rfl, ha⟩ := (hl x (by simp)).of_int Try.underlying3
    obtain ⟨b, rfl, _⟩ := (hl y (by simp)).of_int Try.underlying3
    obtain ⟨d, rfl, _⟩ := (hl z (by simp)).of_int Try.underlying3
    exact ⟨a, b, d, rfl, ha⟩

theorem of_ints {c : CV} (h : HasTy Try.prog 36 c) : ∃ L : List Int, c = .slc (L.map (.int .i64)) ∧ (∀ n ∈ L, (Lit.int .i64 n).wf = true) ∧ L.length ≤ maxLen := by
  obtain ⟨l, rfl, hl, hn⟩ := h.of_slc Try.underlying36
  obtain ⟨m, rfl, hm⟩ := list_choose (f := CV.int .i64) (Q := fun n => (Lit.int .i64 n).wf = true) l (fun x hx => (hl x hx).of_int Try.underlying3)
  exact ⟨m, rfl, hm, by simpa using hn⟩

theorem own : ownKnob Try.prog.godebug = none := by kernel_rfl
theorem kids : Kids Try.prog (· < Try.prog.types.size) := kids_rows (by kernel_rfl) (by kernel_rfl)
theorem slicesFull : ∀ t e, t < Try.prog.types.size → Try.prog.underlying t = some (.slice e) → 0 < Try.prog.cellsOf e := slices_full_of Try.prog (by kernel_rfl)
end Go.Proofs.Ytbmeabkgdpfpbaa
