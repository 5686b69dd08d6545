/- Laws on which the proofs of this seat stand. No condition. -/
import Derived.Test.YtbkdjlahhcofmaaGreatDoorTrStr6
namespace Go.Proofs.YtbkdjlahhcofmaaGreatDoor
open Go Go.RowKit Go.Proofs Go.Shelf Go.Ab
section
variable {W : World}
theorem opens_rulw : Opens Tryz.prog W 44 (fun r : { r : Rule // I64 (lR r) } => ruleF r.1) := (opens_st Tryz.underlying44 (by kernel_rfl) (ofs_cons (s := 1) (by kernel_rfl) rfl opens_w (ofs_cons (s := 1) (by kernel_rfl) rfl opens_w (ofs_cons (s := 1) (by kernel_rfl) rfl opens_w (ofs_cons (s := 1) (by kernel_rfl) rfl opens_w (ofs_cons (s := 1) (by kernel_rfl) rfl opens_w ofs_nil)))))).map (fun p => ⟨⟨p.1.1, p.2.1.1, p.2.2.1.1, p.2.2.2.1.1, p.2.2.2.2.1.1⟩, fun z hz => by
    have h0 := p.1.2
    have h1 := p.2.1.2
    have h2 := p.2.2.1.2
    have h3 := p.2.2.2.1.2
    have h4 := p.2.2.2.2.1.2
    unfold InW at h0 h1 h2 h3 h4
    unfold lR at hz
    simp only [List.mem_cons, List.not_mem_nil, or_false] at hz
    rcases hz with rfl | rfl | rfl | rfl | rfl <;> omega⟩) fun _ => rfl
theorem opens_hitw : Opens Tryz.prog W 50 (fun h : { h : Hit // I64 (lH h) } => hitF h.1) := (opens_st Tryz.underlying50 (by kernel_rfl) (ofs_cons (s := 1) (by kernel_rfl) rfl opens_w (ofs_cons (s := 1) (by kernel_rfl) rfl opens_w (ofs_cons (s := 1) (by kernel_rfl) rfl opens_w ofs_nil)))).map (fun p => ⟨⟨p.1.1, p.2.1.1, p.2.2.1.1⟩, fun z hz => by
    have h0 := p.1.2
    have h1 := p.2.1.2
    have h2 := p.2.2.1.2
    unfold InW at h0 h1 h2
    unfold lH at hz
    simp only [List.mem_cons, List.not_mem_nil, or_false] at hz
    rcases hz with rfl | rfl | rfl <;> omega⟩) fun _ => rfl
end
end Go.Proofs.YtbkdjlahhcofmaaGreatDoor
