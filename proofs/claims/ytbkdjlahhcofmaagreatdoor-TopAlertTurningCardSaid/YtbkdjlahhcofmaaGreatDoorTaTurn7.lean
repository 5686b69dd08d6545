/- Laws on which the proofs of this seat stand. No condition. -/
import Derived.Test.YtbkdjlahhcofmaaGreatDoorTaTurn6
namespace Go.Proofs.YtbkdjlahhcofmaaGreatDoor
open Go Go.RowKit Go.Proofs Go.Shelf Go.Ab
section
variable {W : World}
theorem opens_ints : Opens Tryz.prog W 29 (fun l : List Int => [.sl l.length (intsF l)]) := (opens_sl (s := 1) Tryz.underlying29 (by kernel_rfl) (by decide) opens_i).map id fun l => by rw [sq_map]; rfl
theorem opens_sky : Opens Tryz.prog W 79 (fun l : List Int => [.sl l.length (intsF l)]) := (opens_st Tryz.underlying79 (by kernel_rfl) (ofs_cons (s := 1) (by kernel_rfl) rfl opens_ints (ofs_nil))).map (fun p => p.1) fun _ => rfl
theorem opens_pt : Opens Tryz.prog W 131 (fun p : Pt => [iv p.height, iv p.turn]) := (opens_st Tryz.underlying131 (by kernel_rfl) (ofs_cons (s := 1) (by kernel_rfl) rfl opens_i (ofs_cons (s := 1) (by kernel_rfl) rfl opens_i (ofs_nil)))).map (fun p => ⟨p.1, p.2.1⟩) fun _ => rfl
theorem opens_sn : Opens Tryz.prog W 150 snF := (opens_st Tryz.underlying150 (by kernel_rfl) (ofs_cons (s := 2) (by kernel_rfl) rfl opens_pt (ofs_cons (s := 1) (by kernel_rfl) rfl opens_i (ofs_nil)))).map (fun p => ⟨p.1, p.2.1⟩) fun _ => rfl
theorem opens_sns : Opens Tryz.prog W 132 (fun l : List Sn => [.sl l.length (snsF l)]) := opens_sl (s := 3) Tryz.underlying132 (by kernel_rfl) (by decide) opens_sn
theorem opens_src : Opens Tryz.prog W 134 (fun c : Pt × List Int × List Sn => [iv c.1.height, iv c.1.turn, .sl c.2.1.length (intsF c.2.1), .sl c.2.2.length (snsF c.2.2)]) := (opens_st Tryz.underlying134 (by kernel_rfl) (ofs_cons (s := 2) (by kernel_rfl) rfl opens_pt (ofs_cons (s := 1) (by kernel_rfl) rfl opens_ints (ofs_cons (s := 1) (by kernel_rfl) rfl opens_sns (ofs_nil))))).map (fun p => ⟨p.1, p.2.1, p.2.2.1⟩) fun _ => rfl
end
end Go.Proofs.YtbkdjlahhcofmaaGreatDoor
