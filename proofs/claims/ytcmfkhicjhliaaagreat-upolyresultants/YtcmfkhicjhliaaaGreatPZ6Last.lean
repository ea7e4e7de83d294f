/- UpolyResultants holds: for every input the law returns true, and each argument reads afterwards as it read before. No condition. -/
import Derived.Test.YtcmfkhicjhliaaaGreatPZ621
set_option linter.unusedSimpArgs false
namespace Go.AM
open Go.Proofs Go.Deep Go.ChangeShapes Go.WideShapes Go.ChangeAt Go.RowKit
set_option maxRecDepth 100000 in
theorem upolyResultants_holds:YtcmfkhicjhliaaaGreat.Rows.UpolyResultantsSaid :=
 OpenClaim.holds_of_wide 8 Tryz.f8 rfl rfl rfl rfl rfl rfl rfl ⟨rfl,rfl,rfl,rfl,rfl⟩ rfl rfl rfl rfl rfl (by kernel_rfl) Tryz.func8 (by kernel_rfl)
  (of_decide_eq_true (by kernel_rfl)) (by unfold Func.isWrapper;rw[if_neg (of_decide_eq_false (by kernel_rfl))];exact⟨rfl,rfl⟩)
  (fun os started H enc _=>returnsInHanded_of_change (C:=Tryz.checked) own started (by kernel_rfl) Tryz.func8
   (ChangeSpec.witness6 (enc:=enc) (C:=Tryz.checked) false ⟨#[],#[.agg #[.slice none 0 0,.slice none 0 0,.slice none 0 0,.slice none 0 0,.slice none 0 0,.slice none 0 0],.slice none 0 0,.bool false],[]⟩ 8 (by kernel_rfl) (by kernel_rfl) (by kernel_rfl) (by kernel_rfl))
   (fun W base args ds gs before h1 h2 _ _=>Ip (s:=YtcmfkhicjhliaaaGreat.Rows.upolyResultantsSpec) rfl rfl (by
     intro t ht;rw[Tryz.params8]at ht;simp only[List.mem_cons,List.not_mem_nil,or_false,or_self]at ht;rcases ht with rfl|rfl|rfl
     ·exact rd56
     ·exact rd22
     ·exact rd4) (by
    intro W base args ds p hval hA;rw[Tryz.params8]at hA hval;obtain⟨v0,v1,v2,d0,d1,d2,p0,p1,p2,rfl,rfl,rfl,h0,h1,h2⟩:=trodAll_three hA;obtain⟨x,y,z,⟨kx,ky,kz⟩,rx⟩:=repA (hval 0 56 v0 rfl rfl) h0;obtain⟨b,kb,rb⟩:=repL (okWide_slice Tryz.underlying22 (hval 1 22 v1 rfl rfl)) h1;obtain⟨one,rfl⟩:=okWide_bool Tryz.underlying4 (hval 2 4 v2 rfl rfl);exact⟨⟨_,tM x y z b one kx ky kz kb,rx,rb,repB one,trivial⟩,rfl,rfl,rfl⟩) W base args ds gs before h1 h2))
end Go.AM
namespace Go.Proofs.YtcmfkhicjhliaaaGreat
theorem upolyResultants_holds:Rows.UpolyResultantsSaid:=Go.AM.upolyResultants_holds
end Go.Proofs.YtcmfkhicjhliaaaGreat
