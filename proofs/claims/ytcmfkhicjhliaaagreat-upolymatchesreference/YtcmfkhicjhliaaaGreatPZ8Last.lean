/- UpolyMatchesReference holds: for every input the law returns true, and each argument reads afterwards as it read before. No condition. -/
import Derived.Test.YtcmfkhicjhliaaaGreatPZ821
set_option linter.unusedSimpArgs false
namespace Go.AM
open Go.Proofs Go.Deep Go.ChangeShapes Go.WideShapes Go.ChangeAt Go.RowKit
set_option maxRecDepth 100000 in
theorem upolyMatchesReference_holds:YtcmfkhicjhliaaaGreat.Rows.UpolyMatchesReferenceSaid :=
 OpenClaim.holds_of_wide 10 Tryz.f10 rfl rfl rfl rfl rfl rfl rfl ⟨rfl,rfl,rfl,rfl,rfl⟩ rfl rfl rfl rfl rfl (by kernel_rfl) Tryz.func10 (by kernel_rfl)
  (of_decide_eq_true (by kernel_rfl)) (by unfold Func.isWrapper;rw[if_neg (of_decide_eq_false (by kernel_rfl))];exact⟨rfl,rfl⟩)
  (fun os started H enc _=>returnsInHanded_of_change (C:=Tryz.checked) own started (by kernel_rfl) Tryz.func10
   (ChangeSpec.witness6 (enc:=enc) (C:=Tryz.checked) false ⟨#[],#[.slice none 0 0,.slice none 0 0,.agg #[.slice none 0 0,.slice none 0 0]],[]⟩ 8 (by kernel_rfl) (by kernel_rfl) (by kernel_rfl) (by kernel_rfl))
   (fun W base args ds gs before h1 h2 _ _=>H6 (s:=YtcmfkhicjhliaaaGreat.Rows.upolyMatchesReferenceSpec) rfl rfl (by
     intro t ht;rw[Tryz.params10]at ht;simp only[List.mem_cons,List.not_mem_nil,or_false,or_self]at ht;rcases ht with rfl|rfl|rfl
     ·exact rd22
     ·exact rd22
     ·exact rd39) (by
    intro W base args ds p hval hA;rw[Tryz.params10]at hA hval;obtain⟨v0,v1,v2,d0,d1,d2,p0,p1,p2,rfl,rfl,rfl,h0,h1,h2⟩:=trodAll_three hA;obtain⟨a,ka,ra⟩:=PB (okWide_slice Tryz.underlying22 (hval 0 22 v0 rfl rfl)) h0;obtain⟨b,kb,rb⟩:=PB (okWide_slice Tryz.underlying22 (hval 1 22 v1 rfl rfl)) h1;obtain⟨c,kc,rc⟩:=repS (hval 2 39 v2 rfl rfl) h2;exact⟨⟨_,y4 a b c ka kb kc,ra,rb,rc,trivial⟩,rfl,rfl,rfl⟩) W base args ds gs before h1 h2))
end Go.AM
namespace Go.Proofs.YtcmfkhicjhliaaaGreat
theorem upolyMatchesReference_holds:Rows.UpolyMatchesReferenceSaid:=Go.AM.upolyMatchesReference_holds
end Go.Proofs.YtcmfkhicjhliaaaGreat
