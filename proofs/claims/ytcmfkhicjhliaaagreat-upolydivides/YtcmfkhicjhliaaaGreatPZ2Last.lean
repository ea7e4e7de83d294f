/- UpolyDivides holds: for every input the law returns true, and each argument reads afterwards as it read before. No condition. -/
import Derived.Test.YtcmfkhicjhliaaaGreatPZ222
namespace Go.AM
open Go.Proofs Go.Deep Go.ChangeShapes Go.WideShapes Go.ChangeAt Go.RowKit
set_option maxRecDepth 100000 in
theorem upolyDivides_holds:YtcmfkhicjhliaaaGreat.Rows.UpolyDividesSaid :=
 OpenClaim.holds_of_wide 4 Tryz.f4 rfl rfl rfl rfl rfl rfl rfl ⟨rfl,rfl,rfl,rfl,rfl⟩ rfl rfl rfl rfl rfl (by kernel_rfl) Tryz.func4 (by kernel_rfl)
  (of_decide_eq_true (by kernel_rfl)) (by unfold Func.isWrapper;rw[if_neg (of_decide_eq_false (by kernel_rfl))];exact⟨rfl,rfl⟩)
  (fun os started H enc _=>returnsInHanded_of_change (C:=Tryz.checked) own started (by kernel_rfl) Tryz.func4
   (ChangeSpec.witness6 (enc:=enc) (C:=Tryz.checked) false ⟨#[],#[.slice none 0 0,.slice none 0 0],[]⟩ 8 (by kernel_rfl) (by kernel_rfl) (by kernel_rfl) (by kernel_rfl))
   (fun W base args ds gs before h1 h2 _ _=>Hm (s:=YtcmfkhicjhliaaaGreat.Rows.upolyDividesSpec) rfl rfl (by
     intro t ht;rw[Tryz.params4]at ht;simp only[List.mem_cons,List.not_mem_nil,or_false,or_self]at ht;subst ht;exact rd22) (by
    intro W base args ds p hval hA;rw[Tryz.params4]at hA hval;obtain⟨v0,v1,d0,d1,p0,p1,rfl,rfl,rfl,h0,h1⟩:=trodAll_two hA;obtain⟨a,ka,ra⟩:=OX (okWide_slice Tryz.underlying22 (hval 0 22 v0 rfl rfl)) h0;obtain⟨b,kb,rb⟩:=OX (okWide_slice Tryz.underlying22 (hval 1 22 v1 rfl rfl)) h1;exact⟨⟨_,yW a b ka kb,ra,rb,trivial⟩,rfl,rfl,rfl⟩) W base args ds gs before h1 h2))
end Go.AM
namespace Go.Proofs.YtcmfkhicjhliaaaGreat
theorem upolyDivides_holds:Rows.UpolyDividesSaid:=Go.AM.upolyDivides_holds
end Go.Proofs.YtcmfkhicjhliaaaGreat
