/- UpolySolves holds: for every input the law returns true, and each argument reads afterwards as it read before. No condition. -/
import Derived.Test.YtcmfkhicjhliaaaGreatPZ421
set_option linter.unusedSimpArgs false
namespace Go.AM
open Go.Proofs Go.Deep Go.ChangeShapes Go.WideShapes Go.ChangeAt Go.RowKit
set_option maxRecDepth 100000 in
theorem upolySolves_holds:YtcmfkhicjhliaaaGreat.Rows.UpolySolvesSaid :=
 OpenClaim.holds_of_wide 6 Tryz.f6 rfl rfl rfl rfl rfl rfl rfl ⟨rfl,rfl,rfl,rfl,rfl⟩ rfl rfl rfl rfl rfl (by kernel_rfl) Tryz.func6 (by kernel_rfl)
  (of_decide_eq_true (by kernel_rfl)) (by unfold Func.isWrapper;rw[if_neg (of_decide_eq_false (by kernel_rfl))];exact⟨rfl,rfl⟩)
  (fun os started H enc _=>returnsInHanded_of_change (C:=Tryz.checked) own started (by kernel_rfl) Tryz.func6
   (ChangeSpec.witness6 (enc:=enc) (C:=Tryz.checked) false ⟨#[],#[.slice none 0 0,.slice none 0 0,.slice none 0 0],[]⟩ 8 (by kernel_rfl) (by kernel_rfl) (by kernel_rfl) (by kernel_rfl))
   (fun W base args ds gs before h1 h2 _ _=>Ig (s:=YtcmfkhicjhliaaaGreat.Rows.upolySolvesSpec) rfl rfl (by
     intro t ht;rw[Tryz.params6]at ht;simp only[List.mem_cons,List.not_mem_nil,or_false,or_self]at ht;subst ht;exact rd22) (by
    intro W base args ds p hval hA;rw[Tryz.params6]at hA hval;obtain⟨v0,v1,v2,d0,d1,d2,p0,p1,p2,rfl,rfl,rfl,h0,h1,h2⟩:=trodAll_three hA;obtain⟨a,ka,ra⟩:=N3 (okWide_slice Tryz.underlying22 (hval 0 22 v0 rfl rfl)) h0;obtain⟨b,kb,rb⟩:=N3 (okWide_slice Tryz.underlying22 (hval 1 22 v1 rfl rfl)) h1;obtain⟨c,kc,rc⟩:=N3 (okWide_slice Tryz.underlying22 (hval 2 22 v2 rfl rfl)) h2;exact⟨⟨_,Bi a b c ka kb kc,ra,rb,rc,trivial⟩,rfl,rfl,rfl⟩) W base args ds gs before h1 h2))
end Go.AM
namespace Go.Proofs.YtcmfkhicjhliaaaGreat
theorem upolySolves_holds:Rows.UpolySolvesSaid:=Go.AM.upolySolves_holds
end Go.Proofs.YtcmfkhicjhliaaaGreat
