/- UpolySquarefree holds: for every input the law returns true, and each argument reads afterwards as it read before. No condition. -/
import Derived.Test.YtcmfkhicjhliaaaGreatPZ521
set_option linter.unusedSimpArgs false
namespace Go.AM
open Go.Proofs Go.Deep Go.ChangeShapes Go.WideShapes Go.ChangeAt Go.RowKit
set_option maxRecDepth 100000 in
theorem upolySquarefree_holds:YtcmfkhicjhliaaaGreat.Rows.UpolySquarefreeSaid :=
 OpenClaim.holds_of_wide 7 Tryz.f7 rfl rfl rfl rfl rfl rfl rfl ⟨rfl,rfl,rfl,rfl,rfl⟩ rfl rfl rfl rfl rfl (by kernel_rfl) Tryz.func7 (by kernel_rfl)
  (of_decide_eq_true (by kernel_rfl)) (by unfold Func.isWrapper;rw[if_neg (of_decide_eq_false (by kernel_rfl))];exact⟨rfl,rfl⟩)
  (fun os started H enc _=>returnsInHanded_of_change (C:=Tryz.checked) own started (by kernel_rfl) Tryz.func7
   (ChangeSpec.witness6 (enc:=enc) (C:=Tryz.checked) false ⟨#[],#[.agg #[.slice none 0 0,.slice none 0 0],.agg #[.slice none 0 0,.slice none 0 0],.agg #[.int .u8 0,.int .u8 0,.int .u8 0]],[]⟩ 8 (by kernel_rfl) (by kernel_rfl) (by kernel_rfl) (by kernel_rfl))
   (fun W base args ds gs before h1 h2 _ _=>IY (s:=YtcmfkhicjhliaaaGreat.Rows.upolySquarefreeSpec) rfl rfl (by
     intro t ht;rw[Tryz.params7]at ht;simp only[List.mem_cons,List.not_mem_nil,or_false,or_self]at ht;rcases ht with rfl|rfl|rfl
     ·exact rd39
     ·exact rd39
     ·exact rd48) (by
    intro W base args ds p hval hA;rw[Tryz.params7]at hA hval;obtain⟨v0,v1,v2,d0,d1,d2,p0,p1,p2,rfl,rfl,rfl,h0,h1,h2⟩:=trodAll_three hA;obtain⟨a,ka,ra⟩:=QD (hval 0 39 v0 rfl rfl) h0;obtain⟨b,kb,rb⟩:=QD (hval 1 39 v1 rfl rfl) h1;obtain⟨x,y,z,⟨hx,hy,hz⟩,rw⟩:=repW (hval 2 48 v2 rfl rfl) h2;exact⟨⟨_,tX a b x y z ka kb hx hy hz,ra,rb,rw,trivial⟩,rfl,rfl,rfl⟩) W base args ds gs before h1 h2))
end Go.AM
namespace Go.Proofs.YtcmfkhicjhliaaaGreat
theorem upolySquarefree_holds:Rows.UpolySquarefreeSaid:=Go.AM.upolySquarefree_holds
end Go.Proofs.YtcmfkhicjhliaaaGreat
