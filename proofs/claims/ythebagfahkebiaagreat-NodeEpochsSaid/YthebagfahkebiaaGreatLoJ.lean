/-
  Proved: for every input, causewaylaw20.NodeEpochs returns true and its arguments read as they did. No condition.
-/
import Derived.Test.YthebagfahkebiaaGreatRBK
set_option linter.all false
set_option maxHeartbeats 8000000
set_option maxRecDepth 20000
namespace Go.Proofs.YthebagfahkebiaaGreat
open Go Go.Sl Go.Proofs.Tryz List
set_option maxRecDepth 100000 in
theorem yu(os:Os)(started:os.Started)(H:Type)(enc:TypeId×Value->H):
  ReturnsInHanded {} checked os 9 .any (Rows.nodeEpochsSpec.pre6 enc prog f9 Rows.nodeEpochsRow.domain false) (Rows.nodeEpochsSpec.post enc prog f9 false true false false):=by
 refine Ks (C:=checked) (tb:=4) Tryz.own started (by kernel_rfl) func9
  (ChangeSpec.witness6 (enc:=enc) (C:=checked) false ⟨#[], #[.agg #[.int .i64 0,.int .i64 0,.int .i64 0,.int .i64 0],.int .i64 0,.slice none 0 0,.agg (List.toArray (Da.enc Da.z))],[]⟩ 8 (by kernel_rfl) (by kernel_rfl) (by kernel_rfl) (by kernel_rfl))
  Tryz.laidOut (by kernel_rfl) rfl underlying4 rfl (λds hd=>match ds,hd with|[_,_,_,_],_=>⟨rfl,rfl,rfl⟩) ?_
 intro W base args ds p Ww oX wJ;have hval:∀(j:Nat) t v,f9.params[j]? =some t->args[j]? =some v->Value.okWide prog W .any base t v:=Ww;have hA:DataW.TrodAll enc prog W 0 (λ_=>true) true f9.params.toList args.toList ds p:=oX;have jC:∀l∈DataW.weightsEach prog f9.params.toList ds,l<=reachBytes:=wJ;clear Ww oX wJ;rw[params9] at hA hval jC;obtain⟨v0,v1,v2,v3,d0,d1,d2,d3,rfl,rfl,⟨p0,h0⟩,⟨p1,h1⟩,⟨p2,h2⟩,⟨p3,h3⟩⟩:=pX hA;obtain⟨l,rfl,_⟩:=Mk 0 WL (hval 0 23 v0 rfl rfl) h0 (ze jC (i:=0) rfl rfl);obtain⟨nd,rfl,_⟩:=ZG (hval 1 3 v1 rfl rfl) h1;obtain⟨xs,hx,hxz,zy⟩:=Uv (by kernel_rfl) XL (hval 2 24 v2 rfl rfl) h2 (ze jC (i:=2) rfl rfl);obtain⟨m,rfl,hm⟩:=Mk 0 wN (hval 3 52 v3 rfl rfl) h3 (ze jC (i:=3) rfl rfl);exact Vv (ME hx.rs (YL zy) hxz m hm)
def OE:(Rows.nodeEpochsRow.inPlace==prog.inPlace 9)=true:=by kernel_rfl
def PE:(Rows.nodeEpochsRow.unfollowed==prog.unfollowed 9)=true:=by kernel_rfl
def QE:(Rows.nodeEpochsRow.recurses==prog.recurses 9)=true:=by kernel_rfl
def RE:(Rows.nodeEpochsRow.named==prog.varsNamed 9)=true:=by kernel_rfl
def SE:laidOutB prog=true:=by kernel_rfl
def UE:mapsRowed prog=true:=by kernel_rfl
def VE:(Rows.nodeEpochsRow.plainKeys==prog.plainKeys)=true:=by kernel_rfl
def WE:(Rows.nodeEpochsRow.lifted==prog.liftsFinal)=true:=by kernel_rfl
def XE:prog.stopsHeard=true:=by kernel_rfl
def zu:joinedFacts prog 9 f9 Rows.nodeEpochsSpec Rows.nodeEpochsRow=true:=by
 unfold joinedFacts;rw[OE,PE,QE,RE,SE,UE,VE,WE,XE]
 kernel_rfl
theorem nodeEpochs_holds:Rows.NodeEpochsSaid:=
 OpenClaim.holds_of_wide 9 f9 rfl rfl rfl rfl rfl rfl rfl ⟨rfl,rfl,rfl,rfl,rfl⟩ rfl rfl rfl rfl rfl (by kernel_rfl) func9 zu
  (of_decide_eq_true (by kernel_rfl)) (by unfold Func.isWrapper;first|(rw[if_pos (by decide+kernel)];kernel_rfl)|(rw[if_neg (by decide+kernel)];exact⟨rfl,rfl⟩))
  (λos started H enc _=>yu os started H enc)
end Go.Proofs.YthebagfahkebiaaGreat
