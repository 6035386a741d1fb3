/- Texts of one road. -/
import Derived.Test.YthebagfahkebiaaGreatQAK
import Derived.Test.YthebagfahkebiaaGreatQAS
set_option linter.all false
set_option maxHeartbeats 8000000
set_option maxRecDepth 20000
namespace Go.Proofs.YthebagfahkebiaaGreat
open Go Go.Sl Go.Proofs.Tryz List
def BG(dc rg nd:Int)(x:Va)(sn bs:Int){es:List ya}{u:Value}{h:Hp}(hs:Rs es u h)(hl:es.length<=1000000):
  Ct prog 254 [dc,rg,nd,.agg (List.toArray x.enc),sn,bs,u] [h]
   (λr H'=>∃b v hv,r= .pointer (some ⟨b,0,none⟩)/\H'=[ta b (CS.restore dc rg nd x sn bs es) v,hv,h]/\ia 49 (CS.restore dc rg nd x sn bs es).lg v hv):=by
 have Su:(CS.restore dc rg nd x sn bs es).lg=es:=(Ja (CS.eg dc rg nd x sn bs es)).2.2.2.2.2.2.1;have jx:=Yn x;obtain⟨up,uc,rfl⟩:=hs.len;by_cases hR:Nd x
 .rw[Fi hR] at jx;obtain⟨c,Gy,ob,hch⟩:=Ti hR
  have fF:CS.restore dc rg nd x sn bs es=CS.settle ⟨dc,rg,nd,some c,sn,mx 0 (mn bs (es.length:Int)),es,(es.length:Int),0,0,(es.length:Int),false⟩:=by
   unfold CS.restore CS.eg;rw[if_pos hR,hch]
  have hO:Ii (some c):=Ii.some ob;rw[fF] at Su⊢;subst Gy;clear hch fF hR;refine ce func254 λg R=>?_;repeat' first|refine vb ?_|refine Ud λ_=>?_
  rename_i KX;refine ck (Gt dc rg nd) ?_;rintro _ _ ⟨b,rfl,rfl⟩;repeat' first|refine vb ?_|refine yj c.cfg.enc ?_|refine cq jx ?_
  refine NQ ((CS.new dc rg nd).cells (.slice none 0 0)) c.cfg.enc (CS.cells ⟨dc,rg,nd,some c,0,0,[],0,0,0,0,false⟩ (.slice none 0 0)) rfl rfl ?_;try refine ga ?_
  refine Wh (CS.cells ⟨dc,rg,nd,(some c),0,0,[],0,0,0,0,false⟩ (.slice none 0 0)) (CS.cells ⟨dc,rg,nd,(some c),sn,0,[],0,0,0,0,false⟩ (.slice none 0 0)) ?_;try refine ga ?_
  refine WX.Ke ?_;refine Ys (zb:=by show(2*(0+es.length)+256)*_<=_;omega) (show ia 49 ([]:List ya) (.slice none 0 0) [] from ia.nil _) hs (λv1 h1 hs1=>?_);rw[nil_append] at hs1;obtain⟨p1,c1,e1⟩:=hs1.rs.len;subst e1;try refine ga ?_
  refine Wh (CS.cells ⟨dc,rg,nd,(some c),sn,0,[],0,0,0,0,false⟩ (.slice none 0 0)) (CS.cells ⟨dc,rg,nd,(some c),sn,0,es,0,0,0,0,false⟩ (.slice p1 es.length c1)) ?_;try refine ga ?_
  refine Wh (CS.cells ⟨dc,rg,nd,(some c),sn,0,es,0,0,0,0,false⟩ (.slice p1 es.length c1)) (CS.cells ⟨dc,rg,nd,(some c),sn,0,es,(es.length:Int),0,0,0,false⟩ (.slice p1 es.length c1)) ?_;try refine ga ?_
  refine Wh (CS.cells ⟨dc,rg,nd,(some c),sn,0,es,(es.length:Int),0,0,0,false⟩ (.slice p1 es.length c1)) (CS.cells ⟨dc,rg,nd,(some c),sn,0,es,(es.length:Int),0,0,(es.length:Int),false⟩ (.slice p1 es.length c1)) ?_;try refine ga ?_
  refine Wh (CS.cells ⟨dc,rg,nd,(some c),sn,0,es,(es.length:Int),0,0,(es.length:Int),false⟩ (.slice p1 es.length c1)) (CS.cells ⟨dc,rg,nd,(some c),sn,mx 0 (mn bs (es.length:Int)),es,(es.length:Int),0,0,(es.length:Int),false⟩ (.slice p1 es.length c1)) ?_;try refine ga ?_
  refine ck (Bf (s:=⟨dc,rg,nd,(some c),sn,mx 0 (mn bs (es.length:Int)),es,(es.length:Int),0,0,(es.length:Int),false⟩) hO b (.slice p1 es.length c1)) ?_;rintro _ _ ⟨rfl,rfl⟩;refine vb ?_;exact Wa [ta b (CS.settle ⟨dc,rg,nd,(some c),sn,mx 0 (mn bs (es.length:Int)),es,(es.length:Int),0,0,(es.length:Int),false⟩) (.slice p1 es.length c1),h1,h] rfl rfl ⟨b,.slice p1 es.length c1,h1,rfl,rfl,by rw[Su];exact hs1⟩
 .rw[gj hR] at jx
  have fF:CS.restore dc rg nd x sn bs es=CS.settle ⟨dc,rg,nd,none,sn,mx 0 (mn bs (es.length:Int)),es,(es.length:Int),0,0,(es.length:Int),false⟩:=by
   unfold CS.restore CS.eg;rw[if_neg hR]
  have hO:Ii none:=Ii.none;rw[fF] at Su⊢;clear fF;refine ce func254 λg R=>?_;repeat' first|refine vb ?_|refine Ud λ_=>?_
  rename_i KX;refine ck (Gt dc rg nd) ?_;rintro _ _ ⟨b,rfl,rfl⟩;repeat' first|refine vb ?_|refine yj x.enc ?_|refine cq jx ?_
  refine Wh (CS.cells ⟨dc,rg,nd,none,0,0,[],0,0,0,0,false⟩ (.slice none 0 0)) (CS.cells ⟨dc,rg,nd,none,sn,0,[],0,0,0,0,false⟩ (.slice none 0 0)) ?_;try refine ga ?_
  refine WX.Ke ?_;refine Ys (zb:=by show(2*(0+es.length)+256)*_<=_;omega) (show ia 49 ([]:List ya) (.slice none 0 0) [] from ia.nil _) hs (λv1 h1 hs1=>?_);rw[nil_append] at hs1;obtain⟨p1,c1,e1⟩:=hs1.rs.len;subst e1;try refine ga ?_
  refine Wh (CS.cells ⟨dc,rg,nd,none,sn,0,[],0,0,0,0,false⟩ (.slice none 0 0)) (CS.cells ⟨dc,rg,nd,none,sn,0,es,0,0,0,0,false⟩ (.slice p1 es.length c1)) ?_;try refine ga ?_
  refine Wh (CS.cells ⟨dc,rg,nd,none,sn,0,es,0,0,0,0,false⟩ (.slice p1 es.length c1)) (CS.cells ⟨dc,rg,nd,none,sn,0,es,(es.length:Int),0,0,0,false⟩ (.slice p1 es.length c1)) ?_;try refine ga ?_
  refine Wh (CS.cells ⟨dc,rg,nd,none,sn,0,es,(es.length:Int),0,0,0,false⟩ (.slice p1 es.length c1)) (CS.cells ⟨dc,rg,nd,none,sn,0,es,(es.length:Int),0,0,(es.length:Int),false⟩ (.slice p1 es.length c1)) ?_;try refine ga ?_
  refine Wh (CS.cells ⟨dc,rg,nd,none,sn,0,es,(es.length:Int),0,0,(es.length:Int),false⟩ (.slice p1 es.length c1)) (CS.cells ⟨dc,rg,nd,none,sn,mx 0 (mn bs (es.length:Int)),es,(es.length:Int),0,0,(es.length:Int),false⟩ (.slice p1 es.length c1)) ?_;try refine ga ?_
  refine ck (Bf (s:=⟨dc,rg,nd,none,sn,mx 0 (mn bs (es.length:Int)),es,(es.length:Int),0,0,(es.length:Int),false⟩) hO b (.slice p1 es.length c1)) ?_;rintro _ _ ⟨rfl,rfl⟩;refine vb ?_;exact Wa [ta b (CS.settle ⟨dc,rg,nd,none,sn,mx 0 (mn bs (es.length:Int)),es,(es.length:Int),0,0,(es.length:Int),false⟩) (.slice p1 es.length c1),h1,h] rfl rfl ⟨b,.slice p1 es.length c1,h1,rfl,rfl,by rw[Su];exact hs1⟩
def gI{c:Ch}(ok:xg c)(k:Int):0<=Zb (some c) k:=by
 unfold Zb;simp only[]
 cases hf:c.all.findIdx? (λp=>decide (p.nd=k)) with
 |none=>exact Int.le_refl 0
 |some j=>
  obtain⟨hj,_⟩:=List.findIdx?_eq_some_iff_getElem.1 hf;have:=(ok.rg _ (getElem_mem hj)).2.2.1;simp only[getD_eq_getElem?_getD,oh hj,Option.getD_some];omega
def RK{s:CS}(ok:Lb s)(b:Nat){v:Value}{hv:Hp}(hs:ia 49 s.lg v hv)(x:Va):
  Ct prog 136 [b,.agg (List.toArray x.enc)] [ta b s v,hv] (λr H'=>r= .tuple #[.bool (s.enter x).1.1,.int .i64 (s.enter x).1.2]/\Ky (s.enter x).2 b H'):=by
 have hr:=hs.rs;have jx:=Yn x;obtain⟨up,uc,rfl⟩:=hr.len;by_cases hR:Nd x;rotate_left
 .rw[gj hR] at jx;have e0:s.enter x=((false,1),s):=if_pos hR;rw[e0];refine ce func136 λg R=>?_;repeat' first|refine vb ?_|refine Ud λ_=>?_|refine yj x.enc ?_|refine cq jx ?_
  exact D.Vb [ta b s (.slice up s.lg.length uc),hv] _ rfl rfl rfl ⟨rfl,_,hv,rfl,hs⟩
 rw[Fi hR] at jx;by_cases xU:x.ep<=(Yb s.co).ep
 .have e0:s.enter x=((false,80),s):=by unfold CS.enter;rw[if_neg (λh=>h hR),if_pos xU]
  rw[e0];refine ce func136 λg R=>?_;repeat' first|refine vb ?_|refine Ud λ_=>?_|refine yj x.enc ?_|refine cq jx ?_
  refine ij ?_;exact D.Vb [ta b s (.slice up s.lg.length uc),hv] _ rfl rfl rfl ⟨rfl,_,hv,rfl,hs⟩
 have e0:s.enter x=((s.Zh x,0),(s.Qc x).settle):=by unfold CS.enter;rw[if_neg (λh=>h hR),if_neg xU]
 rw[e0];obtain⟨c,Gy,ob,hch⟩:=Ti hR;have hsi:=iF (Ii.some ob) s.nd;have VA:=gI ob s.nd;subst Gy;by_cases h1:Zb (some c) s.nd≠0/\Zb (some c) s.nd≠s.sn
 .have e1:s.Qc c.cfg=⟨s.dc,s.rg,s.nd,some c,Zb (some c) s.nd,0,[],0,0,0,0,true⟩:=by unfold CS.Qc;rw[hch,if_pos h1]
  have e2:s.Zh c.cfg=true:=by unfold CS.Zh;rw[hch];exact Fi h1
  rw[e1,e2];obtain⟨k1,k2⟩:=h1;clear e0 e1 e2 hch;generalize Zb (some c) s.nd=z at hsi k1 k2 VA⊢;have k3:0<z:=by omega
  refine ce func136 λg R=>?_;repeat' first|refine vb ?_|refine Ud λ_=>?_|refine yj c.cfg.enc ?_|refine cq jx ?_
  rename_i b3;refine ij ?_;refine wq ?_;repeat' first|refine ga ?_|refine yj c.cfg.enc ?_|refine cq hsi ?_
  refine Wh (CS.cells s (.slice up s.lg.length uc)) (CS.cells ⟨s.dc,s.rg,s.nd,s.co,z,s.bs,s.lg,s.du,s.st,s.ak,s.ow,s.su⟩ (.slice up s.lg.length uc)) ?_;try refine ga ?_
  refine Wh (CS.cells ⟨s.dc,s.rg,s.nd,s.co,z,s.bs,s.lg,s.du,s.st,s.ak,s.ow,s.su⟩ (.slice up s.lg.length uc)) (CS.cells ⟨s.dc,s.rg,s.nd,s.co,z,s.bs,[],s.du,s.st,s.ak,s.ow,s.su⟩ (.slice none 0 0)) ?_;try refine ga ?_
  refine Wh (CS.cells ⟨s.dc,s.rg,s.nd,s.co,z,s.bs,[],s.du,s.st,s.ak,s.ow,s.su⟩ (.slice none 0 0)) (CS.cells ⟨s.dc,s.rg,s.nd,s.co,z,s.bs,[],s.du,0,s.ak,s.ow,s.su⟩ (.slice none 0 0)) ?_;repeat' first|refine ga ?_|refine yj c.cfg.enc ?_
  refine NQ (CS.cells ⟨s.dc,s.rg,s.nd,s.co,z,s.bs,([]:List ya),s.du,0,s.ak,s.ow,s.su⟩ (.slice none 0 0)) c.cfg.enc (CS.cells ⟨s.dc,s.rg,s.nd,some c,z,s.bs,([]:List ya),s.du,0,s.ak,s.ow,s.su⟩ (.slice none 0 0)) rfl rfl ?_;try refine ga ?_
  refine Wh (CS.cells ⟨s.dc,s.rg,s.nd,some c,z,s.bs,([]:List ya),s.du,0,s.ak,s.ow,s.su⟩ (.slice none 0 0)) (CS.cells ⟨s.dc,s.rg,s.nd,some c,z,s.bs,([]:List ya),(0:Int),0,s.ak,s.ow,s.su⟩ (.slice none 0 0)) ?_;try refine ga ?_
  refine Wh (CS.cells ⟨s.dc,s.rg,s.nd,some c,z,s.bs,([]:List ya),(0:Int),0,s.ak,s.ow,s.su⟩ (.slice none 0 0)) (CS.cells ⟨s.dc,s.rg,s.nd,some c,z,(0:Int),([]:List ya),(0:Int),0,s.ak,s.ow,s.su⟩ (.slice none 0 0)) ?_;try refine ga ?_
  refine Wh (CS.cells ⟨s.dc,s.rg,s.nd,some c,z,(0:Int),([]:List ya),(0:Int),0,s.ak,s.ow,s.su⟩ (.slice none 0 0)) (CS.cells ⟨s.dc,s.rg,s.nd,some c,z,(0:Int),([]:List ya),(0:Int),0,0,s.ow,s.su⟩ (.slice none 0 0)) ?_;try refine ga ?_
  refine Wh (CS.cells ⟨s.dc,s.rg,s.nd,some c,z,(0:Int),([]:List ya),(0:Int),0,0,s.ow,s.su⟩ (.slice none 0 0)) (CS.cells ⟨s.dc,s.rg,s.nd,some c,z,(0:Int),([]:List ya),(0:Int),0,0,0,s.su⟩ (.slice none 0 0)) ?_;try refine ga ?_
  refine Wh (CS.cells ⟨s.dc,s.rg,s.nd,some c,z,(0:Int),([]:List ya),(0:Int),0,0,0,s.su⟩ (.slice none 0 0)) (CS.cells ⟨s.dc,s.rg,s.nd,some c,z,(0:Int),([]:List ya),(0:Int),0,0,0,true⟩ (.slice none 0 0)) ?_;try refine ga ?_
  refine ck (Bf (s:=⟨s.dc,s.rg,s.nd,some c,z,(0:Int),([]:List ya),(0:Int),0,0,0,true⟩) (Ii.some ob) b (.slice none 0 0)) ?_;rintro _ _ ⟨rfl,rfl⟩;refine vb ?_;refine D.Ke ?_;exact D.Vb [ta b (CS.settle ⟨s.dc,s.rg,s.nd,some c,z,0,[],0,0,0,0,true⟩) (.slice none 0 0),[]] _ rfl rfl rfl ⟨rfl,_,[],rfl,by rw[(Ja _).2.2.2.2.2.2.1];exact ia.nil _⟩
 .have e1:s.Qc c.cfg=⟨s.dc,s.rg,s.nd,some c,s.sn,s.len,s.lg,s.len,s.st,0,0,true⟩:=by unfold CS.Qc;rw[hch,if_neg h1]
  have e2:s.Zh c.cfg=false:=by unfold CS.Zh;rw[hch];exact gj h1
  rw[e1,e2];clear e0 e1 e2 hch;generalize Zb (some c) s.nd=z at hsi h1 VA;refine ce func136 λg R=>?_;repeat' first|refine vb ?_|refine Ud λ_=>?_|refine yj c.cfg.enc ?_|refine cq jx ?_
  rename_i b3;refine ij ?_;refine wq ?_;by_cases k1:z≠0
  .have k2:z=s.sn:=Classical.byContradiction λh=>h1 ⟨k1,h⟩;have k3:0<z:=by omega
   repeat' first|refine ga ?_|refine yj c.cfg.enc ?_|refine cq hsi ?_
   refine NQ (CS.cells ⟨s.dc,s.rg,s.nd,s.co,s.sn,s.bs,s.lg,s.du,s.st,s.ak,s.ow,s.su⟩ (.slice up s.lg.length uc)) c.cfg.enc (CS.cells ⟨s.dc,s.rg,s.nd,some c,s.sn,s.bs,s.lg,s.du,s.st,s.ak,s.ow,s.su⟩ (.slice up s.lg.length uc)) rfl rfl ?_;try refine ga ?_
   refine Wh (CS.cells ⟨s.dc,s.rg,s.nd,some c,s.sn,s.bs,s.lg,s.du,s.st,s.ak,s.ow,s.su⟩ (.slice up s.lg.length uc)) (CS.cells ⟨s.dc,s.rg,s.nd,some c,s.sn,s.bs,s.lg,(s.len:Int),s.st,s.ak,s.ow,s.su⟩ (.slice up s.lg.length uc)) ?_;try refine ga ?_
   refine Wh (CS.cells ⟨s.dc,s.rg,s.nd,some c,s.sn,s.bs,s.lg,(s.len:Int),s.st,s.ak,s.ow,s.su⟩ (.slice up s.lg.length uc)) (CS.cells ⟨s.dc,s.rg,s.nd,some c,s.sn,(s.len:Int),s.lg,(s.len:Int),s.st,s.ak,s.ow,s.su⟩ (.slice up s.lg.length uc)) ?_;try refine ga ?_
   refine Wh (CS.cells ⟨s.dc,s.rg,s.nd,some c,s.sn,(s.len:Int),s.lg,(s.len:Int),s.st,s.ak,s.ow,s.su⟩ (.slice up s.lg.length uc)) (CS.cells ⟨s.dc,s.rg,s.nd,some c,s.sn,(s.len:Int),s.lg,(s.len:Int),s.st,0,s.ow,s.su⟩ (.slice up s.lg.length uc)) ?_;try refine ga ?_
   refine Wh (CS.cells ⟨s.dc,s.rg,s.nd,some c,s.sn,(s.len:Int),s.lg,(s.len:Int),s.st,0,s.ow,s.su⟩ (.slice up s.lg.length uc)) (CS.cells ⟨s.dc,s.rg,s.nd,some c,s.sn,(s.len:Int),s.lg,(s.len:Int),s.st,0,0,s.su⟩ (.slice up s.lg.length uc)) ?_;try refine ga ?_
   refine Wh (CS.cells ⟨s.dc,s.rg,s.nd,some c,s.sn,(s.len:Int),s.lg,(s.len:Int),s.st,0,0,s.su⟩ (.slice up s.lg.length uc)) (CS.cells ⟨s.dc,s.rg,s.nd,some c,s.sn,(s.len:Int),s.lg,(s.len:Int),s.st,0,0,true⟩ (.slice up s.lg.length uc)) ?_;try refine ga ?_
   refine ck (Bf (s:=⟨s.dc,s.rg,s.nd,some c,s.sn,(s.len:Int),s.lg,(s.len:Int),s.st,0,0,true⟩) (Ii.some ob) b (.slice up s.lg.length uc)) ?_;rintro _ _ ⟨rfl,rfl⟩;refine vb ?_;exact D.Vb [ta b (CS.settle ⟨s.dc,s.rg,s.nd,some c,s.sn,s.len,s.lg,s.len,s.st,0,0,true⟩) (.slice up s.lg.length uc),hv] _ rfl rfl rfl ⟨rfl,_,hv,rfl,by rw[(Ja _).2.2.2.2.2.2.1];exact hs⟩
  .have k2:z=0:=Classical.not_not.1 k1;repeat' first|refine ga ?_|refine yj c.cfg.enc ?_|refine cq hsi ?_
   refine NQ (CS.cells ⟨s.dc,s.rg,s.nd,s.co,s.sn,s.bs,s.lg,s.du,s.st,s.ak,s.ow,s.su⟩ (.slice up s.lg.length uc)) c.cfg.enc (CS.cells ⟨s.dc,s.rg,s.nd,some c,s.sn,s.bs,s.lg,s.du,s.st,s.ak,s.ow,s.su⟩ (.slice up s.lg.length uc)) rfl rfl ?_;try refine ga ?_
   refine Wh (CS.cells ⟨s.dc,s.rg,s.nd,some c,s.sn,s.bs,s.lg,s.du,s.st,s.ak,s.ow,s.su⟩ (.slice up s.lg.length uc)) (CS.cells ⟨s.dc,s.rg,s.nd,some c,s.sn,s.bs,s.lg,(s.len:Int),s.st,s.ak,s.ow,s.su⟩ (.slice up s.lg.length uc)) ?_;try refine ga ?_
   refine Wh (CS.cells ⟨s.dc,s.rg,s.nd,some c,s.sn,s.bs,s.lg,(s.len:Int),s.st,s.ak,s.ow,s.su⟩ (.slice up s.lg.length uc)) (CS.cells ⟨s.dc,s.rg,s.nd,some c,s.sn,(s.len:Int),s.lg,(s.len:Int),s.st,s.ak,s.ow,s.su⟩ (.slice up s.lg.length uc)) ?_;try refine ga ?_
   refine Wh (CS.cells ⟨s.dc,s.rg,s.nd,some c,s.sn,(s.len:Int),s.lg,(s.len:Int),s.st,s.ak,s.ow,s.su⟩ (.slice up s.lg.length uc)) (CS.cells ⟨s.dc,s.rg,s.nd,some c,s.sn,(s.len:Int),s.lg,(s.len:Int),s.st,0,s.ow,s.su⟩ (.slice up s.lg.length uc)) ?_;try refine ga ?_
   refine Wh (CS.cells ⟨s.dc,s.rg,s.nd,some c,s.sn,(s.len:Int),s.lg,(s.len:Int),s.st,0,s.ow,s.su⟩ (.slice up s.lg.length uc)) (CS.cells ⟨s.dc,s.rg,s.nd,some c,s.sn,(s.len:Int),s.lg,(s.len:Int),s.st,0,0,s.su⟩ (.slice up s.lg.length uc)) ?_;try refine ga ?_
   refine Wh (CS.cells ⟨s.dc,s.rg,s.nd,some c,s.sn,(s.len:Int),s.lg,(s.len:Int),s.st,0,0,s.su⟩ (.slice up s.lg.length uc)) (CS.cells ⟨s.dc,s.rg,s.nd,some c,s.sn,(s.len:Int),s.lg,(s.len:Int),s.st,0,0,true⟩ (.slice up s.lg.length uc)) ?_;try refine ga ?_
   refine ck (Bf (s:=⟨s.dc,s.rg,s.nd,some c,s.sn,(s.len:Int),s.lg,(s.len:Int),s.st,0,0,true⟩) (Ii.some ob) b (.slice up s.lg.length uc)) ?_;rintro _ _ ⟨rfl,rfl⟩;refine vb ?_;exact D.Vb [ta b (CS.settle ⟨s.dc,s.rg,s.nd,some c,s.sn,s.len,s.lg,s.len,s.st,0,0,true⟩) (.slice up s.lg.length uc),hv] _ rfl rfl rfl ⟨rfl,_,hv,rfl,by rw[(Ja _).2.2.2.2.2.2.1];exact hs⟩
def CS.Gc(s:CS)(e:ya):Int×CS:=
 if ¬s.head then(90,s)
 else if ¬Xc e\/e.rg≠s.rg\/e.dc=s.dc then(1,s)
 else if e.sq<=(ic s.rg s.lg).at e.dc.toNat then(80,s)
 else if e.sq>(ic s.rg s.lg).at e.dc.toNat+1 then(91,s)
 else if ¬s.Tn e.dp then(91,s)
 else if 256<=s.len then(2,s)
 else(0,s.push e)
def jI{s:CS}(ok:Lb s)(b:Nat){v:Value}{hv:Hp}(hs:ia 49 s.lg v hv)(e:ya):
  Ct prog 248 [b,.agg (List.toArray e.enc)] [ta b s v,hv] (λr H'=>r= .int .i64 (s.Gc e).1/\Ky (s.Gc e).2 b H'):=by
 have hr:=hs.rs;have jg:=ok.len;have hlen:s.len=(s.lg.length:Int):=rfl;have hih:=uk ok.co b v;have kj:=Bt e;have ee:=Qp s b hr (by omega);have hpt:=yt e.dp s.rg;have di:=Pp (ic s.rg s.lg) (ug e.dp s.rg);by_cases c1:s.head;rotate_left
 .have e0:s.Gc e=(90,s):=if_pos c1;rw[e0];rw[gj c1] at hih;clear ee kj hpt di;refine ce func248 λg R=>?_;repeat' first|refine vb ?_|refine Ud λ_=>?_|refine cq hih ?_
  exact Wa [ta b s v,hv] rfl rfl ⟨rfl,v,hv,rfl,hs⟩
 rw[Fi c1] at hih;by_cases c2:Xc e/\e.rg=s.rg/\ ¬e.dc=s.dc;rotate_left
 .have e0:s.Gc e=(1,s):=by
   unfold CS.Gc;rw[if_neg (λh=>h c1),if_pos];by_cases k1:Xc e
   .by_cases k2:e.rg=s.rg
    .exact .inr (.inr (Classical.byContradiction λk3=>c2 ⟨k1,k2,k3⟩))
    .exact .inr (.inl k2)
   .exact .inl k1
  rw[e0];refine ce func248 λg R=>?_;repeat' first|refine vb ?_|refine Ud λ_=>?_|refine cq hih ?_
  refine wq ?_;by_cases k1:Xc e
  .rw[Fi k1] at kj;by_cases k2:e.rg=s.rg
   .have k3:e.dc=s.dc:=Classical.byContradiction λk3=>c2 ⟨k1,k2,k3⟩;repeat' first|refine ga ?_|refine Of (t:=49) e.enc e.enc ?_|refine cq kj ?_
    exact Wa [ta b s v,hv] rfl rfl ⟨rfl,v,hv,rfl,hs⟩
   .repeat' first|refine ga ?_|refine Of (t:=49) e.enc e.enc ?_|refine cq kj ?_
    exact Wa [ta b s v,hv] rfl rfl ⟨rfl,v,hv,rfl,hs⟩
  .rw[gj k1] at kj;repeat' first|refine ga ?_|refine Of (t:=49) e.enc e.enc ?_|refine cq kj ?_
   exact Wa [ta b s v,hv] rfl rfl ⟨rfl,v,hv,rfl,hs⟩
 obtain⟨k1,k2,k3⟩:=c2;rw[Fi k1] at kj
 have yc: ¬(¬Xc e\/e.rg≠s.rg\/e.dc=s.dc):=by
  rintro(h|h|h)
  .exact h k1
  .exact h k2
  .exact k3 h
 have fO:e.dc.toNat<3:=by have:=k1.ch.1;have:=k1.ch.2.1;omega
 have zj:=(ic s.rg s.lg).Vd fO;have cB:=Ui s.rg ok.es fO;simp only[MC] at cB;obtain⟨y,hy⟩:∃y,(ic s.rg s.lg).at e.dc.toNat=y:=⟨_,rfl⟩;rw[hy] at zj cB;obtain⟨cl,mh⟩:∃c,ic s.rg s.lg=c:=⟨_,rfl⟩;have hg:cl.enc[0+e.dc.toNat*1]? =some (.int .i64 y):=by rw[<-mh,show 0+e.dc.toNat*1=e.dc.toNat by omega];exact zj
 have q0:0<=e.dc:=k1.ch.1;have q3:e.dc<3:=k1.ch.2.1;by_cases c3:e.sq<=y
 .have e0:s.Gc e=(80,s):=by unfold CS.Gc;rw[if_neg (λh=>h c1),if_neg yc,hy,if_pos c3]
  rw[e0];rw[mh] at ee;refine ce func248 λg R=>?_;repeat' first|refine vb ?_|refine Ud λ_=>?_|refine cq hih ?_
  refine wq ?_;repeat' first|refine ga ?_|refine al λ_=>?_|refine Of (t:=49) e.enc e.enc ?_|refine cq kj ?_|refine cq ee ?_|refine nh V3.z.enc cl.enc ?_
  refine wq ?_;repeat' first|refine ga ?_|refine lN cl.enc _ rfl ?_ (hc:=hg)
  exact Wa [ta b s v,hv] rfl rfl ⟨rfl,v,hv,rfl,hs⟩
 by_cases c4:e.sq>y+1
 .have e0:s.Gc e=(91,s):=by unfold CS.Gc;rw[if_neg (λh=>h c1),if_neg yc,hy,if_neg c3,if_pos c4]
  rw[e0];rw[mh] at ee;refine ce func248 λg R=>?_;repeat' first|refine vb ?_|refine Ud λ_=>?_|refine cq hih ?_
  refine wq ?_;repeat' first|refine ga ?_|refine al λ_=>?_|refine Of (t:=49) e.enc e.enc ?_|refine cq kj ?_|refine cq ee ?_|refine nh V3.z.enc cl.enc ?_
  refine wq ?_;repeat' first|refine ga ?_|refine lN cl.enc _ rfl ?_ (hc:=hg)
  refine wq ?_;repeat' first|refine ga ?_|refine lN cl.enc _ rfl ?_ (hc:=hg)
  exact Wa [ta b s v,hv] rfl rfl ⟨rfl,v,hv,rfl,hs⟩
 have c4':e.sq=y+1:=by omega
 by_cases c5:s.Tn e.dp;rotate_left
 .have e0:s.Gc e=(91,s):=by unfold CS.Gc;rw[if_neg (λh=>h c1),if_neg yc,hy,if_neg c3,if_neg c4,if_pos c5]
  rw[e0];rw[gj c5] at di;rw[mh] at ee di;refine ce func248 λg R=>?_;repeat' first|refine vb ?_|refine Ud λ_=>?_|refine cq hih ?_
  refine wq ?_;repeat' first|refine ga ?_|refine al λ_=>?_|refine Of (t:=49) e.enc e.enc ?_|refine cq kj ?_|refine cq ee ?_|refine nh V3.z.enc cl.enc ?_
  refine wq ?_;repeat' first|refine ga ?_|refine lN cl.enc _ rfl ?_ (hc:=hg)
  refine wq ?_;repeat' first|refine ga ?_|refine lN cl.enc _ rfl ?_ (hc:=hg)|refine Of (t:=50) cl.enc cl.enc ?_|refine Of (t:=47) e.enc e.dp.enc ?_|refine cq hpt ?_|refine cq di ?_
  exact Wa [ta b s v,hv] rfl rfl ⟨rfl,v,hv,rfl,hs⟩
 rw[Fi c5] at di;by_cases c6:256<=s.len
 .have e0:s.Gc e=(2,s):=by unfold CS.Gc;rw[if_neg (λh=>h c1),if_neg yc,hy,if_neg c3,if_neg c4,if_neg (λh=>h c5),if_pos c6]
  rw[e0];rw[mh] at ee di;refine ce func248 λg R=>?_;repeat' first|refine vb ?_|refine Ud λ_=>?_|refine cq hih ?_
  refine wq ?_;repeat' first|refine ga ?_|refine al λ_=>?_|refine Of (t:=49) e.enc e.enc ?_|refine cq kj ?_|refine cq ee ?_|refine nh V3.z.enc cl.enc ?_
  refine wq ?_;repeat' first|refine ga ?_|refine lN cl.enc _ rfl ?_ (hc:=hg)
  refine wq ?_;repeat' first|refine ga ?_|refine lN cl.enc _ rfl ?_ (hc:=hg)|refine Of (t:=50) cl.enc cl.enc ?_|refine Of (t:=47) e.enc e.dp.enc ?_|refine cq hpt ?_|refine cq di ?_
  exact Wa [ta b s v,hv] rfl rfl ⟨rfl,v,hv,rfl,hs⟩
 have e0:s.Gc e=(0,s.push e):=by unfold CS.Gc;rw[if_neg (λh=>h c1),if_neg yc,hy,if_neg c3,if_neg c4,if_neg (λh=>h c5),if_neg c6]
 rw[e0];rw[mh] at ee di;refine ce func248 λg R=>?_;repeat' first|refine vb ?_|refine Ud λ_=>?_|refine cq hih ?_
 rename_i b3;refine wq ?_;repeat' first|refine ga ?_|refine al λ_=>?_|refine Of (t:=49) e.enc e.enc ?_|refine cq kj ?_|refine cq ee ?_|refine nh V3.z.enc cl.enc ?_
 refine wq ?_;repeat' first|refine ga ?_|refine lN cl.enc _ rfl ?_ (hc:=hg)
 refine wq ?_;repeat' first|refine ga ?_|refine lN cl.enc _ rfl ?_ (hc:=hg)|refine Of (t:=50) cl.enc cl.enc ?_|refine Of (t:=47) e.enc e.dp.enc ?_|refine cq hpt ?_|refine cq di ?_
 refine sK (ml [6,2]) [ta b s v,Fb b3 e] ?_;repeat' first|refine ga ?_|refine Of (t:=49) e.enc e.enc ?_
 refine Kp [e] (λv2 h2 Oa=>?_);try refine ga ?_
 refine Ys (zb:=by simp only[Gb,jd];omega) hs Oa.rs (λv3 h3 Fc=>?_);obtain⟨p3,MK,e3⟩:=Fc.rs.len;subst e3;try refine ga ?_
 refine Wh (s.cells v) (CS.cells (s.push e) (.slice p3 (s.lg++[e]).length MK)) ?_;try refine ga ?_
 exact Wa [ta b (s.push e) (.slice p3 (s.lg++[e]).length MK),h3] rfl rfl ⟨rfl,_,h3,rfl,Fc⟩
variable{op:Int}
def CS.Og(s:CS)(clock:Int):List Int:=clock::s.lg.map (·.ct)
def CS.Ht(s:CS)(key val:ByteArray)(dead:Bool)(dp:V9)(clock cl op:Int):ya:=
 ⟨s.dc,s.rg,(ic s.rg s.lg).at s.dc.toNat+1,He (s.Og clock)+1,s.dc,s.rg,key,val,dead,dp,cl,op⟩
def CS.Cr(s:CS)(key val:ByteArray)(dead:Bool)(deps:V9)(clock cl op:Int):ya:=s.Ht key val dead (FE deps (jh s.lg)) clock cl op
def CS.vk(s:CS)(key val:ByteArray)(dead:Bool)(deps:V9)(clock cl op:Int):(Int×Int)×CS:=
 if ¬s.head then((0,90),s)
 else if 0<Pe s.lg cl op then((Pe s.lg cl op,0),s)
 else if ¬s.Tn deps then((0,91),s)
 else if 256<=s.len\/Lj s.dc s.rg (s.Og clock)=false then((0,2),s)
 else if ¬Xc (s.Cr key val dead deps clock cl op) then((0,1),s)
 else((s.len+1,0),s.push (s.Cr key val dead deps clock cl op))
def kI{ps:List ya}{cl:Int}{j:Nat}{p:ya}(hp:ps[j]? =some p)(hpk:p.cl=cl/\p.op=op)(hall:∀(i:Nat) (p:ya),i<j->ps[i]? =some p-> ¬(p.cl=cl/\p.op=op)):Pe ps cl op=(j:Int)+1:=by
 have:ps.findIdx? (λe=>decide (e.cl=cl/\e.op=op))=some j:=by
  rw[List.findIdx?_eq_some_iff_getElem];obtain⟨h1,h2⟩:=List.getElem?_eq_some_iff.1 hp;refine⟨h1,by rw[h2];simpa using hpk,λi hi=>?_⟩;have:=hall i _ hi (oh (by omega));simpa using this
 unfold Pe;rw[this]
def lI{ps:List ya}{cl:Int}(hall:∀(i:Nat) (p:ya),i<ps.length->ps[i]? =some p-> ¬(p.cl=cl/\p.op=op)):Pe ps cl op=0:=by
 have:ps.findIdx? (λe=>decide (e.cl=cl/\e.op=op))=none:=by
  rw[List.findIdx?_eq_none_iff];intro x hx;obtain⟨i,hi⟩:=mem_iff_getElem?.1 hx;have hlt':=(List.getElem?_eq_some_iff.1 hi).1;have:=hall i x (by omega) hi;simpa using this
 unfold Pe;rw[this]
abbrev J1(b:Nat)(l:List Value):Hp:=[(b,.cells (List.toArray l) 44 (0,0))]
def bR{s:CS}(ok:Lb s)(b:Nat){v:Value}{hv:Hp}(hs:ia 49 s.lg v hv)(key val:ByteArray)(dead:Bool)(deps:V9)(clock cl op:Int):
  Ct prog 238 [b,.string key,.string val,.bool dead,.agg (List.toArray deps.enc),clock,cl,op] [ta b s v,hv]
   (λr H'=>r= .tuple #[.int .i64 (s.vk key val dead deps clock cl op).1.1,.int .i64 (s.vk key val dead deps clock cl op).1.2]/\Ky (s.vk key val dead deps clock cl op).2 b H'):=by
 have hr:=hs.rs;obtain⟨vp,vc,rfl⟩:=hr.len;have jg:=ok.len;have hlen:s.len=(s.lg.length:Int):=rfl;have hih:=uk ok.co b (.slice vp s.lg.length vc);have ee:=Qp s b hr (by omega);have hpt:=yt deps s.rg;have di:=Pp (ic s.rg s.lg) (ug deps s.rg);have hpa:=RQ hr (by omega);have u7:=DM deps (jh s.lg);obtain⟨p,hp⟩:∃p,s.vk key val dead deps clock cl op=p:=⟨_,rfl⟩;rw[hp];unfold CS.vk at hp;obtain⟨cc,ZW⟩:∃c,ic s.rg s.lg=c:=⟨_,rfl⟩;by_cases c1:s.head;rotate_left
 .rw[if_pos c1] at hp;subst hp;rw[gj c1] at hih;refine ce func238 λg R=>?_;simp only[can];repeat' first|refine ga ?_|refine gS (λ_=>?_) λ_=>?_|refine Ud λ_=>?_|refine al λ_=>?_|refine Of (t:=47) deps.enc deps.enc ?_|refine cq hih ?_|refine cq ee ?_|refine cq hpt ?_|refine cq di ?_
  exact D.Vb [ta b s (.slice vp s.lg.length vc),hv] _ rfl rfl rfl ⟨rfl,_,hv,rfl,hs⟩
 rw[Fi c1] at hih;rw[if_neg (λh=>h c1)] at hp;refine ce func238 λg R=>?_;simp only[can];repeat' first|refine ga ?_|refine gS (λ_=>?_) λ_=>?_|refine Ud λ_=>?_|refine al λ_=>?_|refine Of (t:=47) deps.enc deps.enc ?_|refine cq hih ?_|refine cq ee ?_|refine cq hpt ?_|refine cq di ?_
 rename_i nj;refine W.h0 [Na nj deps,ta b s (.slice vp s.lg.length vc),hv,R] ?_
 refine W.lo (α:=Nat) (λi=>i<=s.lg.length/\∀(k:Nat) (p:ya),k<i->s.lg[k]? =some p-> ¬(p.cl=cl/\p.op=op)) (λi=>[(0,b),(1,.string key),(2,.string val),(3,.bool dead),(5,clock),(6,cl),(7,op),(12,nj),(18,.int .i64 (i:Int))])
  (λ_=>[Na nj deps,ta b s (.slice vp s.lg.length vc),hv,R]) (λi=>s.lg.length - i) 0 ⟨Gi _,λi p hi=>absurd hi (Nat.not_lt_zero _)⟩ ?_
 rintro i ⟨hi,hall⟩;by_cases hlt:i<s.lg.length
 .obtain⟨x,hx⟩:=Sh hlt;by_cases h1:x.cl=cl
  .by_cases h2:x.op=op
   .have hf:=kI hx ⟨h1,h2⟩ hall;rw[if_pos (by omega),hf] at hp;subst hp;repeat' first|refine ga ?_|refine gS (λ_=>?_) λ_=>?_|refine Ud λ_=>?_|refine al λ_=>?_|refine Of (t:=47) deps.enc deps.enc ?_|refine cq hih ?_|refine cq ee ?_|refine cq hpt ?_|refine cq di ?_
    exact D.Vb [ta b s (.slice vp s.lg.length vc),hv] _ rfl rfl rfl ⟨rfl,_,hv,rfl,hs⟩
   .repeat' first|refine ga ?_|refine gS (λ_=>?_) λ_=>?_|refine Ud λ_=>?_|refine al λ_=>?_|refine Of (t:=47) deps.enc deps.enc ?_|refine cq hih ?_|refine cq ee ?_|refine cq hpt ?_|refine cq di ?_
    refine D.rd (i+1) ⟨by omega,λk p hk hp=>?_⟩ (by omega);rcases Nat.lt_or_ge k i with h|h
    .exact hall k p h hp
    .obtain rfl:k=i:=by omega
     rw[hx] at hp;cases hp;exact λh=>h2 h.2
  .repeat' first|refine ga ?_|refine gS (λ_=>?_) λ_=>?_|refine Ud λ_=>?_|refine al λ_=>?_|refine Of (t:=47) deps.enc deps.enc ?_|refine cq hih ?_|refine cq ee ?_|refine cq hpt ?_|refine cq di ?_
   refine D.rd (i+1) ⟨by omega,λk p hk hp=>?_⟩ (by omega);rcases Nat.lt_or_ge k i with h|h
   .exact hall k p h hp
   .obtain rfl:k=i:=by omega
    rw[hx] at hp;cases hp;exact λh=>h1 h.1
 obtain rfl:i=s.lg.length:=by omega
 have hf:=lI hall;rw[if_neg (by omega)] at hp;clear hall;rw[ZW] at ee;by_cases c3:s.Tn deps;rotate_left
 .rw[if_pos c3] at hp;subst hp;rw[gj c3] at di;rw[ZW] at di;repeat' first|refine ga ?_|refine gS (λ_=>?_) λ_=>?_|refine Ud λ_=>?_|refine al λ_=>?_|refine Of (t:=47) deps.enc deps.enc ?_|refine cq hih ?_|refine cq ee ?_|refine cq hpt ?_|refine cq di ?_|refine nh V3.z.enc cc.enc ?_
  refine wq ?_;repeat' first|refine ga ?_|refine gS (λ_=>?_) λ_=>?_|refine Ud λ_=>?_|refine al λ_=>?_|refine Of (t:=47) deps.enc deps.enc ?_|refine cq hih ?_|refine cq ee ?_|refine cq hpt ?_|refine cq di ?_|refine Of (t:=50) cc.enc cc.enc ?_
  exact D.Vb [ta b s (.slice vp s.lg.length vc),hv] _ rfl rfl rfl ⟨rfl,_,hv,rfl,hs⟩
 rw[if_neg (λh=>h c3)] at hp;rw[Fi c3] at di;rw[ZW] at di;repeat' first|refine ga ?_|refine gS (λ_=>?_) λ_=>?_|refine Ud λ_=>?_|refine al λ_=>?_|refine Of (t:=47) deps.enc deps.enc ?_|refine cq hih ?_|refine cq ee ?_|refine cq hpt ?_|refine cq di ?_|refine nh V3.z.enc cc.enc ?_
 rename_i XZ;refine wq ?_;repeat' first|refine ga ?_|refine gS (λ_=>?_) λ_=>?_|refine Ud λ_=>?_|refine al λ_=>?_|refine Of (t:=47) deps.enc deps.enc ?_|refine cq hih ?_|refine cq ee ?_|refine cq hpt ?_|refine cq di ?_|refine Of (t:=50) cc.enc cc.enc ?_
 refine Kp [clock] (λv0 h0 hs0=>?_);repeat' first|refine ga ?_|refine gS (λ_=>?_) λ_=>?_|refine Ud λ_=>?_|refine al λ_=>?_|refine Of (t:=47) deps.enc deps.enc ?_|refine cq hih ?_|refine cq ee ?_|refine cq hpt ?_|refine cq di ?_
 refine WX.Ke ?_;refine Ys (zb:=by show(2*(0+1)+256)*_<=_;decide) (show ia 3 ([]:List Int) (.slice none 0 0) [] from ia.nil _) hs0.rs (λv1 h1 hs1=>?_);rw[nil_append] at hs1;repeat' first|refine ga ?_|refine gS (λ_=>?_) λ_=>?_|refine Ud λ_=>?_|refine al λ_=>?_|refine Of (t:=47) deps.enc deps.enc ?_|refine cq hih ?_|refine cq ee ?_|refine cq hpt ?_|refine cq di ?_
 refine W.lo (α:=Nat×Value×Hp) (λx=>x.1<=s.lg.length/\ia 3 (clock::(s.lg.take x.1).map (·.ct)) x.2.1 x.2.2) (λx=>[(0,b),(1,.string key),(2,.string val),(3,.bool dead),(6,cl),(7,op),(12,nj),(19,XZ),(20,x.2.1),(21,.int .i64 (x.1:Int))])
  (λx=>[x.2.2,Ac XZ cc,Na nj deps,ta b s (.slice vp s.lg.length vc),hv,R]) (λx=>s.lg.length - x.1) (0,v1,h1) ⟨Gi _,hs1⟩ ?_
 rintro⟨i,w,hw⟩ ⟨hi,hsw⟩;simp only[] at hi hsw⊢;have Hy:(clock::(s.lg.take i).map (·.ct)).length<=257:=by rw[Gb,We,Fe];omega
 by_cases hlt:i<s.lg.length
 .obtain⟨x,hx⟩:=Sh hlt;repeat' first|refine ga ?_|refine gS (λ_=>?_) λ_=>?_|refine Ud λ_=>?_|refine al λ_=>?_|refine Of (t:=47) deps.enc deps.enc ?_|refine cq hih ?_|refine cq ee ?_|refine cq hpt ?_|refine cq di ?_
  refine Kp [x.ct] (λv2 h2 Oa=>?_);repeat' first|refine ga ?_|refine gS (λ_=>?_) λ_=>?_|refine Ud λ_=>?_|refine al λ_=>?_|refine Of (t:=47) deps.enc deps.enc ?_|refine cq hih ?_|refine cq ee ?_|refine cq hpt ?_|refine cq di ?_
  refine Ys (zb:=by simp only[Gb,jd] at Hy⊢;omega) hsw Oa.rs (λv3 h3 Fc=>?_);have Fc:ia 3 (clock::(s.lg.take (i+1)).map (·.ct)) v3 h3:=by rw[take_add_one,hx,Ae];exact Fc
  repeat' first|refine ga ?_|refine gS (λ_=>?_) λ_=>?_|refine Ud λ_=>?_|refine al λ_=>?_|refine Of (t:=47) deps.enc deps.enc ?_|refine cq hih ?_|refine cq ee ?_|refine cq hpt ?_|refine cq di ?_
  exact D.rd (i+1,v3,h3) ⟨by simp only[];omega,Fc⟩ (by simp only[];omega)
 obtain rfl:i=s.lg.length:=by omega
 rw[take_length] at hsw Hy;have Le:=SQ s.dc s.rg hsw.rs (by omega);obtain⟨wp,wc,rfl⟩:=hsw.rs.len;clear hsw hs1;rw[show clock::s.lg.map (·.ct)=s.Og clock from rfl] at Le;repeat' first|refine ga ?_|refine gS (λ_=>?_) λ_=>?_|refine Ud λ_=>?_|refine al λ_=>?_|refine Of (t:=47) deps.enc deps.enc ?_|refine cq hih ?_|refine cq ee ?_|refine cq hpt ?_|refine cq di ?_
 refine W.Ar 8 [true,true,true,true,true,true,true,true,true,false,true,true,true,false,false] 13 [ta b s (.slice vp s.lg.length vc)] Tryz.mix (by kernel_rfl) rfl ?_;repeat' first|refine ga ?_|refine gS (λ_=>?_) λ_=>?_|refine Ud λ_=>?_|refine al λ_=>?_|refine Of (t:=47) deps.enc deps.enc ?_|refine cq hih ?_|refine cq ee ?_|refine cq hpt ?_|refine cq di ?_|refine cq Le ?_|refine WA.un ?_|refine WA.Se ?_|refine WA.back ?_|refine WA.an ?_ ?_|refine WA.nil ?_
 all_goals
  rename_i AG;by_cases c4:256<=s.len
  .rw[if_pos (.inl c4)] at hp;subst hp
   cases hno:Lj s.dc s.rg (s.Og clock) with
   |false=>
    repeat' first|refine ga ?_|refine gS (λ_=>?_) λ_=>?_|refine Ud λ_=>?_|refine al λ_=>?_|refine Of (t:=47) deps.enc deps.enc ?_|refine cq hih ?_|refine cq ee ?_|refine cq hpt ?_|refine cq di ?_|refine nh [.int .i64 0,.int .i64 0,.int .i64 0] (Un false (He (s.Og clock)+1) s.dc s.rg) ?_|refine WA.un ?_|refine WA.Se ?_|refine WA.back ?_|refine WA.an ?_ ?_|refine WA.nil ?_
    exact D.Vb [ta b s (.slice vp s.lg.length vc),hv] _ rfl rfl rfl ⟨rfl,_,hv,rfl,hs⟩
   |true=>
    repeat' first|refine ga ?_|refine gS (λ_=>?_) λ_=>?_|refine Ud λ_=>?_|refine al λ_=>?_|refine Of (t:=47) deps.enc deps.enc ?_|refine cq hih ?_|refine cq ee ?_|refine cq hpt ?_|refine cq di ?_|refine nh [.int .i64 0,.int .i64 0,.int .i64 0] (Un true (He (s.Og clock)+1) s.dc s.rg) ?_|refine WA.un ?_|refine WA.Se ?_|refine WA.back ?_|refine WA.an ?_ ?_|refine WA.nil ?_
    exact D.Vb [ta b s (.slice vp s.lg.length vc),hv] _ rfl rfl rfl ⟨rfl,_,hv,rfl,hs⟩
  cases hno:Lj s.dc s.rg (s.Og clock) with
  |false=>
   rw[if_pos (.inr hno)] at hp;subst hp;repeat' first|refine ga ?_|refine gS (λ_=>?_) λ_=>?_|refine Ud λ_=>?_|refine al λ_=>?_|refine Of (t:=47) deps.enc deps.enc ?_|refine cq hih ?_|refine cq ee ?_|refine cq hpt ?_|refine cq di ?_|refine nh [.int .i64 0,.int .i64 0,.int .i64 0] (Un false (He (s.Og clock)+1) s.dc s.rg) ?_|refine WA.un ?_|refine WA.Se ?_|refine WA.back ?_|refine WA.an ?_ ?_|refine WA.nil ?_
   exact D.Vb [ta b s (.slice vp s.lg.length vc),hv] _ rfl rfl rfl ⟨rfl,_,hv,rfl,hs⟩
  |true=>
   rw[if_neg (λh=>h.elim c4 (λh=>by rw[hno] at h;cases h))] at hp;repeat' first|refine ga ?_|refine gS (λ_=>?_) λ_=>?_|refine Ud λ_=>?_|refine al λ_=>?_|refine Of (t:=47) deps.enc deps.enc ?_|refine cq hih ?_|refine cq ee ?_|refine cq hpt ?_|refine cq di ?_|refine nh [.int .i64 0,.int .i64 0,.int .i64 0] (Un true (He (s.Og clock)+1) s.dc s.rg) ?_|refine WA.un ?_|refine WA.Se ?_|refine WA.back ?_|refine WA.an ?_ ?_|refine WA.nil ?_
   have yw:=(of_decide_eq_true hno).2;have q0:0<=s.dc:=yw.2.2.1;have q3:s.dc<3:=yw.2.2.2.1;subst ZW;have fO:s.dc.toNat<3:=by omega
   have hg:(ic s.rg s.lg).enc[0+s.dc.toNat*1]? =some (.int .i64 ((ic s.rg s.lg).at s.dc.toNat)):=by rw[show 0+s.dc.toNat*1=s.dc.toNat by omega];exact(ic s.rg s.lg).Vd fO
   have cB:=Ui s.rg ok.es fO;simp only[MC] at cB;refine sK (ml [23,2]) [ta b s (.slice vp s.lg.length vc),Ac XZ (ic s.rg s.lg),J1 AG (Un true (He (s.Og clock)+1) s.dc s.rg)] ?_;repeat' first|refine ga ?_|refine gS (λ_=>?_) λ_=>?_|refine Ud λ_=>?_|refine al λ_=>?_|refine Of (t:=47) deps.enc deps.enc ?_|refine cq hih ?_|refine cq ee ?_|refine cq hpt ?_|refine cq di ?_|refine lN (ic s.rg s.lg).enc _ rfl ?_ (hc:=hg)|refine Of (t:=44) (Un true (He (s.Og clock)+1) s.dc s.rg) (Un true (He (s.Og clock)+1) s.dc s.rg) ?_|refine Vf (t:=42) [s.dc,s.rg,.int .i64 ((ic s.rg s.lg).at s.dc.toNat+1)] ?_|refine Vf (t:=49) (s.Ht key val dead V9.z clock cl op).enc ?_|refine nh ya.z.enc (s.Ht key val dead V9.z clock cl op).enc ?_
   rename_i b24;refine sK (ml [5,2,1,1]) [Na nj deps,ta b s (.slice vp s.lg.length vc)] ?_;repeat' first|refine ga ?_|refine gS (λ_=>?_) λ_=>?_|refine Ud λ_=>?_|refine al λ_=>?_|refine Of (t:=47) deps.enc deps.enc ?_|refine cq hih ?_|refine cq ee ?_|refine cq hpt ?_|refine cq di ?_
   refine ck hpa ?_;rintro _ _ ⟨rfl,rfl⟩;simp only[can];repeat' first|refine ga ?_|refine gS (λ_=>?_) λ_=>?_|refine Ud λ_=>?_|refine al λ_=>?_|refine Of (t:=47) deps.enc deps.enc ?_|refine cq hih ?_|refine cq ee ?_|refine cq hpt ?_|refine cq di ?_|refine cq u7 ?_|refine NQ (s.Ht key val dead V9.z clock cl op).enc (FE deps (jh s.lg)).enc (s.Cr key val dead deps clock cl op).enc rfl rfl ?_
   have kj:=Bt (s.Cr key val dead deps clock cl op);generalize s.Cr key val dead deps clock cl op=e at kj hp⊢;by_cases hE:Xc e
   .rw[Fi hE] at kj;rw[if_neg (λh=>h hE)] at hp;subst hp;repeat' first|refine ga ?_|refine gS (λ_=>?_) λ_=>?_|refine Ud λ_=>?_|refine al λ_=>?_|refine Of (t:=47) deps.enc deps.enc ?_|refine cq hih ?_|refine cq ee ?_|refine cq hpt ?_|refine cq di ?_|refine Of (t:=49) e.enc e.enc ?_|refine cq kj ?_
    refine sK (ml [6,2]) [ta b s (.slice vp s.lg.length vc),Fb b24 e] ?_;repeat' first|refine ga ?_|refine gS (λ_=>?_) λ_=>?_|refine Ud λ_=>?_|refine al λ_=>?_|refine Of (t:=47) deps.enc deps.enc ?_|refine cq hih ?_|refine cq ee ?_|refine cq hpt ?_|refine cq di ?_|refine Of (t:=49) e.enc e.enc ?_
    refine Kp [e] (λv2 h2 Oa=>?_);repeat' first|refine ga ?_|refine gS (λ_=>?_) λ_=>?_|refine Ud λ_=>?_|refine al λ_=>?_|refine Of (t:=47) deps.enc deps.enc ?_|refine cq hih ?_|refine cq ee ?_|refine cq hpt ?_|refine cq di ?_
    refine Ys (zb:=by simp only[Gb,jd];omega) hs Oa.rs (λv3 h3 Fc=>?_);obtain⟨p3,MK,e3⟩:=Fc.rs.len;subst e3;repeat' first|refine ga ?_|refine gS (λ_=>?_) λ_=>?_|refine Ud λ_=>?_|refine al λ_=>?_|refine Of (t:=47) deps.enc deps.enc ?_|refine cq hih ?_|refine cq ee ?_|refine cq hpt ?_|refine cq di ?_
    refine Wh (s.cells (.slice vp s.lg.length vc)) (CS.cells (s.push e) (.slice p3 (s.lg++[e]).length MK)) ?_;repeat' first|refine ga ?_|refine gS (λ_=>?_) λ_=>?_|refine Ud λ_=>?_|refine al λ_=>?_|refine Of (t:=47) deps.enc deps.enc ?_|refine cq hih ?_|refine cq ee ?_|refine cq hpt ?_|refine cq di ?_
    have nO:((s.lg++[e]).length:Int)=s.len+1:=by rw[hlen,Cb];rfl
    rw[nO];exact D.Vb [ta b (s.push e) (.slice p3 (s.lg++[e]).length MK),h3] _ rfl rfl rfl ⟨rfl,_,h3,rfl,Fc⟩
   .rw[gj hE] at kj;rw[if_pos hE] at hp;subst hp;repeat' first|refine ga ?_|refine gS (λ_=>?_) λ_=>?_|refine Ud λ_=>?_|refine al λ_=>?_|refine Of (t:=47) deps.enc deps.enc ?_|refine cq hih ?_|refine cq ee ?_|refine cq hpt ?_|refine cq di ?_|refine Of (t:=49) e.enc e.enc ?_|refine cq kj ?_
    exact D.Vb [ta b s (.slice vp s.lg.length vc),hv] _ rfl rfl rfl ⟨rfl,_,hv,rfl,hs⟩
end Go.Proofs.YthebagfahkebiaaGreat
