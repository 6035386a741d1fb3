/- Texts of one road. -/
import Derived.Test.YthebagfahkebiaaGreatRAK
import Derived.Test.YthebagfahkebiaaGreatRAS
set_option linter.all false
set_option maxHeartbeats 8000000
set_option maxRecDepth 20000
namespace Go.Proofs.YthebagfahkebiaaGreat
open Go Go.Sl Go.Proofs.Tryz List
def FG(dc rg nd:Int)(x:Wa)(sn bs:Int){es:List ya}{u:Value}{h:Hp}(hs:Rs es u h)(hl:es.length<=1000000):
  Ct prog 254 [dc,rg,nd,.agg (List.toArray x.enc),sn,bs,u] [h]
   (λr H'=>∃b v hv,r= .pointer (some ⟨b,0,none⟩)/\H'=[ta b (CS.restore dc rg nd x sn bs es) v,hv,h]/\ia 49 (CS.restore dc rg nd x sn bs es).lg v hv):=by
 have vv:(CS.restore dc rg nd x sn bs es).lg=es:=(Na (CS.pg dc rg nd x sn bs es)).2.2.2.2.2.2.1;have Hx:=qo x;obtain⟨up,uc,rfl⟩:=hs.len;by_cases hR:Md x
 .rw[Mi hR] at Hx;obtain⟨c,Xy,xb,hch⟩:=Yi hR
  have XH:CS.restore dc rg nd x sn bs es=CS.settle ⟨dc,rg,nd,some c,sn,mx 0 (mn bs (es.length:Int)),es,(es.length:Int),0,0,(es.length:Int),false⟩:=by
   unfold CS.restore CS.pg;rw[if_pos hR,hch]
  have hO:Ni (some c):=Ni.some xb;rw[XH] at vv⊢;subst Xy;clear hch XH hR;refine ce func254 λg R=>?_;repeat' first|refine Za ?_|refine Uc λ_=>?_
  rename_i NX;refine ck (Ut dc rg nd) ?_;rintro _ _ ⟨b,rfl,rfl⟩;repeat' first|refine Za ?_|refine Pg c.cfg.enc ?_|refine cq Hx ?_
  refine ZQ ((CS.new dc rg nd).cells (.slice none 0 0)) c.cfg.enc (CS.cells ⟨dc,rg,nd,some c,0,0,[],0,0,0,0,false⟩ (.slice none 0 0)) rfl rfl ?_;try refine ga ?_
  refine ei (CS.cells ⟨dc,rg,nd,(some c),0,0,[],0,0,0,0,false⟩ (.slice none 0 0)) (CS.cells ⟨dc,rg,nd,(some c),sn,0,[],0,0,0,0,false⟩ (.slice none 0 0)) ?_;try refine ga ?_
  refine WX.Pe ?_;refine Jt (zb:=by show(2*(0+es.length)+256)*_<=_;omega) (show ia 49 ([]:List ya) (.slice none 0 0) [] from ia.nil _) hs (λv1 h1 hs1=>?_);rw[nil_append] at hs1;obtain⟨p1,c1,e1⟩:=hs1.rs.len;subst e1;try refine ga ?_
  refine ei (CS.cells ⟨dc,rg,nd,(some c),sn,0,[],0,0,0,0,false⟩ (.slice none 0 0)) (CS.cells ⟨dc,rg,nd,(some c),sn,0,es,0,0,0,0,false⟩ (.slice p1 es.length c1)) ?_;try refine ga ?_
  refine ei (CS.cells ⟨dc,rg,nd,(some c),sn,0,es,0,0,0,0,false⟩ (.slice p1 es.length c1)) (CS.cells ⟨dc,rg,nd,(some c),sn,0,es,(es.length:Int),0,0,0,false⟩ (.slice p1 es.length c1)) ?_;try refine ga ?_
  refine ei (CS.cells ⟨dc,rg,nd,(some c),sn,0,es,(es.length:Int),0,0,0,false⟩ (.slice p1 es.length c1)) (CS.cells ⟨dc,rg,nd,(some c),sn,0,es,(es.length:Int),0,0,(es.length:Int),false⟩ (.slice p1 es.length c1)) ?_;try refine ga ?_
  refine ei (CS.cells ⟨dc,rg,nd,(some c),sn,0,es,(es.length:Int),0,0,(es.length:Int),false⟩ (.slice p1 es.length c1)) (CS.cells ⟨dc,rg,nd,(some c),sn,mx 0 (mn bs (es.length:Int)),es,(es.length:Int),0,0,(es.length:Int),false⟩ (.slice p1 es.length c1)) ?_;try refine ga ?_
  refine ck (Kf (s:=⟨dc,rg,nd,(some c),sn,mx 0 (mn bs (es.length:Int)),es,(es.length:Int),0,0,(es.length:Int),false⟩) hO b (.slice p1 es.length c1)) ?_;rintro _ _ ⟨rfl,rfl⟩;refine Za ?_;exact Xa [ta b (CS.settle ⟨dc,rg,nd,(some c),sn,mx 0 (mn bs (es.length:Int)),es,(es.length:Int),0,0,(es.length:Int),false⟩) (.slice p1 es.length c1),h1,h] rfl rfl ⟨b,.slice p1 es.length c1,h1,rfl,rfl,by rw[vv];exact hs1⟩
 .rw[rj hR] at Hx
  have XH:CS.restore dc rg nd x sn bs es=CS.settle ⟨dc,rg,nd,none,sn,mx 0 (mn bs (es.length:Int)),es,(es.length:Int),0,0,(es.length:Int),false⟩:=by
   unfold CS.restore CS.pg;rw[if_neg hR]
  have hO:Ni none:=Ni.none;rw[XH] at vv⊢;clear XH;refine ce func254 λg R=>?_;repeat' first|refine Za ?_|refine Uc λ_=>?_
  rename_i NX;refine ck (Ut dc rg nd) ?_;rintro _ _ ⟨b,rfl,rfl⟩;repeat' first|refine Za ?_|refine Pg x.enc ?_|refine cq Hx ?_
  refine ei (CS.cells ⟨dc,rg,nd,none,0,0,[],0,0,0,0,false⟩ (.slice none 0 0)) (CS.cells ⟨dc,rg,nd,none,sn,0,[],0,0,0,0,false⟩ (.slice none 0 0)) ?_;try refine ga ?_
  refine WX.Pe ?_;refine Jt (zb:=by show(2*(0+es.length)+256)*_<=_;omega) (show ia 49 ([]:List ya) (.slice none 0 0) [] from ia.nil _) hs (λv1 h1 hs1=>?_);rw[nil_append] at hs1;obtain⟨p1,c1,e1⟩:=hs1.rs.len;subst e1;try refine ga ?_
  refine ei (CS.cells ⟨dc,rg,nd,none,sn,0,[],0,0,0,0,false⟩ (.slice none 0 0)) (CS.cells ⟨dc,rg,nd,none,sn,0,es,0,0,0,0,false⟩ (.slice p1 es.length c1)) ?_;try refine ga ?_
  refine ei (CS.cells ⟨dc,rg,nd,none,sn,0,es,0,0,0,0,false⟩ (.slice p1 es.length c1)) (CS.cells ⟨dc,rg,nd,none,sn,0,es,(es.length:Int),0,0,0,false⟩ (.slice p1 es.length c1)) ?_;try refine ga ?_
  refine ei (CS.cells ⟨dc,rg,nd,none,sn,0,es,(es.length:Int),0,0,0,false⟩ (.slice p1 es.length c1)) (CS.cells ⟨dc,rg,nd,none,sn,0,es,(es.length:Int),0,0,(es.length:Int),false⟩ (.slice p1 es.length c1)) ?_;try refine ga ?_
  refine ei (CS.cells ⟨dc,rg,nd,none,sn,0,es,(es.length:Int),0,0,(es.length:Int),false⟩ (.slice p1 es.length c1)) (CS.cells ⟨dc,rg,nd,none,sn,mx 0 (mn bs (es.length:Int)),es,(es.length:Int),0,0,(es.length:Int),false⟩ (.slice p1 es.length c1)) ?_;try refine ga ?_
  refine ck (Kf (s:=⟨dc,rg,nd,none,sn,mx 0 (mn bs (es.length:Int)),es,(es.length:Int),0,0,(es.length:Int),false⟩) hO b (.slice p1 es.length c1)) ?_;rintro _ _ ⟨rfl,rfl⟩;refine Za ?_;exact Xa [ta b (CS.settle ⟨dc,rg,nd,none,sn,mx 0 (mn bs (es.length:Int)),es,(es.length:Int),0,0,(es.length:Int),false⟩) (.slice p1 es.length c1),h1,h] rfl rfl ⟨b,.slice p1 es.length c1,h1,rfl,rfl,by rw[vv];exact hs1⟩
def qI{c:Ch}(ok:Ag c)(k:Int):0<=Zb (some c) k:=by
 unfold Zb;simp only[]
 cases hf:c.all.findIdx? (λp=>decide (p.nd=k)) with
 |none=>exact Int.le_refl 0
 |some j=>
  obtain⟨hj,_⟩:=List.findIdx?_eq_some_iff_getElem.1 hf;have:=(ok.rg _ (getElem_mem hj)).2.2.1;simp only[getD_eq_getElem?_getD,Wg hj,Option.getD_some];omega
def fL{s:CS}(ok:Ob s)(b:Nat){v:Value}{hv:Hp}(hs:ia 49 s.lg v hv)(x:Wa):
  Ct prog 136 [b,.agg (List.toArray x.enc)] [ta b s v,hv] (λr H'=>r= .tuple #[.bool (s.enter x).1.1,.int .i64 (s.enter x).1.2]/\bz (s.enter x).2 b H'):=by
 have hr:=hs.rs;have Hx:=qo x;obtain⟨up,uc,rfl⟩:=hr.len;by_cases hR:Md x;rotate_left
 .rw[rj hR] at Hx;have e0:s.enter x=((false,1),s):=if_pos hR;rw[e0];refine ce func136 λg R=>?_;repeat' first|refine Za ?_|refine Uc λ_=>?_|refine Pg x.enc ?_|refine cq Hx ?_
  exact D.Vb [ta b s (.slice up s.lg.length uc),hv] _ rfl rfl rfl ⟨rfl,_,hv,rfl,hs⟩
 rw[Mi hR] at Hx;by_cases EU:x.ep<=(jc s.co).ep
 .have e0:s.enter x=((false,80),s):=by unfold CS.enter;rw[if_neg (λh=>h hR),if_pos EU]
  rw[e0];refine ce func136 λg R=>?_;repeat' first|refine Za ?_|refine Uc λ_=>?_|refine Pg x.enc ?_|refine cq Hx ?_
  refine sj ?_;exact D.Vb [ta b s (.slice up s.lg.length uc),hv] _ rfl rfl rfl ⟨rfl,_,hv,rfl,hs⟩
 have e0:s.enter x=((s.qi x,0),(s.Tc x).settle):=by unfold CS.enter;rw[if_neg (λh=>h hR),if_neg EU]
 rw[e0];obtain⟨c,Xy,xb,hch⟩:=Yi hR;have hsi:=oF (Ni.some xb) s.nd;have VA:=qI xb s.nd;subst Xy;by_cases h1:Zb (some c) s.nd≠0/\Zb (some c) s.nd≠s.sn
 .have e1:s.Tc c.cfg=⟨s.dc,s.rg,s.nd,some c,Zb (some c) s.nd,0,[],0,0,0,0,true⟩:=by unfold CS.Tc;rw[hch,if_pos h1]
  have e2:s.qi c.cfg=true:=by unfold CS.qi;rw[hch];exact Mi h1
  rw[e1,e2];obtain⟨k1,k2⟩:=h1;clear e0 e1 e2 hch;generalize Zb (some c) s.nd=z at hsi k1 k2 VA⊢;have k3:0<z:=by omega
  refine ce func136 λg R=>?_;repeat' first|refine Za ?_|refine Uc λ_=>?_|refine Pg c.cfg.enc ?_|refine cq Hx ?_
  rename_i b3;refine sj ?_;refine wq ?_;repeat' first|refine ga ?_|refine Pg c.cfg.enc ?_|refine cq hsi ?_
  refine ei (CS.cells s (.slice up s.lg.length uc)) (CS.cells ⟨s.dc,s.rg,s.nd,s.co,z,s.bs,s.lg,s.du,s.st,s.ak,s.ow,s.su⟩ (.slice up s.lg.length uc)) ?_;try refine ga ?_
  refine ei (CS.cells ⟨s.dc,s.rg,s.nd,s.co,z,s.bs,s.lg,s.du,s.st,s.ak,s.ow,s.su⟩ (.slice up s.lg.length uc)) (CS.cells ⟨s.dc,s.rg,s.nd,s.co,z,s.bs,[],s.du,s.st,s.ak,s.ow,s.su⟩ (.slice none 0 0)) ?_;try refine ga ?_
  refine ei (CS.cells ⟨s.dc,s.rg,s.nd,s.co,z,s.bs,[],s.du,s.st,s.ak,s.ow,s.su⟩ (.slice none 0 0)) (CS.cells ⟨s.dc,s.rg,s.nd,s.co,z,s.bs,[],s.du,0,s.ak,s.ow,s.su⟩ (.slice none 0 0)) ?_;repeat' first|refine ga ?_|refine Pg c.cfg.enc ?_
  refine ZQ (CS.cells ⟨s.dc,s.rg,s.nd,s.co,z,s.bs,([]:List ya),s.du,0,s.ak,s.ow,s.su⟩ (.slice none 0 0)) c.cfg.enc (CS.cells ⟨s.dc,s.rg,s.nd,some c,z,s.bs,([]:List ya),s.du,0,s.ak,s.ow,s.su⟩ (.slice none 0 0)) rfl rfl ?_;try refine ga ?_
  refine ei (CS.cells ⟨s.dc,s.rg,s.nd,some c,z,s.bs,([]:List ya),s.du,0,s.ak,s.ow,s.su⟩ (.slice none 0 0)) (CS.cells ⟨s.dc,s.rg,s.nd,some c,z,s.bs,([]:List ya),(0:Int),0,s.ak,s.ow,s.su⟩ (.slice none 0 0)) ?_;try refine ga ?_
  refine ei (CS.cells ⟨s.dc,s.rg,s.nd,some c,z,s.bs,([]:List ya),(0:Int),0,s.ak,s.ow,s.su⟩ (.slice none 0 0)) (CS.cells ⟨s.dc,s.rg,s.nd,some c,z,(0:Int),([]:List ya),(0:Int),0,s.ak,s.ow,s.su⟩ (.slice none 0 0)) ?_;try refine ga ?_
  refine ei (CS.cells ⟨s.dc,s.rg,s.nd,some c,z,(0:Int),([]:List ya),(0:Int),0,s.ak,s.ow,s.su⟩ (.slice none 0 0)) (CS.cells ⟨s.dc,s.rg,s.nd,some c,z,(0:Int),([]:List ya),(0:Int),0,0,s.ow,s.su⟩ (.slice none 0 0)) ?_;try refine ga ?_
  refine ei (CS.cells ⟨s.dc,s.rg,s.nd,some c,z,(0:Int),([]:List ya),(0:Int),0,0,s.ow,s.su⟩ (.slice none 0 0)) (CS.cells ⟨s.dc,s.rg,s.nd,some c,z,(0:Int),([]:List ya),(0:Int),0,0,0,s.su⟩ (.slice none 0 0)) ?_;try refine ga ?_
  refine ei (CS.cells ⟨s.dc,s.rg,s.nd,some c,z,(0:Int),([]:List ya),(0:Int),0,0,0,s.su⟩ (.slice none 0 0)) (CS.cells ⟨s.dc,s.rg,s.nd,some c,z,(0:Int),([]:List ya),(0:Int),0,0,0,true⟩ (.slice none 0 0)) ?_;try refine ga ?_
  refine ck (Kf (s:=⟨s.dc,s.rg,s.nd,some c,z,(0:Int),([]:List ya),(0:Int),0,0,0,true⟩) (Ni.some xb) b (.slice none 0 0)) ?_;rintro _ _ ⟨rfl,rfl⟩;refine Za ?_;refine D.Pe ?_;exact D.Vb [ta b (CS.settle ⟨s.dc,s.rg,s.nd,some c,z,0,[],0,0,0,0,true⟩) (.slice none 0 0),[]] _ rfl rfl rfl ⟨rfl,_,[],rfl,by rw[(Na _).2.2.2.2.2.2.1];exact ia.nil _⟩
 .have e1:s.Tc c.cfg=⟨s.dc,s.rg,s.nd,some c,s.sn,s.len,s.lg,s.len,s.st,0,0,true⟩:=by unfold CS.Tc;rw[hch,if_neg h1]
  have e2:s.qi c.cfg=false:=by unfold CS.qi;rw[hch];exact rj h1
  rw[e1,e2];clear e0 e1 e2 hch;generalize Zb (some c) s.nd=z at hsi h1 VA;refine ce func136 λg R=>?_;repeat' first|refine Za ?_|refine Uc λ_=>?_|refine Pg c.cfg.enc ?_|refine cq Hx ?_
  rename_i b3;refine sj ?_;refine wq ?_;by_cases k1:z≠0
  .have k2:z=s.sn:=Classical.byContradiction λh=>h1 ⟨k1,h⟩;have k3:0<z:=by omega
   repeat' first|refine ga ?_|refine Pg c.cfg.enc ?_|refine cq hsi ?_
   refine ZQ (CS.cells ⟨s.dc,s.rg,s.nd,s.co,s.sn,s.bs,s.lg,s.du,s.st,s.ak,s.ow,s.su⟩ (.slice up s.lg.length uc)) c.cfg.enc (CS.cells ⟨s.dc,s.rg,s.nd,some c,s.sn,s.bs,s.lg,s.du,s.st,s.ak,s.ow,s.su⟩ (.slice up s.lg.length uc)) rfl rfl ?_;try refine ga ?_
   refine ei (CS.cells ⟨s.dc,s.rg,s.nd,some c,s.sn,s.bs,s.lg,s.du,s.st,s.ak,s.ow,s.su⟩ (.slice up s.lg.length uc)) (CS.cells ⟨s.dc,s.rg,s.nd,some c,s.sn,s.bs,s.lg,(s.len:Int),s.st,s.ak,s.ow,s.su⟩ (.slice up s.lg.length uc)) ?_;try refine ga ?_
   refine ei (CS.cells ⟨s.dc,s.rg,s.nd,some c,s.sn,s.bs,s.lg,(s.len:Int),s.st,s.ak,s.ow,s.su⟩ (.slice up s.lg.length uc)) (CS.cells ⟨s.dc,s.rg,s.nd,some c,s.sn,(s.len:Int),s.lg,(s.len:Int),s.st,s.ak,s.ow,s.su⟩ (.slice up s.lg.length uc)) ?_;try refine ga ?_
   refine ei (CS.cells ⟨s.dc,s.rg,s.nd,some c,s.sn,(s.len:Int),s.lg,(s.len:Int),s.st,s.ak,s.ow,s.su⟩ (.slice up s.lg.length uc)) (CS.cells ⟨s.dc,s.rg,s.nd,some c,s.sn,(s.len:Int),s.lg,(s.len:Int),s.st,0,s.ow,s.su⟩ (.slice up s.lg.length uc)) ?_;try refine ga ?_
   refine ei (CS.cells ⟨s.dc,s.rg,s.nd,some c,s.sn,(s.len:Int),s.lg,(s.len:Int),s.st,0,s.ow,s.su⟩ (.slice up s.lg.length uc)) (CS.cells ⟨s.dc,s.rg,s.nd,some c,s.sn,(s.len:Int),s.lg,(s.len:Int),s.st,0,0,s.su⟩ (.slice up s.lg.length uc)) ?_;try refine ga ?_
   refine ei (CS.cells ⟨s.dc,s.rg,s.nd,some c,s.sn,(s.len:Int),s.lg,(s.len:Int),s.st,0,0,s.su⟩ (.slice up s.lg.length uc)) (CS.cells ⟨s.dc,s.rg,s.nd,some c,s.sn,(s.len:Int),s.lg,(s.len:Int),s.st,0,0,true⟩ (.slice up s.lg.length uc)) ?_;try refine ga ?_
   refine ck (Kf (s:=⟨s.dc,s.rg,s.nd,some c,s.sn,(s.len:Int),s.lg,(s.len:Int),s.st,0,0,true⟩) (Ni.some xb) b (.slice up s.lg.length uc)) ?_;rintro _ _ ⟨rfl,rfl⟩;refine Za ?_;exact D.Vb [ta b (CS.settle ⟨s.dc,s.rg,s.nd,some c,s.sn,s.len,s.lg,s.len,s.st,0,0,true⟩) (.slice up s.lg.length uc),hv] _ rfl rfl rfl ⟨rfl,_,hv,rfl,by rw[(Na _).2.2.2.2.2.2.1];exact hs⟩
  .have k2:z=0:=Classical.not_not.1 k1;repeat' first|refine ga ?_|refine Pg c.cfg.enc ?_|refine cq hsi ?_
   refine ZQ (CS.cells ⟨s.dc,s.rg,s.nd,s.co,s.sn,s.bs,s.lg,s.du,s.st,s.ak,s.ow,s.su⟩ (.slice up s.lg.length uc)) c.cfg.enc (CS.cells ⟨s.dc,s.rg,s.nd,some c,s.sn,s.bs,s.lg,s.du,s.st,s.ak,s.ow,s.su⟩ (.slice up s.lg.length uc)) rfl rfl ?_;try refine ga ?_
   refine ei (CS.cells ⟨s.dc,s.rg,s.nd,some c,s.sn,s.bs,s.lg,s.du,s.st,s.ak,s.ow,s.su⟩ (.slice up s.lg.length uc)) (CS.cells ⟨s.dc,s.rg,s.nd,some c,s.sn,s.bs,s.lg,(s.len:Int),s.st,s.ak,s.ow,s.su⟩ (.slice up s.lg.length uc)) ?_;try refine ga ?_
   refine ei (CS.cells ⟨s.dc,s.rg,s.nd,some c,s.sn,s.bs,s.lg,(s.len:Int),s.st,s.ak,s.ow,s.su⟩ (.slice up s.lg.length uc)) (CS.cells ⟨s.dc,s.rg,s.nd,some c,s.sn,(s.len:Int),s.lg,(s.len:Int),s.st,s.ak,s.ow,s.su⟩ (.slice up s.lg.length uc)) ?_;try refine ga ?_
   refine ei (CS.cells ⟨s.dc,s.rg,s.nd,some c,s.sn,(s.len:Int),s.lg,(s.len:Int),s.st,s.ak,s.ow,s.su⟩ (.slice up s.lg.length uc)) (CS.cells ⟨s.dc,s.rg,s.nd,some c,s.sn,(s.len:Int),s.lg,(s.len:Int),s.st,0,s.ow,s.su⟩ (.slice up s.lg.length uc)) ?_;try refine ga ?_
   refine ei (CS.cells ⟨s.dc,s.rg,s.nd,some c,s.sn,(s.len:Int),s.lg,(s.len:Int),s.st,0,s.ow,s.su⟩ (.slice up s.lg.length uc)) (CS.cells ⟨s.dc,s.rg,s.nd,some c,s.sn,(s.len:Int),s.lg,(s.len:Int),s.st,0,0,s.su⟩ (.slice up s.lg.length uc)) ?_;try refine ga ?_
   refine ei (CS.cells ⟨s.dc,s.rg,s.nd,some c,s.sn,(s.len:Int),s.lg,(s.len:Int),s.st,0,0,s.su⟩ (.slice up s.lg.length uc)) (CS.cells ⟨s.dc,s.rg,s.nd,some c,s.sn,(s.len:Int),s.lg,(s.len:Int),s.st,0,0,true⟩ (.slice up s.lg.length uc)) ?_;try refine ga ?_
   refine ck (Kf (s:=⟨s.dc,s.rg,s.nd,some c,s.sn,(s.len:Int),s.lg,(s.len:Int),s.st,0,0,true⟩) (Ni.some xb) b (.slice up s.lg.length uc)) ?_;rintro _ _ ⟨rfl,rfl⟩;refine Za ?_;exact D.Vb [ta b (CS.settle ⟨s.dc,s.rg,s.nd,some c,s.sn,s.len,s.lg,s.len,s.st,0,0,true⟩) (.slice up s.lg.length uc),hv] _ rfl rfl rfl ⟨rfl,_,hv,rfl,by rw[(Na _).2.2.2.2.2.2.1];exact hs⟩
def CS.Jc(s:CS)(e:ya):Int×CS:=
 if ¬s.head then(90,s)
 else if ¬ud e\/e.rg≠s.rg\/e.dc=s.dc then(1,s)
 else if e.sq<=(Bc s.rg s.lg).at e.dc.toNat then(80,s)
 else if e.sq>(Bc s.rg s.lg).at e.dc.toNat+1 then(91,s)
 else if ¬s.Yn e.dp then(91,s)
 else if 256<=s.len then(2,s)
 else(0,s.push e)
def rI{s:CS}(ok:Ob s)(b:Nat){v:Value}{hv:Hp}(hs:ia 49 s.lg v hv)(e:ya):
  Ct prog 248 [b,.agg (List.toArray e.enc)] [ta b s v,hv] (λr H'=>r= .int .i64 (s.Jc e).1/\bz (s.Jc e).2 b H'):=by
 have hr:=hs.rs;have tg:=ok.len;have hlen:s.len=(s.lg.length:Int):=rfl;have hih:=xk ok.co b v;have ji:=Rt e;have je:=bq s b hr (by omega);have hpt:=Qt e.dp s.rg;have si:=Zp (Bc s.rg s.lg) (og e.dp s.rg);by_cases c1:s.head;rotate_left
 .have e0:s.Jc e=(90,s):=if_pos c1;rw[e0];rw[rj c1] at hih;clear je ji hpt si;refine ce func248 λg R=>?_;repeat' first|refine Za ?_|refine Uc λ_=>?_|refine cq hih ?_
  exact Xa [ta b s v,hv] rfl rfl ⟨rfl,v,hv,rfl,hs⟩
 rw[Mi c1] at hih;by_cases c2:ud e/\e.rg=s.rg/\ ¬e.dc=s.dc;rotate_left
 .have e0:s.Jc e=(1,s):=by
   unfold CS.Jc;rw[if_neg (λh=>h c1),if_pos];by_cases k1:ud e
   .by_cases k2:e.rg=s.rg
    .exact .inr (.inr (Classical.byContradiction λk3=>c2 ⟨k1,k2,k3⟩))
    .exact .inr (.inl k2)
   .exact .inl k1
  rw[e0];refine ce func248 λg R=>?_;repeat' first|refine Za ?_|refine Uc λ_=>?_|refine cq hih ?_
  refine wq ?_;by_cases k1:ud e
  .rw[Mi k1] at ji;by_cases k2:e.rg=s.rg
   .have k3:e.dc=s.dc:=Classical.byContradiction λk3=>c2 ⟨k1,k2,k3⟩;repeat' first|refine ga ?_|refine Xf (t:=49) e.enc e.enc ?_|refine cq ji ?_
    exact Xa [ta b s v,hv] rfl rfl ⟨rfl,v,hv,rfl,hs⟩
   .repeat' first|refine ga ?_|refine Xf (t:=49) e.enc e.enc ?_|refine cq ji ?_
    exact Xa [ta b s v,hv] rfl rfl ⟨rfl,v,hv,rfl,hs⟩
  .rw[rj k1] at ji;repeat' first|refine ga ?_|refine Xf (t:=49) e.enc e.enc ?_|refine cq ji ?_
   exact Xa [ta b s v,hv] rfl rfl ⟨rfl,v,hv,rfl,hs⟩
 obtain⟨k1,k2,k3⟩:=c2;rw[Mi k1] at ji
 have ic: ¬(¬ud e\/e.rg≠s.rg\/e.dc=s.dc):=by
  rintro(h|h|h)
  .exact h k1
  .exact h k2
  .exact k3 h
 have xO:e.dc.toNat<3:=by have:=k1.ch.1;have:=k1.ch.2.1;omega
 have Cj:=(Bc s.rg s.lg).Wd xO;have cB:=Zi s.rg ok.es xO;simp only[MC] at cB;obtain⟨y,hy⟩:∃y,(Bc s.rg s.lg).at e.dc.toNat=y:=⟨_,rfl⟩;rw[hy] at Cj cB;obtain⟨cl,Ah⟩:∃c,Bc s.rg s.lg=c:=⟨_,rfl⟩;have hg:cl.enc[0+e.dc.toNat*1]? =some (.int .i64 y):=by rw[<-Ah,show 0+e.dc.toNat*1=e.dc.toNat by omega];exact Cj
 have q0:0<=e.dc:=k1.ch.1;have q3:e.dc<3:=k1.ch.2.1;by_cases c3:e.sq<=y
 .have e0:s.Jc e=(80,s):=by unfold CS.Jc;rw[if_neg (λh=>h c1),if_neg ic,hy,if_pos c3]
  rw[e0];rw[Ah] at je;refine ce func248 λg R=>?_;repeat' first|refine Za ?_|refine Uc λ_=>?_|refine cq hih ?_
  refine wq ?_;repeat' first|refine ga ?_|refine al λ_=>?_|refine Xf (t:=49) e.enc e.enc ?_|refine cq ji ?_|refine cq je ?_|refine xg V3.z.enc cl.enc ?_
  refine wq ?_;repeat' first|refine ga ?_|refine lN cl.enc _ rfl ?_ (hc:=hg)
  exact Xa [ta b s v,hv] rfl rfl ⟨rfl,v,hv,rfl,hs⟩
 by_cases c4:e.sq>y+1
 .have e0:s.Jc e=(91,s):=by unfold CS.Jc;rw[if_neg (λh=>h c1),if_neg ic,hy,if_neg c3,if_pos c4]
  rw[e0];rw[Ah] at je;refine ce func248 λg R=>?_;repeat' first|refine Za ?_|refine Uc λ_=>?_|refine cq hih ?_
  refine wq ?_;repeat' first|refine ga ?_|refine al λ_=>?_|refine Xf (t:=49) e.enc e.enc ?_|refine cq ji ?_|refine cq je ?_|refine xg V3.z.enc cl.enc ?_
  refine wq ?_;repeat' first|refine ga ?_|refine lN cl.enc _ rfl ?_ (hc:=hg)
  refine wq ?_;repeat' first|refine ga ?_|refine lN cl.enc _ rfl ?_ (hc:=hg)
  exact Xa [ta b s v,hv] rfl rfl ⟨rfl,v,hv,rfl,hs⟩
 have c4':e.sq=y+1:=by omega
 by_cases c5:s.Yn e.dp;rotate_left
 .have e0:s.Jc e=(91,s):=by unfold CS.Jc;rw[if_neg (λh=>h c1),if_neg ic,hy,if_neg c3,if_neg c4,if_pos c5]
  rw[e0];rw[rj c5] at si;rw[Ah] at je si;refine ce func248 λg R=>?_;repeat' first|refine Za ?_|refine Uc λ_=>?_|refine cq hih ?_
  refine wq ?_;repeat' first|refine ga ?_|refine al λ_=>?_|refine Xf (t:=49) e.enc e.enc ?_|refine cq ji ?_|refine cq je ?_|refine xg V3.z.enc cl.enc ?_
  refine wq ?_;repeat' first|refine ga ?_|refine lN cl.enc _ rfl ?_ (hc:=hg)
  refine wq ?_;repeat' first|refine ga ?_|refine lN cl.enc _ rfl ?_ (hc:=hg)|refine Xf (t:=50) cl.enc cl.enc ?_|refine Xf (t:=47) e.enc e.dp.enc ?_|refine cq hpt ?_|refine cq si ?_
  exact Xa [ta b s v,hv] rfl rfl ⟨rfl,v,hv,rfl,hs⟩
 rw[Mi c5] at si;by_cases c6:256<=s.len
 .have e0:s.Jc e=(2,s):=by unfold CS.Jc;rw[if_neg (λh=>h c1),if_neg ic,hy,if_neg c3,if_neg c4,if_neg (λh=>h c5),if_pos c6]
  rw[e0];rw[Ah] at je si;refine ce func248 λg R=>?_;repeat' first|refine Za ?_|refine Uc λ_=>?_|refine cq hih ?_
  refine wq ?_;repeat' first|refine ga ?_|refine al λ_=>?_|refine Xf (t:=49) e.enc e.enc ?_|refine cq ji ?_|refine cq je ?_|refine xg V3.z.enc cl.enc ?_
  refine wq ?_;repeat' first|refine ga ?_|refine lN cl.enc _ rfl ?_ (hc:=hg)
  refine wq ?_;repeat' first|refine ga ?_|refine lN cl.enc _ rfl ?_ (hc:=hg)|refine Xf (t:=50) cl.enc cl.enc ?_|refine Xf (t:=47) e.enc e.dp.enc ?_|refine cq hpt ?_|refine cq si ?_
  exact Xa [ta b s v,hv] rfl rfl ⟨rfl,v,hv,rfl,hs⟩
 have e0:s.Jc e=(0,s.push e):=by unfold CS.Jc;rw[if_neg (λh=>h c1),if_neg ic,hy,if_neg c3,if_neg c4,if_neg (λh=>h c5),if_neg c6]
 rw[e0];rw[Ah] at je si;refine ce func248 λg R=>?_;repeat' first|refine Za ?_|refine Uc λ_=>?_|refine cq hih ?_
 rename_i b3;refine wq ?_;repeat' first|refine ga ?_|refine al λ_=>?_|refine Xf (t:=49) e.enc e.enc ?_|refine cq ji ?_|refine cq je ?_|refine xg V3.z.enc cl.enc ?_
 refine wq ?_;repeat' first|refine ga ?_|refine lN cl.enc _ rfl ?_ (hc:=hg)
 refine wq ?_;repeat' first|refine ga ?_|refine lN cl.enc _ rfl ?_ (hc:=hg)|refine Xf (t:=50) cl.enc cl.enc ?_|refine Xf (t:=47) e.enc e.dp.enc ?_|refine cq hpt ?_|refine cq si ?_
 refine KK (ml [6,2]) [ta b s v,Gb b3 e] ?_;repeat' first|refine ga ?_|refine Xf (t:=49) e.enc e.enc ?_
 refine Up [e] (λv2 h2 Sa=>?_);try refine ga ?_
 refine Jt (zb:=by simp only[Ib,td];omega) hs Sa.rs (λv3 h3 Cc=>?_);obtain⟨p3,aL,e3⟩:=Cc.rs.len;subst e3;try refine ga ?_
 refine ei (s.cells v) (CS.cells (s.push e) (.slice p3 (s.lg++[e]).length aL)) ?_;try refine ga ?_
 exact Xa [ta b (s.push e) (.slice p3 (s.lg++[e]).length aL),h3] rfl rfl ⟨rfl,_,h3,rfl,Cc⟩
variable{op:Int}
def CS.Yg(s:CS)(clock:Int):List Int:=clock::s.lg.map (·.ct)
def CS.Vt(s:CS)(key val:ByteArray)(dead:Bool)(dp:V9)(clock cl op:Int):ya:=
 ⟨s.dc,s.rg,(Bc s.rg s.lg).at s.dc.toNat+1,Je (s.Yg clock)+1,s.dc,s.rg,key,val,dead,dp,cl,op⟩
def CS.Ur(s:CS)(key val:ByteArray)(dead:Bool)(deps:V9)(clock cl op:Int):ya:=s.Vt key val dead (DE deps (zh s.lg)) clock cl op
def CS.zk(s:CS)(key val:ByteArray)(dead:Bool)(deps:V9)(clock cl op:Int):(Int×Int)×CS:=
 if ¬s.head then((0,90),s)
 else if 0<Re s.lg cl op then((Re s.lg cl op,0),s)
 else if ¬s.Yn deps then((0,91),s)
 else if 256<=s.len\/Oj s.dc s.rg (s.Yg clock)=false then((0,2),s)
 else if ¬ud (s.Ur key val dead deps clock cl op) then((0,1),s)
 else((s.len+1,0),s.push (s.Ur key val dead deps clock cl op))
def sI{ps:List ya}{cl:Int}{j:Nat}{p:ya}(hp:ps[j]? =some p)(hpk:p.cl=cl/\p.op=op)(hall:∀(i:Nat) (p:ya),i<j->ps[i]? =some p-> ¬(p.cl=cl/\p.op=op)):Re ps cl op=(j:Int)+1:=by
 have:ps.findIdx? (λe=>decide (e.cl=cl/\e.op=op))=some j:=by
  rw[List.findIdx?_eq_some_iff_getElem];obtain⟨h1,h2⟩:=List.getElem?_eq_some_iff.1 hp;refine⟨h1,by rw[h2];simpa using hpk,λi hi=>?_⟩;have:=hall i _ hi (Wg (by omega));simpa using this
 unfold Re;rw[this]
def tI{ps:List ya}{cl:Int}(hall:∀(i:Nat) (p:ya),i<ps.length->ps[i]? =some p-> ¬(p.cl=cl/\p.op=op)):Re ps cl op=0:=by
 have:ps.findIdx? (λe=>decide (e.cl=cl/\e.op=op))=none:=by
  rw[List.findIdx?_eq_none_iff];intro x hx;obtain⟨i,hi⟩:=mem_iff_getElem?.1 hx;have hlt':=(List.getElem?_eq_some_iff.1 hi).1;have:=hall i x (by omega) hi;simpa using this
 unfold Re;rw[this]
abbrev F1(b:Nat)(l:List Value):Hp:=[(b,.cells (List.toArray l) 44 (0,0))]
def mR{s:CS}(ok:Ob s)(b:Nat){v:Value}{hv:Hp}(hs:ia 49 s.lg v hv)(key val:ByteArray)(dead:Bool)(deps:V9)(clock cl op:Int):
  Ct prog 238 [b,.string key,.string val,.bool dead,.agg (List.toArray deps.enc),clock,cl,op] [ta b s v,hv]
   (λr H'=>r= .tuple #[.int .i64 (s.zk key val dead deps clock cl op).1.1,.int .i64 (s.zk key val dead deps clock cl op).1.2]/\bz (s.zk key val dead deps clock cl op).2 b H'):=by
 have hr:=hs.rs;obtain⟨vp,vc,rfl⟩:=hr.len;have tg:=ok.len;have hlen:s.len=(s.lg.length:Int):=rfl;have hih:=xk ok.co b (.slice vp s.lg.length vc);have je:=bq s b hr (by omega);have hpt:=Qt deps s.rg;have si:=Zp (Bc s.rg s.lg) (og deps s.rg);have hpa:=bR hr (by omega);have X6:=PM deps (zh s.lg);obtain⟨p,hp⟩:∃p,s.zk key val dead deps clock cl op=p:=⟨_,rfl⟩;rw[hp];unfold CS.zk at hp;obtain⟨cc,S5⟩:∃c,Bc s.rg s.lg=c:=⟨_,rfl⟩;by_cases c1:s.head;rotate_left
 .rw[if_pos c1] at hp;subst hp;rw[rj c1] at hih;refine ce func238 λg R=>?_;simp only[can];repeat' first|refine ga ?_|refine gS (λ_=>?_) λ_=>?_|refine Uc λ_=>?_|refine al λ_=>?_|refine Xf (t:=47) deps.enc deps.enc ?_|refine cq hih ?_|refine cq je ?_|refine cq hpt ?_|refine cq si ?_
  exact D.Vb [ta b s (.slice vp s.lg.length vc),hv] _ rfl rfl rfl ⟨rfl,_,hv,rfl,hs⟩
 rw[Mi c1] at hih;rw[if_neg (λh=>h c1)] at hp;refine ce func238 λg R=>?_;simp only[can];repeat' first|refine ga ?_|refine gS (λ_=>?_) λ_=>?_|refine Uc λ_=>?_|refine al λ_=>?_|refine Xf (t:=47) deps.enc deps.enc ?_|refine cq hih ?_|refine cq je ?_|refine cq hpt ?_|refine cq si ?_
 rename_i Ph;refine W.h0 [Ra Ph deps,ta b s (.slice vp s.lg.length vc),hv,R] ?_
 refine W.lo (α:=Nat) (λi=>i<=s.lg.length/\∀(k:Nat) (p:ya),k<i->s.lg[k]? =some p-> ¬(p.cl=cl/\p.op=op)) (λi=>[(0,b),(1,.string key),(2,.string val),(3,.bool dead),(5,clock),(6,cl),(7,op),(12,Ph),(18,.int .i64 (i:Int))])
  (λ_=>[Ra Ph deps,ta b s (.slice vp s.lg.length vc),hv,R]) (λi=>s.lg.length - i) 0 ⟨di _,λi p hi=>absurd hi (Nat.not_lt_zero _)⟩ ?_
 rintro i ⟨hi,hall⟩;by_cases hlt:i<s.lg.length
 .obtain⟨x,hx⟩:=Lh hlt;by_cases h1:x.cl=cl
  .by_cases h2:x.op=op
   .have hf:=sI hx ⟨h1,h2⟩ hall;rw[if_pos (by omega),hf] at hp;subst hp;repeat' first|refine ga ?_|refine gS (λ_=>?_) λ_=>?_|refine Uc λ_=>?_|refine al λ_=>?_|refine Xf (t:=47) deps.enc deps.enc ?_|refine cq hih ?_|refine cq je ?_|refine cq hpt ?_|refine cq si ?_
    exact D.Vb [ta b s (.slice vp s.lg.length vc),hv] _ rfl rfl rfl ⟨rfl,_,hv,rfl,hs⟩
   .repeat' first|refine ga ?_|refine gS (λ_=>?_) λ_=>?_|refine Uc λ_=>?_|refine al λ_=>?_|refine Xf (t:=47) deps.enc deps.enc ?_|refine cq hih ?_|refine cq je ?_|refine cq hpt ?_|refine cq si ?_
    refine D.rd (i+1) ⟨by omega,λk p hk hp=>?_⟩ (by omega);rcases Nat.lt_or_ge k i with h|h
    .exact hall k p h hp
    .obtain rfl:k=i:=by omega
     rw[hx] at hp;cases hp;exact λh=>h2 h.2
  .repeat' first|refine ga ?_|refine gS (λ_=>?_) λ_=>?_|refine Uc λ_=>?_|refine al λ_=>?_|refine Xf (t:=47) deps.enc deps.enc ?_|refine cq hih ?_|refine cq je ?_|refine cq hpt ?_|refine cq si ?_
   refine D.rd (i+1) ⟨by omega,λk p hk hp=>?_⟩ (by omega);rcases Nat.lt_or_ge k i with h|h
   .exact hall k p h hp
   .obtain rfl:k=i:=by omega
    rw[hx] at hp;cases hp;exact λh=>h1 h.1
 obtain rfl:i=s.lg.length:=by omega
 have hf:=tI hall;rw[if_neg (by omega)] at hp;clear hall;rw[S5] at je;by_cases c3:s.Yn deps;rotate_left
 .rw[if_pos c3] at hp;subst hp;rw[rj c3] at si;rw[S5] at si;repeat' first|refine ga ?_|refine gS (λ_=>?_) λ_=>?_|refine Uc λ_=>?_|refine al λ_=>?_|refine Xf (t:=47) deps.enc deps.enc ?_|refine cq hih ?_|refine cq je ?_|refine cq hpt ?_|refine cq si ?_|refine xg V3.z.enc cc.enc ?_
  refine wq ?_;repeat' first|refine ga ?_|refine gS (λ_=>?_) λ_=>?_|refine Uc λ_=>?_|refine al λ_=>?_|refine Xf (t:=47) deps.enc deps.enc ?_|refine cq hih ?_|refine cq je ?_|refine cq hpt ?_|refine cq si ?_|refine Xf (t:=50) cc.enc cc.enc ?_
  exact D.Vb [ta b s (.slice vp s.lg.length vc),hv] _ rfl rfl rfl ⟨rfl,_,hv,rfl,hs⟩
 rw[if_neg (λh=>h c3)] at hp;rw[Mi c3] at si;rw[S5] at si;repeat' first|refine ga ?_|refine gS (λ_=>?_) λ_=>?_|refine Uc λ_=>?_|refine al λ_=>?_|refine Xf (t:=47) deps.enc deps.enc ?_|refine cq hih ?_|refine cq je ?_|refine cq hpt ?_|refine cq si ?_|refine xg V3.z.enc cc.enc ?_
 rename_i YZ;refine wq ?_;repeat' first|refine ga ?_|refine gS (λ_=>?_) λ_=>?_|refine Uc λ_=>?_|refine al λ_=>?_|refine Xf (t:=47) deps.enc deps.enc ?_|refine cq hih ?_|refine cq je ?_|refine cq hpt ?_|refine cq si ?_|refine Xf (t:=50) cc.enc cc.enc ?_
 refine Up [clock] (λv0 h0 hs0=>?_);repeat' first|refine ga ?_|refine gS (λ_=>?_) λ_=>?_|refine Uc λ_=>?_|refine al λ_=>?_|refine Xf (t:=47) deps.enc deps.enc ?_|refine cq hih ?_|refine cq je ?_|refine cq hpt ?_|refine cq si ?_
 refine WX.Pe ?_;refine Jt (zb:=by show(2*(0+1)+256)*_<=_;decide) (show ia 3 ([]:List Int) (.slice none 0 0) [] from ia.nil _) hs0.rs (λv1 h1 hs1=>?_);rw[nil_append] at hs1;repeat' first|refine ga ?_|refine gS (λ_=>?_) λ_=>?_|refine Uc λ_=>?_|refine al λ_=>?_|refine Xf (t:=47) deps.enc deps.enc ?_|refine cq hih ?_|refine cq je ?_|refine cq hpt ?_|refine cq si ?_
 refine W.lo (α:=Nat×Value×Hp) (λx=>x.1<=s.lg.length/\ia 3 (clock::(s.lg.take x.1).map (·.ct)) x.2.1 x.2.2) (λx=>[(0,b),(1,.string key),(2,.string val),(3,.bool dead),(6,cl),(7,op),(12,Ph),(19,YZ),(20,x.2.1),(21,.int .i64 (x.1:Int))])
  (λx=>[x.2.2,Mc YZ cc,Ra Ph deps,ta b s (.slice vp s.lg.length vc),hv,R]) (λx=>s.lg.length - x.1) (0,v1,h1) ⟨di _,hs1⟩ ?_
 rintro⟨i,w,hw⟩ ⟨hi,hsw⟩;simp only[] at hi hsw⊢;have Yy:(clock::(s.lg.take i).map (·.ct)).length<=257:=by rw[Ib,bf,Oe];omega
 by_cases hlt:i<s.lg.length
 .obtain⟨x,hx⟩:=Lh hlt;repeat' first|refine ga ?_|refine gS (λ_=>?_) λ_=>?_|refine Uc λ_=>?_|refine al λ_=>?_|refine Xf (t:=47) deps.enc deps.enc ?_|refine cq hih ?_|refine cq je ?_|refine cq hpt ?_|refine cq si ?_
  refine Up [x.ct] (λv2 h2 Sa=>?_);repeat' first|refine ga ?_|refine gS (λ_=>?_) λ_=>?_|refine Uc λ_=>?_|refine al λ_=>?_|refine Xf (t:=47) deps.enc deps.enc ?_|refine cq hih ?_|refine cq je ?_|refine cq hpt ?_|refine cq si ?_
  refine Jt (zb:=by simp only[Ib,td] at Yy⊢;omega) hsw Sa.rs (λv3 h3 Cc=>?_);have Cc:ia 3 (clock::(s.lg.take (i+1)).map (·.ct)) v3 h3:=by rw[take_add_one,hx,He];exact Cc
  repeat' first|refine ga ?_|refine gS (λ_=>?_) λ_=>?_|refine Uc λ_=>?_|refine al λ_=>?_|refine Xf (t:=47) deps.enc deps.enc ?_|refine cq hih ?_|refine cq je ?_|refine cq hpt ?_|refine cq si ?_
  exact D.rd (i+1,v3,h3) ⟨by simp only[];omega,Cc⟩ (by simp only[];omega)
 obtain rfl:i=s.lg.length:=by omega
 rw[take_length] at hsw Yy;have Qe:=cR s.dc s.rg hsw.rs (by omega);obtain⟨wp,wc,rfl⟩:=hsw.rs.len;clear hsw hs1;rw[show clock::s.lg.map (·.ct)=s.Yg clock from rfl] at Qe;repeat' first|refine ga ?_|refine gS (λ_=>?_) λ_=>?_|refine Uc λ_=>?_|refine al λ_=>?_|refine Xf (t:=47) deps.enc deps.enc ?_|refine cq hih ?_|refine cq je ?_|refine cq hpt ?_|refine cq si ?_
 refine W.Pt 8 [true,true,true,true,true,true,true,true,true,false,true,true,true,false,false] 13 [ta b s (.slice vp s.lg.length vc)] Tryz.mix (by kernel_rfl) rfl ?_;repeat' first|refine ga ?_|refine gS (λ_=>?_) λ_=>?_|refine Uc λ_=>?_|refine al λ_=>?_|refine Xf (t:=47) deps.enc deps.enc ?_|refine cq hih ?_|refine cq je ?_|refine cq hpt ?_|refine cq si ?_|refine cq Qe ?_|refine WA.un ?_|refine WA.lf ?_|refine WA.back ?_|refine WA.an ?_ ?_|refine WA.nil ?_
 all_goals
  rename_i EG;by_cases c4:256<=s.len
  .rw[if_pos (.inl c4)] at hp;subst hp
   cases hno:Oj s.dc s.rg (s.Yg clock) with
   |false=>
    repeat' first|refine ga ?_|refine gS (λ_=>?_) λ_=>?_|refine Uc λ_=>?_|refine al λ_=>?_|refine Xf (t:=47) deps.enc deps.enc ?_|refine cq hih ?_|refine cq je ?_|refine cq hpt ?_|refine cq si ?_|refine xg [.int .i64 0,.int .i64 0,.int .i64 0] (Zn false (Je (s.Yg clock)+1) s.dc s.rg) ?_|refine WA.un ?_|refine WA.lf ?_|refine WA.back ?_|refine WA.an ?_ ?_|refine WA.nil ?_
    exact D.Vb [ta b s (.slice vp s.lg.length vc),hv] _ rfl rfl rfl ⟨rfl,_,hv,rfl,hs⟩
   |true=>
    repeat' first|refine ga ?_|refine gS (λ_=>?_) λ_=>?_|refine Uc λ_=>?_|refine al λ_=>?_|refine Xf (t:=47) deps.enc deps.enc ?_|refine cq hih ?_|refine cq je ?_|refine cq hpt ?_|refine cq si ?_|refine xg [.int .i64 0,.int .i64 0,.int .i64 0] (Zn true (Je (s.Yg clock)+1) s.dc s.rg) ?_|refine WA.un ?_|refine WA.lf ?_|refine WA.back ?_|refine WA.an ?_ ?_|refine WA.nil ?_
    exact D.Vb [ta b s (.slice vp s.lg.length vc),hv] _ rfl rfl rfl ⟨rfl,_,hv,rfl,hs⟩
  cases hno:Oj s.dc s.rg (s.Yg clock) with
  |false=>
   rw[if_pos (.inr hno)] at hp;subst hp;repeat' first|refine ga ?_|refine gS (λ_=>?_) λ_=>?_|refine Uc λ_=>?_|refine al λ_=>?_|refine Xf (t:=47) deps.enc deps.enc ?_|refine cq hih ?_|refine cq je ?_|refine cq hpt ?_|refine cq si ?_|refine xg [.int .i64 0,.int .i64 0,.int .i64 0] (Zn false (Je (s.Yg clock)+1) s.dc s.rg) ?_|refine WA.un ?_|refine WA.lf ?_|refine WA.back ?_|refine WA.an ?_ ?_|refine WA.nil ?_
   exact D.Vb [ta b s (.slice vp s.lg.length vc),hv] _ rfl rfl rfl ⟨rfl,_,hv,rfl,hs⟩
  |true=>
   rw[if_neg (λh=>h.elim c4 (λh=>by rw[hno] at h;cases h))] at hp;repeat' first|refine ga ?_|refine gS (λ_=>?_) λ_=>?_|refine Uc λ_=>?_|refine al λ_=>?_|refine Xf (t:=47) deps.enc deps.enc ?_|refine cq hih ?_|refine cq je ?_|refine cq hpt ?_|refine cq si ?_|refine xg [.int .i64 0,.int .i64 0,.int .i64 0] (Zn true (Je (s.Yg clock)+1) s.dc s.rg) ?_|refine WA.un ?_|refine WA.lf ?_|refine WA.back ?_|refine WA.an ?_ ?_|refine WA.nil ?_
   have Mw:=(of_decide_eq_true hno).2;have q0:0<=s.dc:=Mw.2.2.1;have q3:s.dc<3:=Mw.2.2.2.1;subst S5;have xO:s.dc.toNat<3:=by omega
   have hg:(Bc s.rg s.lg).enc[0+s.dc.toNat*1]? =some (.int .i64 ((Bc s.rg s.lg).at s.dc.toNat)):=by rw[show 0+s.dc.toNat*1=s.dc.toNat by omega];exact(Bc s.rg s.lg).Wd xO
   have cB:=Zi s.rg ok.es xO;simp only[MC] at cB;refine KK (ml [23,2]) [ta b s (.slice vp s.lg.length vc),Mc YZ (Bc s.rg s.lg),F1 EG (Zn true (Je (s.Yg clock)+1) s.dc s.rg)] ?_;repeat' first|refine ga ?_|refine gS (λ_=>?_) λ_=>?_|refine Uc λ_=>?_|refine al λ_=>?_|refine Xf (t:=47) deps.enc deps.enc ?_|refine cq hih ?_|refine cq je ?_|refine cq hpt ?_|refine cq si ?_|refine lN (Bc s.rg s.lg).enc _ rfl ?_ (hc:=hg)|refine Xf (t:=44) (Zn true (Je (s.Yg clock)+1) s.dc s.rg) (Zn true (Je (s.Yg clock)+1) s.dc s.rg) ?_|refine jf (t:=42) [s.dc,s.rg,.int .i64 ((Bc s.rg s.lg).at s.dc.toNat+1)] ?_|refine jf (t:=49) (s.Vt key val dead V9.z clock cl op).enc ?_|refine xg ya.z.enc (s.Vt key val dead V9.z clock cl op).enc ?_
   rename_i b24;refine KK (ml [5,2,1,1]) [Ra Ph deps,ta b s (.slice vp s.lg.length vc)] ?_;repeat' first|refine ga ?_|refine gS (λ_=>?_) λ_=>?_|refine Uc λ_=>?_|refine al λ_=>?_|refine Xf (t:=47) deps.enc deps.enc ?_|refine cq hih ?_|refine cq je ?_|refine cq hpt ?_|refine cq si ?_
   refine ck hpa ?_;rintro _ _ ⟨rfl,rfl⟩;simp only[can];repeat' first|refine ga ?_|refine gS (λ_=>?_) λ_=>?_|refine Uc λ_=>?_|refine al λ_=>?_|refine Xf (t:=47) deps.enc deps.enc ?_|refine cq hih ?_|refine cq je ?_|refine cq hpt ?_|refine cq si ?_|refine cq X6 ?_|refine ZQ (s.Vt key val dead V9.z clock cl op).enc (DE deps (zh s.lg)).enc (s.Ur key val dead deps clock cl op).enc rfl rfl ?_
   have ji:=Rt (s.Ur key val dead deps clock cl op);generalize s.Ur key val dead deps clock cl op=e at ji hp⊢;by_cases hE:ud e
   .rw[Mi hE] at ji;rw[if_neg (λh=>h hE)] at hp;subst hp;repeat' first|refine ga ?_|refine gS (λ_=>?_) λ_=>?_|refine Uc λ_=>?_|refine al λ_=>?_|refine Xf (t:=47) deps.enc deps.enc ?_|refine cq hih ?_|refine cq je ?_|refine cq hpt ?_|refine cq si ?_|refine Xf (t:=49) e.enc e.enc ?_|refine cq ji ?_
    refine KK (ml [6,2]) [ta b s (.slice vp s.lg.length vc),Gb b24 e] ?_;repeat' first|refine ga ?_|refine gS (λ_=>?_) λ_=>?_|refine Uc λ_=>?_|refine al λ_=>?_|refine Xf (t:=47) deps.enc deps.enc ?_|refine cq hih ?_|refine cq je ?_|refine cq hpt ?_|refine cq si ?_|refine Xf (t:=49) e.enc e.enc ?_
    refine Up [e] (λv2 h2 Sa=>?_);repeat' first|refine ga ?_|refine gS (λ_=>?_) λ_=>?_|refine Uc λ_=>?_|refine al λ_=>?_|refine Xf (t:=47) deps.enc deps.enc ?_|refine cq hih ?_|refine cq je ?_|refine cq hpt ?_|refine cq si ?_
    refine Jt (zb:=by simp only[Ib,td];omega) hs Sa.rs (λv3 h3 Cc=>?_);obtain⟨p3,aL,e3⟩:=Cc.rs.len;subst e3;repeat' first|refine ga ?_|refine gS (λ_=>?_) λ_=>?_|refine Uc λ_=>?_|refine al λ_=>?_|refine Xf (t:=47) deps.enc deps.enc ?_|refine cq hih ?_|refine cq je ?_|refine cq hpt ?_|refine cq si ?_
    refine ei (s.cells (.slice vp s.lg.length vc)) (CS.cells (s.push e) (.slice p3 (s.lg++[e]).length aL)) ?_;repeat' first|refine ga ?_|refine gS (λ_=>?_) λ_=>?_|refine Uc λ_=>?_|refine al λ_=>?_|refine Xf (t:=47) deps.enc deps.enc ?_|refine cq hih ?_|refine cq je ?_|refine cq hpt ?_|refine cq si ?_
    have DO:((s.lg++[e]).length:Int)=s.len+1:=by rw[hlen,Eb];rfl
    rw[DO];exact D.Vb [ta b (s.push e) (.slice p3 (s.lg++[e]).length aL),h3] _ rfl rfl rfl ⟨rfl,_,h3,rfl,Cc⟩
   .rw[rj hE] at ji;rw[if_pos hE] at hp;subst hp;repeat' first|refine ga ?_|refine gS (λ_=>?_) λ_=>?_|refine Uc λ_=>?_|refine al λ_=>?_|refine Xf (t:=47) deps.enc deps.enc ?_|refine cq hih ?_|refine cq je ?_|refine cq hpt ?_|refine cq si ?_|refine Xf (t:=49) e.enc e.enc ?_|refine cq ji ?_
    exact D.Vb [ta b s (.slice vp s.lg.length vc),hv] _ rfl rfl rfl ⟨rfl,_,hv,rfl,hs⟩
end Go.Proofs.YthebagfahkebiaaGreat
