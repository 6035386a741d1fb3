/- Texts of one road. -/
import Derived.Test.YthebagfahkebiaaGreatQAV
set_option linter.all false
set_option maxHeartbeats 8000000
set_option maxRecDepth 20000
namespace Go.Proofs.YthebagfahkebiaaGreat
open Go Go.Sl Go.Proofs.Tryz List
variable{b:Nat}{T:Int}{s:Ea}{f:FuncId}{args:List Value}{u:Value}
def Ea.B0(s:Ea)(d:Nat)(T:Int)(hd:Hp):Prop:=match s with
 | .up l _ _=>RD l d hd T
 | .dn l _ q=>∃t,0<=t/\t<=T/\pg (((oe l q).map fq).map Ub.pl) t d hd
structure UX(s:Ea)(cb d w:Nat)(v:Value)(hv:Hp)(seg:Int)(hd:Hp)(T:Int):Prop where
 sl:ia 49 s.ch.lg v hv
 dk:s.B0 d T hd
 sg:s.Xa=true->seg=ua s.l0
 nv:s.Xa=false->v= .slice none 0 0/\hv=[]
def Zf(s:Ea)(b:Nat)(T:Int)(h:Hp):Prop:=∃cb d w v hv seg t tn hd,h=yb b cb d w s.Xa tn++(ta cb s.ch v++(hv++(ff w d seg t++hd)))/\UX s cb d w v hv seg hd T
def Ea.B0.mono{s:Ea}{d:Nat}{T T':Int}{hd:Hp}(h:s.B0 d T hd)(hT:T<=T'):s.B0 d T' hd:=by
 cases s with
 |up l c t=>exact RD.mono h hT
 |dn l c q=>obtain⟨t,h1,h2,h3⟩:=h;exact⟨t,h1,by omega,h3⟩
def Zf.mono{s:Ea}{b:Nat}{T T':Int}{h:Hp}(hm:Zf s b T h)(hT:T<=T'):Zf s b T' h:=by
 obtain⟨cb,d,w,v,hv,seg,t,tn,hd,e,at_⟩:=hm;exact⟨cb,d,w,v,hv,seg,t,tn,hd,e,⟨at_.sl,at_.dk.mono hT,at_.sg,at_.nv⟩⟩
def Ea.wg(s:Ea)(fr ep ix:Int)(e:ya):Bool×Ea:=match s with
 | .up l c t=>((Mj l c fr ep ix e).1,.up (Mj l c fr ep ix e).2.2 (Mj l c fr ep ix e).2.1 t)
 | .dn l c q=>(false,.dn l c q)
def Ea.dV(s:Ea)(e:ya):Int×Ea:=match s with
 | .up l c t=>((xk l c e).1,.up (xk l c e).2.2 (xk l c e).2.1 t)
 | .dn l c q=>(52,.dn l c q)
def Ea.vk(s:Ea)(key val:ByteArray)(dead:Bool)(deps:V9)(clock cl op:Int):(Int×Int)×Ea:=match s with
 | .up l c t=>((Dj l c key val dead deps clock cl op).1,.up (Dj l c key val dead deps clock cl op).2.2 (Dj l c key val dead deps clock cl op).2.1 t)
 | .dn l c q=>((0,52),.dn l c q)
def Ea.Yu(s:Ea)(x:Va):(Bool×Int)×Ea:=match s with
 | .up l c t=>((zk l c x).1,.up (Kc l c x).2.2 (Kc l c x).2.1 t)
 | .dn l c q=>((false,52),.dn l c q)
def zz.is{cb d w:Nat}{Aa tn:Int}{c:CS}{l:List Lf}{H':HH}(h:zz b cb d w Aa tn c l T H')(t:Int):∃Lp,Lp.flatten=H'.flatten/\∃h',Lp=[h']/\Zf (.up l c t) b T h':=by
 obtain⟨v,hv,hd,rfl,hs,hk⟩:=h;exact⟨[yb b cb d w true tn++(ta cb c v++(hv++(ff w d (ua l) Aa++hd)))],by simp,_,rfl,cb,d,w,v,hv,ua l,Aa,tn,hd,rfl,⟨hs,hk,λ_=>rfl,λe=>(by cases e)⟩⟩
def Zf.still{h:Hp}(hm:Zf s b T h)
  (k:∀cb d w tn,Ct prog f args [yb b cb d w s.Xa tn] (λr H'=>r=u/\H'=[yb b cb d w s.Xa tn])):
  Ct prog f args [h] (λr H'=>r=u/\H'=[h]):=by
 obtain⟨cb,d,w,v,hv,seg,t,tn,hd,rfl,at_⟩:=hm;exact Ct.ext (k cb d w tn)
def Rx{T':Int}{h:Hp}(hm:Zf s b T h)(hT:T<=T')(hu:s.Xa=false)
  (k:∀cb d w tn,Ct prog f args [yb b cb d w false tn] (λr H'=>r=u/\H'=[yb b cb d w false tn])):
  Ct prog f args [h] (λr H'=>r=u/\∃h',H'=[h']/\Zf s b T' h'):=
 (hm.still λcb d w tn=>by rw[hu];exact k cb d w tn).mono λr H' ⟨h1,h2⟩=>⟨h1,h,h2,hm.mono hT⟩
section
variable{s:Ea}{N T:Int}(ok:s.ok N){b:Nat}{h:Hp}(hm:Zf s b T h)(Mi:0<=T)(hT:T<=68719476736)
include ok hm Mi hT
theorem EO:Ct prog 197 [b] [h] (λr H'=>r= .tuple #[]/\∃h',H'=[h']/\Zf s.sync b (T+243) h'):=by
 cases s with
 |up l c t=>
  obtain⟨cb,d,w,v,hv,seg,t',tn,hd,rfl,at_⟩:=hm;obtain rfl:=at_.sg rfl;have Sy:Ge l:=ok.lg.ok;have ob:Lb c:=ok.ok;have Mf:ia 49 c.lg v hv:=at_.sl;have hdk:RD l d hd T:=at_.dk
  exact(VO (w:=w) (Aa:=t') (tn:=tn) Sy b cb hdk Mi (by omega) ob Mf).pack (by simp[Ea.c0,Ea.ch,Ea.Xa,Ea.l0]) λr H' ⟨h1,h2⟩=>let⟨Lp,e,p⟩:=h2.is t;⟨Lp,e,h1,p⟩
 |dn l c q=>exact Rx hm (by omega) rfl λcb d w tn=>BL b cb d w tn
theorem DO(fr ep ix:Int)(e:ya):Ct prog 87 [b,fr,ep,ix,.agg (List.toArray e.enc)] [h] (λr H'=>r= .bool (s.wg fr ep ix e).1/\∃h',H'=[h']/\Zf (s.wg fr ep ix e).2 b (T+243) h'):=by
 cases s with
 |up l c t=>
  obtain⟨cb,d,w,v,hv,seg,t',tn,hd,rfl,at_⟩:=hm;obtain rfl:=at_.sg rfl;have Sy:Ge l:=ok.lg.ok;have ob:Lb c:=ok.ok;have Mf:ia 49 c.lg v hv:=at_.sl;have hdk:RD l d hd T:=at_.dk
  exact(WO (w:=w) (Aa:=t') (tn:=tn) Sy b cb hdk Mi (by omega) ob Mf fr ep ix e).pack (by simp[Ea.c0,Ea.ch,Ea.Xa,Ea.l0]) λr H' ⟨h1,h2⟩=>let⟨Lp,e',p⟩:=h2.is t;⟨Lp,e',h1,p⟩
 |dn l c q=>exact Rx hm (by omega) rfl λcb d w tn=>AL b cb d w tn fr ep ix e
theorem az(x:Va):Ct prog 57 [b,.agg (List.toArray x.enc)] [h] (λr H'=>r= .tuple #[.bool (s.Yu x).1.1,.int .i64 (s.Yu x).1.2]/\∃h',H'=[h']/\Zf (s.Yu x).2 b (T+486) h'):=by
 cases s with
 |up l c t=>
  obtain⟨cb,d,w,v,hv,seg,t',tn,hd,rfl,at_⟩:=hm;obtain rfl:=at_.sg rfl;have Sy:Ge l:=ok.lg.ok;have ob:Lb c:=ok.ok;have Mf:ia 49 c.lg v hv:=at_.sl;have hdk:RD l d hd T:=at_.dk;have hce:=xL (w:=w) (Aa:=t') (tn:=tn) Sy b cb hdk Mi (by omega) ob Mf x;rw[UR] at hce
  exact hce.pack (by simp[Ea.c0,Ea.ch,Ea.Xa,Ea.l0]) λr H' ⟨h1,h2⟩=>let⟨Lp,e',p⟩:=h2.is t;⟨Lp,e',h1,p⟩
 |dn l c q=>exact Rx hm (by omega) rfl λcb d w tn=>PI b cb d w tn x
theorem oL{keep:Int}(Lt: -9223372036854775808<=keep)(hk2:keep<=9223372036854775807):Ct prog 198 [b,keep] [h] (λr H'=>r= .tuple #[]/\∃h',H'=[h']/\Zf (s.Pb keep) b T h'):=by
 cases s with
 |up l c t=>
  obtain⟨cb,d,w,v,hv,seg,t',tn,hd,rfl,at_⟩:=hm;have Sy:Ge l:=ok.lg.ok;have hdk:RD l d hd T:=at_.dk;have h0:=(yL (seg:=seg) (Aa:=t') (tn:=tn) (w:=w) Sy b cb hdk (by omega) c v Lt hk2).frame (F:=[hv]) (post':=λr H'=>r= .tuple #[]/\∃Ya hd',H'=[yb b Ya d w false tn,ta Ya (CS.new c.dc c.rg c.nd) (.slice none 0 0),ff w d seg t',hd']++[hv]/\∃t,0<=t/\t<=T/\pg (((oe l keep.toNat).map fq).map Ub.pl) t d hd') λr H' ⟨h1,Ya,hd',h2,h3⟩=>⟨h1,Ya,hd',by rw[h2],h3⟩;have h1:=h0.perm (pre':=[yb b cb d w true tn,ta cb c v,hv,ff w d seg t',hd]) (List.Perm.flatten (.cons _ (.cons _ (perm_append_comm (l₁:=[ff w d seg t',hd]) (l₂:=[hv])))));refine h1.pI (by simp[Ea.c0,Ea.ch,Ea.Xa]) λr H' ⟨h1,Ya,hd',h2,h3⟩=>?_;subst h2
  exact⟨[yb b Ya d w false tn++(ta Ya (CS.new c.dc c.rg c.nd) (.slice none 0 0)++([]++(ff w d seg t'++hd')))],hv,by simp,h1,_,rfl,Ya,d,w,.slice none 0 0,[],seg,t',tn,hd',rfl,⟨ia.nil _,h3,λe=>(by cases e),λ_=>⟨rfl,rfl⟩⟩⟩
 |dn l c q=>exact Rx hm (Int.le_refl _) rfl λcb d w tn=>OI b cb d w tn keep
end
def Ut(s:Ea)(f ep du st:Int):(s.heard f ep du st).2.ch=(s.ch.heard f ep du st).2/\(s.heard f ep du st).2.Xa=s.Xa/\(s.heard f ep du st).2.l0=s.l0/\(s.heard f ep du st).2.O7=s.O7/\Ob s.c0 (s.heard f ep du st).2.c0:=by
 cases s with
 |up l c t=>exact⟨rfl,rfl,rfl,rfl,Ck c f ep du st⟩
 |dn l c q=>exact⟨by show CS.new _ _ _=_;rw[show(Ea.dn l c q).ch=CS.new c.dc c.rg c.nd from rfl,wF],rfl,rfl,rfl,Ob.refl c⟩
def KI(c:CS)(f ep du st:Int):(c.heard f ep du st).2.lg=c.lg:=by
 unfold CS.heard;split
 .exact(Ja _).2.2.2.2.2.2.1.trans (Re c f _ _).2.2.2.2.2.2.1
 .rfl
def og.heard{s:Ea}{b cb d w:Nat}{v:Value}{hv:Hp}{seg t:Int}{hd:Hp}(at_:I2 s cb d w v hv seg t hd)(f ep du st:Int):
  og (s.heard f ep du st).2 b (Jb b cb s.c0.dc s.c0.rg s.c0.nd d w s.Xa++(oa cb (s.ch.heard f ep du st).2 v++(hv++(qf w d seg t++hd)))):=by
 obtain⟨h1,h2,h3,h4,h5⟩:=Ut s f ep du st;refine⟨cb,d,w,v,hv,seg,t,hd,by rw[h1,h2,h5.1,h5.2.1,h5.2.2],⟨by rw[h1,KI];exact at_.sl,by rw[h4];exact at_.dk,by rw[h2,h3];exact at_.sg,λl c t' e=>?_,by rw[h2];exact at_.nv⟩⟩
 cases s with
 |up l0 c0 t0=>cases e;exact at_.tn _ _ _ rfl
 |dn l0 c0 q0=>cases e
def JO(s:Ea)(f ep du st:Int)(d:Nat)(T:Int)(hd:Hp)(h:s.B0 d T hd):(s.heard f ep du st).2.B0 d T hd:=by
 cases s with
 |up l c t=>exact h
 |dn l c q=>exact h
def Zf.heard{s:Ea}{b cb d w:Nat}{v:Value}{hv:Hp}{seg t tn T:Int}{hd:Hp}(at_:UX s cb d w v hv seg hd T)(f ep du st:Int):
  Zf (s.heard f ep du st).2 b T (yb b cb d w s.Xa tn++(ta cb (s.ch.heard f ep du st).2 v++(hv++(ff w d seg t++hd)))):=by
 obtain⟨h1,h2,h3,h4,h5⟩:=Ut s f ep du st;exact⟨cb,d,w,v,hv,seg,t,tn,hd,by rw[h1,h2],⟨by rw[h1,KI];exact at_.sl,JO s f ep du st d T hd at_.dk,by rw[h2,h3];exact at_.sg,by rw[h2];exact at_.nv⟩⟩
variable{k:Nat}
def js(c:CS):c.settle=c↔(c.last->if(Yb c.co).jo=false then c.su=true/\c.st=c.du else c.su=true->c.bs<=c.st):=by
 obtain⟨dc,rg,nd,co,sn,bs,lg,du,st,ak,ow,su⟩:=c;unfold CS.settle;constructor
 .intro h hl;rw[if_pos hl] at h;split at h
  .rename_i hj;rw[if_pos hj];injection h with _ _ _ _ _ _ _ _ h1 _ _ h2
   exact⟨h2.symm,h1.symm⟩
  .rename_i hj;rw[if_neg hj];intro hs;rw[if_pos hs] at h;injection h with _ _ _ _ _ _ _ _ h1 _ _ h2
   have:=(xw st bs).2;simp only[] at h1⊢;omega
 .intro h;split
  .rename_i hl;have h:=h hl;split
   .rename_i hj;rw[if_pos hj] at h;obtain⟨h1,h2⟩:=h;simp only[] at h1 h2⊢;rw[h1,h2]
   .rename_i hj;rw[if_neg hj] at h;split
    .rename_i hs;have h:=h hs;have:mx st bs=st:=by unfold mx;simp only[] at h;rw[if_neg (by omega)]
     simp only[this]
    .rfl
  .rfl
def lJ(c:CS):c.settle.settle=c.settle:=by
 rw[js];obtain⟨h1,h2,h3,h4,h5,h6,h7,h8,h9,SV⟩:=Ja c;intro hl;have hl:c.last:=⟨by have:=hl.1;rw[h3] at this;exact this,by have:=hl.2;rw[h3,h4] at this;exact this⟩;rw[h4,h6,h8];unfold CS.settle;rw[if_pos hl];split
 .exact⟨rfl,rfl⟩
 .split
  .intro _;exact(xw _ _).2
  .rename_i hs;intro h;exact absurd h hs
structure Je(c:CS):Prop where
 st:0<=c.st/\c.st<=c.du
 ak:0<=c.ak/\c.ak<=c.du
 se:c.settle=c
def Je.of{c:CS}(ok:Lb c)(h1:0<=c.st/\c.st<=c.du)(h2:0<=c.ak/\c.ak<=c.du):Je c.settle:=by
 obtain⟨-,-,-,-,-,h6,-,h8,h9,-⟩:=Ja c;have hb:=ok.bs;refine⟨?_,by rw[h8,h9];exact h2,lJ c⟩;rw[h8];unfold CS.settle;split
 .split
  .exact⟨by show 0<=c.du;omega,Int.le_refl _⟩
  .split
   .show 0<=mx c.st c.bs/\mx c.st c.bs<=c.du;unfold mx;split<;>omega
   .exact h1
 .exact h1
def Je.new(dc rg nd:Int):Je (CS.new dc rg nd):=by
 refine⟨⟨Int.le_refl 0,Int.le_refl 0⟩,⟨Int.le_refl 0,Int.le_refl 0⟩,if_neg λh=>?_⟩;have h1:=h.1;have h2:(-1:Int)=nd:=h.2;have h1:0<=nd:=h1;omega
section
variable{c:CS}(h:Je c)
include h
theorem Je.push(e:ya):(c.push e).settle=c.push e:=(js _).2 ((js c).1 h.se)
theorem Je.PL(e:ya):Je (c.push e):=⟨h.st,h.ak,h.push e⟩
theorem Je.take(f ep ix:Int)(e:ya):Je (c.take f ep ix e).2:=by
 unfold CS.take;split
 .show Je (c.push e).settle;rw[h.push];exact h.PL e
 .exact h
theorem Je.wg(f ep ix:Int)(e:ya):c.wg f ep ix e=c.take f ep ix e:=by
 unfold CS.wg CS.take;rw[h.push]
theorem Je.Xb(e:ya):Je (c.Xb e).2:=by
 unfold CS.Xb;repeat' split
 all_goals first|exact h|skip
 show Je (c.push e).settle;rw[h.push];exact h.PL e
theorem Je.Gc(e:ya):c.Gc e=c.Xb e:=by
 unfold CS.Gc CS.Xb;rw[h.push]
theorem Je.put(key val:ByteArray)(dead:Bool)(deps:V9)(clock cl op:Int):Je (c.Xf key val dead deps clock cl op).2:=by
 unfold CS.Xf;repeat' split
 all_goals first|exact h|skip
 show Je (CS.push c _).settle;rw[h.push];exact h.PL _
theorem Je.sync(ok:Lb c):Je c.sync:=by
 have h1:=ok.du;have h2:=ok.bs;have h3:=h.st;have h4:=h.ak;exact Je.of (c:={c with du:=c.len}) ⟨ok.co,⟨h2.1,by show c.bs<=c.len;omega⟩,⟨by show 0<=c.len;omega,Int.le_refl _⟩,ok.len,ok.es⟩ ⟨h3.1,by show c.st<=c.len;omega⟩ ⟨h4.1,by show c.ak<=c.len;omega⟩
theorem Je.enter(ok:Lb c)(x:Va):Je (c.enter x).2:=by
 unfold CS.enter;split
 .exact h
 .rename_i hr;split
  .exact h
  .show Je (c.Qc x).settle;have h1:=ok.du;have h3:=h.st;refine Je.of (ok.Qc (Classical.not_not.1 hr)) ?_ ?_
   .unfold CS.Qc;split
    .exact⟨Int.le_refl 0,Int.le_refl 0⟩
    .exact⟨h3.1,by show c.st<=c.len;omega⟩
   .unfold CS.Qc;split
    .exact⟨Int.le_refl 0,Int.le_refl 0⟩
    .exact⟨Int.le_refl 0,by show 0<=c.len;omega⟩
theorem Je.heard(ok:Lb c)(f ep du st:Int):Je (c.heard f ep du st).2:=by
 unfold CS.heard;split
 .show Je (c.Mb f (mn du c.du) (mn st c.du)).settle;have h2:=ok.bs;have h3:=h.st;have h4:=h.ak;have hd:mn du c.du<=c.du:=by unfold mn;split<;>omega
  have hs:mn st c.du<=c.du:=by unfold mn;split<;>omega
  have mm:∀{a b m:Int},0<=a->a<=m->b<=m->0<=mx a b/\mx a b<=m:=λh1 h2 h3=>by unfold mx;split<;>omega
  obtain⟨s1,s2,s3,s4,s5,s6,s7,s8,s9⟩:=Re c f (mn du c.du) (mn st c.du);refine Je.of ⟨by rw[s4];exact ok.co,by rw[s6,s8];exact ok.bs,by unfold CS.len;rw[s8,s7];exact ok.du,by rw[s7];exact ok.len,by rw[s7];exact ok.es⟩ ?_ ?_
  .rw[s8];unfold CS.Mb;split
   .exact mm h3.1 h3.2 hs
   .split
    .have:=mm h3.1 h3.2 h2.2;exact mm this.1 this.2 hd
    .exact h3
  .rw[s8]
   have:(c.Mb f (mn du c.du) (mn st c.du)).ak=mx c.ak (mn du c.du):=by
    unfold CS.Mb;repeat' split
    all_goals rfl
   rw[this];exact mm h4.1 h4.2 hd
 .exact h
end
def QL(a b m:Int):mx a b<=m↔a<=m/\b<=m:=by unfold mx;split<;>omega
def V9.ext{a b:V9}(h:∀k,k<9->a.at k=b.at k):a=b:=(V9.DK a).symm.trans ((V9.Ym h).trans (V9.DK b))
def OF(a b:V9)(h:k<9):(Qu a b).at k=mx (a.at k) (b.at k):=by
 unfold Qu Af;rw[V9.Pu _ h,if_pos h]
def Gg(v:V9)(dc rg sq:Int)(h:k<9):(zg v dc rg sq).at k=if Qb dc rg/\k=dc.toNat*3+rg.toNat then mx (v.at k) sq else v.at k:=by
 unfold zg;by_cases hc:Qb dc rg
 .rw[if_pos hc];unfold V9.put;rw[V9.Pu _ h];unfold Y0;by_cases hk:k=dc.toNat*3+rg.toNat
  .rw[if_pos hk,if_pos ⟨hc,hk⟩,hk]
  .rw[if_neg hk,if_neg λx=>hk x.2]
 .rw[if_neg hc,if_neg λx=>hc x.1]
def V9.FV(h:k<9):V9.z.at k=0:=by
 rcases(by omega:k=0\/k=1\/k=2\/k=3\/k=4\/k=5\/k=6\/k=7\/k=8) with rfl|rfl|rfl|rfl|rfl|rfl|rfl|rfl|rfl<;>rfl
def RL(a b:V9)(h:k<9):(gh [a,b]).at k=mx (mx 0 (a.at k)) (b.at k):=by
 show(Qu (Qu V9.z a) b).at k=_;rw[OF _ _ h,OF _ _ h,V9.FV h]
def pH(a b:V9):FE a b=gh [a,b]:=V9.ext λk h=>by
 rw[RL _ _ h];unfold FE Jq;rw[V9.Pu _ h,if_pos h];unfold j6 mx;repeat' split
 all_goals omega
def ay{k:Nat}{m:Int}{f:V9->ya->V9}{p:ya->Prop}(hf:∀o e,(f o e).at k<=m↔o.at k<=m/\p e):∀(es:List ya) (o:V9),(es.foldl f o).at k<=m↔o.at k<=m/\∀e∈es,p e
 |[],o=>by simp
 |e::t,o=>by
  rw[foldl_cons,ay hf t,hf];simp only[mem_cons,forall_eq_or_imp,and_assoc]
def rP(es:List ya):jh es=qt es:=V9.ext λk h=>by
 have hz:=V9.FV h
 have key:∀m:Int,0<=m->((jh es).at k<=m↔(qt es).at k<=m):=λm hm=>by
  have tw:∀o e:V9,(gh [o,e]).at k<=m↔o.at k<=m/\e.at k<=m:=λo e=>by rw[RL _ _ h,QL,QL];exact⟨λx=>⟨x.1.2,x.2⟩,λx=>⟨⟨hm,x.1⟩,x.2⟩⟩
  have wd:∀(o:V9) (e:ya),(zg o e.dc e.rg e.sq).at k<=m↔o.at k<=m/\(Qb e.dc e.rg/\k=e.dc.toNat*3+e.rg.toNat->e.sq<=m):=λo e=>by
   rw[Gg _ _ _ _ h];split
   .rename_i hc;rw[QL];exact⟨λx=>⟨x.1,λ_=>x.2⟩,λx=>⟨x.1,x.2 hc⟩⟩
   .rename_i hc;exact⟨λx=>⟨x,λy=>absurd y hc⟩,λx=>x.1⟩
  unfold jh qt Sq;rw[ay (p:=λe=>e.dp.at k<=m/\(Qb e.dc e.rg/\k=e.dc.toNat*3+e.rg.toNat->e.sq<=m)) (λo e=>by rw[wd,pH,tw,and_assoc]),ay (λo e=>wd o e),ay (λo e=>tw o e.dp)];constructor
  .rintro⟨a,b⟩;exact⟨⟨a,λe he=>(b e he).1⟩,λe he=>(b e he).2⟩
  .rintro⟨⟨a,b⟩,c⟩;exact⟨a,λe he=>⟨b e he,c e he⟩⟩
 have nn:∀{f:V9->ya->V9},(∀o e,o.at k<=(f o e).at k)->∀(es:List ya) (o:V9),o.at k<=(es.foldl f o).at k:=λ{f} hf es=>by
  induction es with
  |nil=>intro o;exact Int.le_refl _
  |cons e t ih=>intro o;exact Int.le_trans (hf o e) (ih _)
 have w0:∀(o:V9) (e:ya),o.at k<=(zg o e.dc e.rg e.sq).at k:=λo e=>by
  rw[Gg _ _ _ _ h];split
  .exact(xw _ _).1
  .exact Int.le_refl _
 have t0:∀o e:V9,o.at k<=(gh [o,e]).at k:=λo e=>by rw[RL _ _ h];exact Int.le_trans (xw _ _).2 (xw _ _).1
 have p1:0<=(jh es).at k:=hz▸nn (λo e=>Int.le_trans (t0 o e.dp) (by rw[<-pH];exact w0 _ e)) es V9.z;have p2:0<=(qt es).at k:=Int.le_trans (hz▸nn (λo e=>t0 o e.dp) es V9.z) (nn w0 es _);have h1:=(key _ p2).2 (Int.le_refl _);have h2:=(key _ p1).1 (Int.le_refl _);omega
def Je.vk{c:CS}(h:Je c)(key val:ByteArray)(dead:Bool)(deps:V9)(clock cl op:Int):c.vk key val dead deps clock cl op=c.Xf key val dead deps clock cl op:=by
 have hm:=Dy (c.Og clock)
 have e1:Lj c.dc c.rg (c.Og clock)=false↔ ¬c.ur clock:=by
  unfold Lj CS.ur Nf;rw[decide_eq_false_iff_not];show ¬(He (c.Og clock)<MC/\_)↔ ¬Xh ((if MC<He (c.Og clock) then MC else He (c.Og clock))+1) c.dc c.rg;refine not_congr ?_;constructor
  .rintro⟨a,b⟩;rw[if_neg (by omega)];exact b
  .intro b;have:=b.2.1;split at b
   .rw[if_pos (by assumption)] at this;exact absurd this (by omega)
   .rw[if_neg (by assumption)] at this;exact⟨by omega,b⟩
 unfold CS.vk CS.Xf;simp only[e1];split
 .rfl
 split
 .rfl
 split
 .rfl
 split
 .rfl
 rename_i h4;have h5:c.ur clock:=Classical.not_not.1 λx=>h4 (.inr x)
 have e2:c.Cr key val dead deps clock cl op=c.entry key val dead deps clock cl op:=by
  unfold CS.Cr CS.Ht CS.entry;rw[pH,rP]
  have h6:=(decide_eq_true_iff.1 (by
   cases hd:Lj c.dc c.rg (c.Og clock) with
   |true=>exact hd
   |false=>exact absurd h5 (e1.1 hd):decide (He (c.Og clock)<MC/\_)=true)).1
  have:Nf (clock::c.lg.map (·.ct))=He (c.Og clock)+1:=by
   show(if MC<He (c.Og clock) then MC else He (c.Og clock))+1=_;rw[if_neg (by omega)]
  rw[this]
 rw[e2];split
 .rfl
 .rw[h.push]
def Je.restore{dc rg nd:Int}{x:Va}{sn bs:Int}{es:List ya}(hl:es.length<=256)(he:∀e∈es,Xc e):Je (CS.restore dc rg nd x sn bs es):=by
 refine Je.of ⟨λc hc=>?_,?_,⟨Int.natCast_nonneg _,Int.le_refl _⟩,hl,he⟩ ⟨Int.le_refl 0,Int.natCast_nonneg _⟩ ⟨Int.le_refl 0,Int.natCast_nonneg _⟩
 .unfold CS.eg at hc;simp only[] at hc;split at hc
  .rename_i h;cases hc;exact h.2.2
  .cases hc
 .show 0<=mx 0 (mn bs (es.length:Int))/\mx 0 (mn bs (es.length:Int))<=(es.length:Int);unfold mx mn;split<;>split<;>omega
def mJ(x:Int):Ct prog 255 [.int .i64 x] [] (λr H'=>r= .bool false/\H'=[]):=by
 refine Ct.mk' func255 rfl rfl rfl (λg R=>?_);try simp only[ca]
 simp only[na];try refine ga ?_
 exact D.Ia [] _ rfl rfl ⟨by simp,rfl⟩
def Ao(x y:Int):Ct prog 202 [x,y] [] (λr H'=>r= .int .i64 (Xl x y)/\H'=[]):=by
 have h1:=mJ x;have h2:=mJ y;unfold Xl;refine ce func202 λg R=>?_;simp only[can];by_cases c1:x<y
 .rw[if_pos c1];repeat' first|refine ga ?_|refine cq h1 ?_|refine cq h2 ?_
  exact vj []
 .rw[if_neg c1];by_cases c2:y<x
  .rw[if_pos c2];repeat' first|refine ga ?_|refine cq h1 ?_|refine cq h2 ?_
   exact vj []
  .rw[if_neg c2];repeat' first|refine ga ?_|refine cq h1 ?_|refine cq h2 ?_
   exact vj []
def xK:List Int->Int
 |[]=>0
 |x::t=>if x≠0 then x else xK t
def HS{xs:List Int}{v:Value}{h:Hp}(hs:Rs xs v h)(hl:xs.length<=1000):Ct prog 200 [v] [h] (λr H'=>r= .int .i64 (xK xs)/\H'=[h]):=by
 obtain⟨p,c,rfl⟩:=hs.len;refine Ct.mk' func200 rfl rfl rfl (λg R=>?_);try simp only[ca]
 simp only[na];try refine ga ?_
 refine W.loop (α:=Nat) (λk=>k<=xs.length/\xK xs=xK (xs.drop k)) (λk=>[(3,.int .i64 0),(6,.slice p xs.length c),(7,.int .i64 (xs.length:Int)),(8,.int .i64 (k:Int))]) (λ_=>[h,R]) (λk=>xs.length - k) 0 ⟨Nat.zero_le _,rfl⟩ (by repeat(first|exact Ca.nil|refine Ca.cons rfl ?_)) (Ga.qa inferInstance) ?_;rintro k ⟨hk,ho⟩;by_cases hlt:k<xs.length
 .obtain⟨x,hx⟩:∃x,xs[k]? =some x:=⟨_,List.getElem?_eq_getElem hlt⟩;rw[drop_eq_getElem_cons hlt,show xs[k]=x from(List.getElem?_eq_some_iff.1 hx).2] at ho;by_cases h0:x=0
  .rw[show xK (x::xs.drop (k+1))=_ from if_neg (not_not_intro h0)] at ho;try refine ga ?_
   exact D.rd (k+1) ⟨by omega,ho⟩ (by omega)
  .rw[show xK (x::xs.drop (k+1))=_ from if_pos h0] at ho;try refine ga ?_
   exact D.Ia [h] _ rfl rfl ⟨by rw[ho],rfl⟩
 .obtain rfl:k=xs.length:=by omega
  rw[drop_length] at ho;try refine ga ?_
  exact D.Ia [h] _ rfl rfl ⟨by rw[ho];rfl,rfl⟩
abbrev mX(e:ya):Value:= .agg (List.toArray [e.ct,e.sd,e.sr])
def kN(a b:ya):Ct prog 201 [mX a,mX b] [] (λr H'=>r= .int .i64 (Ql a b)/\H'=[]):=by
 have h1:=Ao a.ct b.ct;have h2:=Ao a.sd b.sd;have h3:=Ao a.sr b.sr
 have e:Ql a b=xK [Xl a.ct b.ct,Xl a.sd b.sd,Xl a.sr b.sr]:=by
  unfold Ql xK xK xK xK;split
  .rfl
  .split
   .rfl
   .split
    .rfl
    .rename_i h;exact Classical.not_not.1 h
 rw[e];generalize Xl a.ct b.ct=x at h1⊢;generalize Xl a.sd b.sd=y at h2⊢;generalize Xl a.sr b.sr=z at h3⊢;refine ce func201 λg R=>?_;repeat' first|refine vb ?_|refine Ud λ_=>?_
 rename_i b2 b3;refine Ns (ml [4,1,4,1,4,3]) [[(b2,.cells (List.toArray [a.ct,a.sd,a.sr]) 44 (0,0))],[(b3,.cells (List.toArray [b.ct,b.sd,b.sr]) 44 (0,0))]] ?_;repeat' first|refine ga ?_|refine cq h1 ?_|refine cq h2 ?_|refine cq h3 ?_
 refine Kp [x,y,z] (λv4 h4 hs4=>?_);have ho:=HS hs4.rs (by simp only[Gb,jd];omega);repeat' first|refine ga ?_|refine cq ho ?_
 exact vj []
def V9.cy(v:V9){d r:Nat}(hd:d<3)(hr:r<3):v.enc[0+((d:Nat):Int).toNat*3+((r:Nat):Int).toNat*1]? =some (.int .i64 (v.at (d*3+r))):=by
 rw[show 0+((d:Nat):Int).toNat*3+((r:Nat):Int).toNat*1=d*3+r by simp only[Int.toNat_natCast];omega,V9.Vd _ (by omega)]
def sP(a b:V9):Ct prog 224 [.agg (List.toArray a.enc),.agg (List.toArray b.enc)] [] (λr H'=>r= .bool (decide (QE a b))/\H'=[]):=by
 refine ce func224 λg R=>?_;repeat' first|refine vb ?_|refine Ud λ_=>?_
 rename_i b2 b3;refine W.h0 [Na b3 b,Na b2 a,R] ?_;refine W.lo (α:=Nat) (λd=>d<=3/\∀i,i<d*3->b.at i<=a.at i) (λd=>[(2,b2),(3,b3),(7,.int .i64 (d:Int))]) (λ_=>[Na b3 b,Na b2 a,R]) (λd=>3 - d) 0 ⟨Gi _,λi hi=>absurd hi (by omega)⟩ ?_;rintro d ⟨hd,hall⟩;by_cases hlt:d<3
 .try refine ga ?_
  refine W.lo (α:=Nat) (λr=>r<=3/\∀i,i<d*3+r->b.at i<=a.at i) (λr=>[(2,b2),(3,b3),(5,.int .i64 (d:Int)),(7,.int .i64 (d:Int)),(10,.int .i64 (r:Int))]) (λ_=>[Na b3 b,Na b2 a,R]) (λr=>3 - r) 0 ⟨Gi _,hall⟩ ?_;clear hall;rintro r ⟨hr,hall⟩;by_cases hlr:r<3
  .have g1:=V9.cy a hlt hlr;have g2:=V9.cy b hlt hlr;by_cases hc:b.at (d*3+r)<=a.at (d*3+r)
   .try refine ga ?_
    refine wq ?_;repeat' first|refine ga ?_|refine lN a.enc _ rfl ?_ (hc:=g1)|refine lN b.enc _ rfl ?_ (hc:=g2)
    refine D.rd (r+1) ⟨by omega,λi hi=>?_⟩ (by omega);rcases Nat.lt_or_ge i (d*3+r) with h|h
    .exact hall i h
    .obtain rfl:i=d*3+r:=by omega
     exact hc
   .have hno: ¬QE a b:=λh=>hc (h (d*3+r) (by omega));try refine ga ?_
    refine wq ?_;repeat' first|refine ga ?_|refine lN a.enc _ rfl ?_ (hc:=g1)|refine lN b.enc _ rfl ?_ (hc:=g2)
    exact Wa [] rfl rfl ⟨by rw[gj hno],rfl⟩
  .obtain rfl:r=3:=by omega
   try refine ga ?_
   exact D.rd (d+1) ⟨by omega,λi hi=>hall i (by omega)⟩ (by omega)
 .obtain rfl:d=3:=by omega
  try refine ga ?_
  exact Wa [] rfl rfl ⟨by rw[Fi (show QE a b from hall)],rfl⟩
def Ki(v:V9)(rg:Int)(c:V3):Nat->V9
 |0=>v
 |k+1=>zg (Ki v rg c k) (k:Int) rg (c.at k)
def IS(v:V9)(rg:Int)(c:V3):Ct prog 72 [.agg (List.toArray v.enc),rg,.agg (List.toArray c.enc)] [] (λr H'=>r= .agg (List.toArray (Ej v rg c).enc)/\H'=[]):=by
 refine ce func72 λg R=>?_;repeat' first|refine vb ?_|refine Ud λ_=>?_|refine al λ_=>?_|refine yj c.enc ?_
 rename_i b3 b5 b6;refine W.h0 [Na b6 V9.z,Ac b5 c,Na b3 (Ki v rg c 0),R] ?_;refine W.lo (α:=Nat) (λk=>k<=3) (λk=>[(1,rg),(3,b3),(6,b6),(9,.agg (List.toArray c.enc)),(10,.int .i64 (k:Int))]) (λk=>[Na b3 (Ki v rg c k),Na b6 V9.z,R]) (λk=>3 - k) 0 (Gi _) ?_;intro k hk;by_cases hlt:k<3
 .have hel:=V3.Vd c hlt;generalize hx:c.at k=x at hel;have hn:Ki v rg c (k+1)=zg (Ki v rg c k) (k:Int) rg x:=by rw[<-hx];rfl
  try refine ga ?_
  refine WX.Z0 rfl rfl hlt hel rfl ?_;repeat' first|refine ga ?_|refine Of (Ki v rg c k).enc (Ki v rg c k).enc ?_|refine Vf (Dt.enc ⟨(k:Int),rg,x⟩) ?_
  refine Kp [(⟨(k:Int),rg,x⟩:Dt)] (λv4 h4 hs4=>?_);have hw:=XH (Ki v rg c k) hs4.rs (by simp only[Gb,jd];omega);rw[show Vo (Ki v rg c k) [(⟨(k:Int),rg,x⟩:Dt)]=Ki v rg c (k+1) from hn.symm] at hw;repeat' first|refine ga ?_|refine cq hw ?_|refine nh (Ki v rg c k).enc (Ki v rg c (k+1)).enc ?_
  exact D.re (k+1)
 .obtain rfl:k=3:=by omega
  repeat' first|refine ga ?_|refine Of (Ki v rg c 3).enc (Ki v rg c 3).enc ?_|refine nh V9.z.enc (Ki v rg c 3).enc ?_
  exact D.Dc [] _ rfl (.Ua rfl rfl .nil) ⟨rfl,rfl⟩
def tP:Option Nat->Int
 |none=> -1
 |some i=>(i:Int)
def FY(fid:FuncId)(caps:List Value):Value:= .func (.func fid) (List.toArray []) (List.toArray caps)
section
variable{ps:List ya}{v:Value}{h:Hp}{fid:FuncId}[hn:Go.Sl.Enters prog fid]{caps:List Value}{hq:Hp}{p:ya->Bool}(hc:∀x∈ps,Ct prog fid (.agg (Nb.enc x).toArray::caps) [hq] (λr H'=>r= .bool (p x)/\H'=[hq]))
include hc
theorem nN(hs:Rs ps v h)(hl:ps.length<=1000000):Ct prog 227 [v,FY fid caps] [h,hq] (λr H'=>r= .int .i64 (tP (ps.findIdx? p))/\H'=[h,hq]):=by
 refine cr func227 λg R=>?_;refine W.lo (α:=Nat) (λj=>j<=ps.length/\∀(i:Nat) (x:ya),i<j->ps[i]? =some x->p x=false) (λj=>[(0,v),(1,FY fid caps),(7,.int .i64 (ps.length:Int)),(8,.int .i64 (j:Int))]) (λ_=>[h,hq,R]) (λj=>ps.length - j) 0 ⟨Gi _,λi p hi=>absurd hi (Nat.not_lt_zero _)⟩ ?_;rintro j ⟨hj,hall⟩;by_cases hlt:j<ps.length
 .obtain⟨x,hx⟩:=Sh hlt;obtain⟨h1,h2⟩:=List.getElem?_eq_some_iff.1 hx;try refine run ?_
  refine WX.Np rfl rfl (hc x (mem_of_getElem? hx)) rfl ?_;rintro _ _ ⟨rfl,rfl⟩
  cases hpk:p x with
  |true=>
   have hf:ps.findIdx? p=some j:=by
    rw[List.findIdx?_eq_some_iff_getElem];exact⟨h1,by rw[h2];exact hpk,λi hi=>by rw[hall i _ hi (oh (by omega))];decide⟩
   refine rn ?_
   exact Wa [h,hq] rfl rfl ⟨by rw[hf];rfl,rfl⟩
  |false=>
   refine rn ?_;refine D.rd (j+1) ⟨by omega,λi y hi hy=>?_⟩ (by omega);rcases Nat.lt_or_ge i j with h|h
   .exact hall i y h hy
   .obtain rfl:i=j:=by omega
    rw[hx] at hy;cases hy;exact hpk
 .have hf:ps.findIdx? p=none:=by
   rw[List.findIdx?_eq_none_iff];intro x hx;obtain⟨i,hi⟩:=mem_iff_getElem?.1 hx;exact hall i x (by have:=(List.getElem?_eq_some_iff.1 hi).1;omega) hi
  try refine run ?_
  exact Wa [h,hq] rfl rfl ⟨by rw[hf];rfl,rfl⟩
theorem JS(hs:Rs ps v h)(hl:ps.length<=1000000):Ct prog 154 [v,FY fid caps] [h,hq] (λr H'=>r= .bool (ps.any p)/\H'=[h,hq]):=by
 have hi:=nN hc hs hl
 have e:ps.any p=decide (0<=tP (ps.findIdx? p)):=by
  cases hf:ps.findIdx? p with
  |none=>
   rw[List.findIdx?_eq_none_iff] at hf
   exact any_eq_false.2 λx hx=>by rw[hf x hx];decide
  |some i=>
   obtain⟨h1,h2,-⟩:=List.findIdx?_eq_some_iff_getElem.1 hf;rw[any_eq_true.2 ⟨_,getElem_mem h1,h2⟩];exact(Fi (Int.natCast_nonneg i)).symm
 rw[e];refine cr func154 λg R=>?_;refine cq hi ?_;try refine run ?_
 exact vj [h,hq]
end
def XV{gs:List ya}{v:Value}{h:Hp}{k:Nat}(hs:ia 49 gs v h)(hk:k<gs.length)(hl:gs.length<=1099511627776):
  Ct prog 225 [v,.int .i64 (k:Int),.int .i64 ((k:Int)+1)] [h] (λr H'=>∃h',ia 49 (gs.eraseIdx k) r h'/\H'=[h']):=by
 obtain⟨b,cap,sp,fr,rfl,rfl,g1,g2,g3⟩:=hs.ne (by omega);have hz:Nb.sz ya=20:=rfl;have hr:=hs.rs;have th:(gs.take k).length=k:=by rw[Fe];omega
 have hdk:(gs.drop (k+1)).length=gs.length - (k+1):=length_drop;have hek:gs.take k++gs.drop (k+1)=gs.eraseIdx k:=(eraseIdx_eq_take_drop_succ gs k).symm;have hcs:Ib gs++sp=Ib (gs.take k)++(Ib (gs.drop k)++sp):=by rw[<-Oc,<-Bg,take_append_drop]
 have e1:(k:Int)+1=((k+1:Nat):Int):=by omega
 rw[e1];have hrd:=hr.from (m:=20) rfl (lo:=k+1) (by omega);refine cr func225 λg R=>?_;refine WX.N8 (lo:=k) (hi:=k+1) (mx:=gs.length) rfl rfl rfl rfl (by omega) (by omega) g1 rfl ?_;try refine run ?_
 refine cX (ml [6]) [] ?_;repeat' first|refine run ?_|refine WX.ei (lo:=k+1) rfl rfl (by omega) g1 rfl ?_
 refine WX.N3 (xs:=gs.take k) (ys:=gs.drop (k+1)) (sp:=Ib (gs.drop k)++sp) rfl rfl hrd rfl th.symm hcs (by omega) (by rw[Cb,Ec,g2,length_drop,th,hz];omega) g3 (by omega) rfl ?_;rw[th,hdk,show k+(gs.length - (k+1))=gs.length - 1 by omega,hek];try refine run ?_
 refine WX.nJ (lo:=gs.length - 1) (hi:=gs.length) rfl rfl rfl (by omega) g1 rfl ?_;rw[Mt,if_neg (by omega),show gs.length - (gs.length - 1)=1 by omega];simp only[Option.map_some,Sc,Nat.zero_add];have hel:(Ib (gs.eraseIdx k)).length=(gs.length - 1)*20:=by rw[Ec,length_eraseIdx_of_lt hk,hz]
 have Mf:(List.drop ((gs.length - (k+1))*Nb.sz ya) (Ib (gs.drop k)++sp)).length=(cap - (gs.length - 1))*20:=by
  rw[length_drop,Cb,Ec,length_drop,g2,hz];omega
 refine WX.UK rfl (by rw[Cb,hel,Mf,show(gs.length - 1)*20+(cap - (gs.length - 1))*20=cap*20 by omega];exact g3) (by decide)
  (by rw[Cb,hel,Mf];simp only[Gb,jd];omega) rfl ?_
 rw[show(gs.length - 1)*20=(Ib (gs.eraseIdx k)).length+0 by rw[hel];rfl,Tc];generalize hsp:setAt (List.drop _ _) 0 _=sp';try refine run ?_
 refine Wa [[(b,.cells (List.toArray (Ib (gs.eraseIdx k)++sp')) 49 fr)]] rfl rfl ⟨_,.inr ⟨b,cap,sp',fr,?_,rfl,?_,?_,g3⟩,rfl⟩
 .rw[length_eraseIdx_of_lt hk]
 .rw[length_eraseIdx_of_lt hk];omega
 .rw[<-hsp,vq,Mf,length_eraseIdx_of_lt hk];rfl
def vi(p:ya->Bool)(ps:List ya)(j:Nat):List ya:=(ps.take j).filter λx=> !p x
def cA{p:ya->Bool}{ps:List ya}{j:Nat}{x:ya}(h:ps[j]? =some x):vi p ps (j+1)=vi p ps j++(if p x=true then[] else[x]):=by
 obtain⟨h1,h2⟩:=List.getElem?_eq_some_iff.1 h;unfold vi;rw[take_succ_eq_append_getElem h1,h2,filter_append];congr 1;cases hp:p x<;>simp[hp]
structure O8(p:ya->Bool)(ps:List ya)(j:Nat)(l:List ya):Prop where
 len:l.length=ps.length
 lt:(vi p ps j).length<j
 pre:l.take (vi p ps j).length=vi p ps j
 post:∀i,j<=i->l[i]? =ps[i]?
section
variable{ps:List ya}{v:Value}{h:Hp}{fid:FuncId}[hn:Go.Sl.Enters prog fid]{caps:List Value}{hq:Hp}{p:ya->Bool}(hc:∀x∈ps,Ct prog fid (.agg (Nb.enc x).toArray::caps) [hq] (λr H'=>r= .bool (p x)/\H'=[hq]))
include hc
theorem YV(hs:ia 49 ps v h)(hl:ps.length<=1000000):
  Ct prog 221 [v,FY fid caps] [h,hq] (λr H'=>∃h',H'=[h',hq]/\ia 49 (ps.filter λx=> !p x) r h'):=by
 have eR:=nN hc hs.rs hl;have fF:=hs.rs
 cases hf:ps.findIdx? p with
 |none=>
  rw[hf] at eR
  have hall:(ps.filter λx=> !p x)=ps:=by
   rw[filter_eq_self];rw[List.findIdx?_eq_none_iff] at hf;intro x hx;rw[hf x hx];rfl
  rw[hall];refine cr func221 λg R=>?_;refine cq eR ?_;simp only[tP];try refine run ?_
  exact Wa [h,hq] rfl rfl ⟨_,rfl,hs⟩
 |some i0=>
  rw[hf] at eR;simp only[tP] at eR;rw[List.findIdx?_eq_some_iff_getElem] at hf;obtain⟨qQ,hik,hib⟩:=hf
  have L1:vi p ps i0=ps.take i0:=by
   unfold vi;rw[filter_eq_self];intro x hx;obtain⟨j,hj,he⟩:=mem_take_iff_getElem.1 hx;have:=hib j (by omega);rw[he] at this;simpa using this
  have Lt:vi p ps (i0+1)=ps.take i0:=by
   rw[cA (oh qQ),L1,if_pos hik,append_nil]
  have tB:(vi p ps (i0+1)).length=i0:=by rw[Lt,Fe];omega
  refine cr func221 λg R=>?_;refine cq eR ?_;try refine run ?_
  refine W.as 5 (.int .i64 ((vi p ps (i0+1)).length:Int)) rfl (by rw[tB]) ?_;refine W.as 6 (.int .i64 ((i0+1:Nat):Int)) rfl (by congr 1) ?_
  refine W.lo (α:=Nat×List ya×Hp) (λx=>x.1<=ps.length/\O8 p ps x.1 x.2.1/\ia 49 x.2.1 v x.2.2) (λx=>[(0,v),(1,FY fid caps),(5,.int .i64 ((vi p ps x.1).length:Int)),(6,.int .i64 (x.1:Int))]) (λx=>[x.2.2,hq,R]) (λx=>ps.length - x.1)
   (i0+1,ps,h) ⟨by simp only[];omega,⟨rfl,by rw[tB];omega,by rw[tB,Lt],λ_ _=>rfl⟩,hs⟩ ?_
  clear fF;rintro⟨j,l,h2⟩ ⟨hj,hI,Mf⟩;simp only[] at hj hI Mf⊢;have hrl:=Mf.rs;have jg:=hI.len;have hkj:=hI.lt;by_cases hlt:j<ps.length
  .obtain⟨x,hx⟩:=Sh hlt;have hlp:l[j]? =some x:=by rw[hI.post j (Nat.le_refl _),hx]
   have hks:=cA (p:=p) hx;repeat' first|refine run ?_|refine al λ_=>?_
   refine WX.Np rfl rfl (hc x (mem_of_getElem? hx)) rfl ?_;rintro _ _ ⟨rfl,rfl⟩
   cases hpk:p x with
   |true=>
    rw[hpk,if_pos rfl,append_nil] at hks;refine rn ?_;refine D.as 5 (.int .i64 ((vi p ps (j+1)).length:Int)) rfl (by rw[hks]) ?_
    refine D.rd (j+1,l,h2) ⟨by simp only[];omega,⟨jg,by rw[hks];omega,by rw[hks];exact hI.pre,λi hi=>hI.post i (by omega)⟩,Mf⟩ (by simp only[];omega)
   |false=>
    rw[hpk,if_neg (by decide)] at hks;obtain⟨y,hy⟩:∃y,l[(vi p ps j).length]? =some y:=⟨_,oh (by omega)⟩;refine rn ?_;refine WX.ko (y':=x) (vs:=Nb.enc x) rfl rfl rfl Mf hy rfl rfl rfl (Mh rfl) rfl (λh3 Fc=>?_);try refine run ?_
    refine D.as 5 (.int .i64 ((vi p ps (j+1)).length:Int)) rfl (by rw[hks,Cb];congr 1) ?_;refine D.rd (j+1,l.set (vi p ps j).length x,h3) ⟨by simp only[];omega,⟨by simp[jg],by rw[hks,Cb];simp only[Gb,jd];omega,?_,λi hi=>?_⟩,Fc⟩ (by simp only[];omega)
    .rw[hks,Cb];simp only[Gb,jd,Nat.zero_add];rw[take_succ_eq_append_getElem (by simp;omega),take_set_of_le (Nat.le_refl _),hI.pre];simp
    .simp only[] at hi;rw[List.getElem?_set_ne (by omega)];exact hI.post i (by omega)
  .obtain rfl:j=ps.length:=by omega
   have zU:vi p ps ps.length=ps.filter λx=> !p x:=by unfold vi;rw[take_length]
   obtain⟨b,cap,sp,fr,rfl,rfl,g1,g2,g3⟩:=Mf.ne (by omega);have hz:Nb.sz ya=20:=rfl;have hpre:=hI.pre;clear hI;generalize hK:vi p ps ps.length=K at*
   have hcs:Ib l++sp=Ib K++(Ib (l.drop K.length)++sp):=by
    conv=>lhs;rw[<-take_append_drop K.length l,hpre,Bg,Oc]
   try refine run ?_
   refine WX.ei (lo:=K.length) rfl rfl (by omega) g1 rfl ?_;rw[Mt,if_neg (by omega)];simp only[Option.map_some,Sc,Nat.zero_add];have hel:(Ib K).length=K.length*20:=by rw[Ec,hz]
   have sO:(Ib (l.drop K.length)++sp).length=(cap - K.length)*20:=by
    rw[Cb,Ec,length_drop,g2,hz];omega
   have mh:(Ib l++sp).length=cap*20:=by rw[hcs,Cb,hel,sO];omega
   refine WX.UK rfl (by rw[mh];exact g3) (by omega) (by rw[mh];simp only[Gb,jd];omega) rfl ?_;rw[hcs,show K.length*20=(Ib K).length+0 by rw[hel];rfl,Tc];generalize hsp:setAt (Ib (List.drop K.length l)++sp) 0 _=sp';try refine run ?_
   refine Wa [[(b,.cells (List.toArray (Ib K++sp')) 49 fr)],hq] rfl rfl ⟨_,rfl,.inr ⟨b,cap,sp',fr,?_,?_,?_,?_,g3⟩⟩
   .rw[<-zU];rfl
   .rw[<-zU]
   .rw[<-zU];omega
   .rw[<-hsp,vq,sO,<-zU,hz]
end
abbrev La(b:Nat)(rg:Int)(v:Value):Hp:=[(b,.cells (List.toArray [rg,v]) 187 (0,0))]
def Jj(e x:ya):Bool:=decide (x.dc=e.dc/\x.rg=e.rg/\x.sq=e.sq)
def KS(x e:ya):Db [.i,.i,.i] [x.dc,x.rg,x.sq] [e.dc,e.rg,e.sq]=some (Jj e x):=by
 obtain⟨b,h1,h2⟩:=Qh (ks:=[.i,.i,.i]) (xs:=[.int .i64 x.dc,.int .i64 x.rg,.int .i64 x.sq]) (ys:=[.int .i64 e.dc,.int .i64 e.rg,.int .i64 e.sq]) rfl rfl;rw[h1];congr 1;unfold Jj;by_cases h:x.dc=e.dc/\x.rg=e.rg/\x.sq=e.sq
 .obtain⟨a1,a2,a3⟩:=id h;rw[Fi h];exact h2.2 (by rw[a1,a2,a3])
 .rw[gj h]
  cases hb:b with
  |false=>rfl
  |true=>
   have:=h2.1 hb;simp only[List.cons.injEq,Value.int.injEq,true_and,and_true] at this;exact absurd this h
def LS(b7:Nat)(e x:ya):Ct prog 155 [.agg (Nb.enc x).toArray,b7] [Fb b7 e] (λr H'=>r= .bool (Jj e x)/\H'=[Fb b7 e]):=by
 have hcmp:=KS x e;refine ce func155 λg R=>?_;repeat' first|refine vb ?_|refine Ud λ_=>?_
 rename_i b2;repeat' first|refine ga ?_|refine Xm b2 0 x.enc [x.dc,x.rg,x.sq] ?_|refine Xm b7 0 e.enc [e.dc,e.rg,e.sq] ?_|refine WX.Vu rfl rfl hcmp rfl ?_
 exact vj [Fb b7 e]
def MS{b3:Nat}{hv:V9}{e:ya}(hc:Qb e.dc e.rg)(h1:1<=e.sq):Ct prog 223 [.agg (List.toArray hv.enc),.agg (List.toArray [e.dc,e.rg,e.sq])] [] (λr H'=>r= .bool (decide (e.sq<=hv.of e))/\H'=[]):=by
 have hch:=Xj e.dc e.rg;rw[Fi hc] at hch;obtain⟨c1,c2,c3,c4⟩:=hc;have g1:hv.enc[0+e.dc.toNat*3+e.rg.toNat*1]? =some (.int .i64 (hv.of e)):=by rw[show 0+e.dc.toNat*3+e.rg.toNat*1=e.dc.toNat*3+e.rg.toNat by omega,V9.Vd _ (by omega)];rfl
 refine ce func223 λg R=>?_;repeat' first|refine vb ?_|refine Ud λ_=>?_
 rename_i b2 b3;refine Ns (ml [4,1,17]) [[(b3,.cells (List.toArray [e.dc,e.rg,e.sq]) 42 (0,0))],Na b2 hv] ?_;repeat' first|refine ga ?_|refine lN hv.enc _ rfl ?_ (hc:=g1)|refine cq hch ?_
 exact vj []
def NS(b3:Nat)(hv:V9){e:ya}(hc:Qb e.dc e.rg)(h1:1<=e.sq):Ct prog 222 [.agg (Nb.enc e).toArray,b3] [Na b3 hv] (λr H'=>r= .bool (decide (e.sq<=hv.of e))/\H'=[Na b3 hv]):=by
 have hh:=MS (b3:=b3) (hv:=hv) hc h1;refine ce func222 λg R=>?_;repeat' first|refine vb ?_|refine Ud λ_=>?_
 rename_i b2;repeat' first|refine ga ?_|refine yj hv.enc ?_|refine Xm b2 0 e.enc [e.dc,e.rg,e.sq] ?_|refine cq hh ?_
 exact vj [Na b3 hv]
variable{es hd:List ya}{hh:Hp}
def ZV(rg:Int):Ct prog 124 [rg] [] (λr H'=>∃b,r= .pointer (some ⟨b,0,none⟩)/\H'=[La b rg (.slice none 0 0)]):=by
 refine ce func124 λg R=>?_;repeat' first|refine vb ?_|refine Ud λ_=>?_|refine Vf [rg,.slice none 0 0] ?_
 rename_i b;exact Wa [La b rg (.slice none 0 0)] rfl rfl ⟨b,rfl,rfl⟩
def MV{v:Value}(hs:Rs es v hh)(b:Nat)(rg:Int):Ct prog 116 [.pointer (some ⟨b,0,none⟩)] [La b rg v] (λr H'=>r= .int .i64 (es.length:Int)/\H'=[La b rg v]):=by
 obtain⟨p,c,rfl⟩:=hs.len;refine Ct.mk' func116 rfl rfl rfl (λg R=>?_);try simp only[ca]
 simp only[na];try refine ga ?_
 exact D.Ia [La b rg (.slice p es.length c)] _ rfl rfl ⟨rfl,rfl⟩
def Lg(rg:Int)(hd:List ya)(e:ya):List ya:=if Xc e/\e.rg=rg/\hd.any (Jj e)=false/\hd.length<16 then hd++[e] else hd
def aW{v u:Value}{hu:Hp}(hs:ia 49 hd v hh)(he:Rs es u hu)(b:Nat)(rg:Int)(hl:hd.length<=16)(hel:es.length<=1000):
  Ct prog 68 [.pointer (some ⟨b,0,none⟩),u] [La b rg v,hh,hu] (λr H'=>∃k v' Ni,r= .int .i64 k/\H'=[La b rg v',Ni,hu]/\ia 49 (es.foldl (Lg rg) hd) v' Ni):=by
 obtain⟨pu,cu,rfl⟩:=he.len;refine Ct.mk' func68 rfl rfl rfl (λg R=>?_);try simp only[ca]
 simp only[na];try refine ga ?_
 refine W.loop (α:=Nat×Nat×Value×Hp) (λx=>x.1<=es.length/\x.2.1<=x.1/\ia 49 ((es.take x.1).foldl (Lg rg) hd) x.2.2.1 x.2.2.2/\((es.take x.1).foldl (Lg rg) hd).length<=16)
  (λx=>[(0,.pointer (some ⟨b,0,none⟩)),(5,.int .i64 (x.2.1:Int)),(9,.slice pu es.length cu),(10,.int .i64 (es.length:Int)),(11,.int .i64 (x.1:Int))]) (λx=>[La b rg x.2.2.1,x.2.2.2,hu,R]) (λx=>es.length - x.1) (0,0,v,hh) ⟨Nat.zero_le _,Nat.le_refl _,hs,hl⟩ (by repeat(first|exact Ca.nil|refine Ca.cons rfl ?_)) (Ga.qa inferInstance) ?_
 clear hs hl;rintro⟨i,n,v,hh⟩ ⟨hi,hni,hs,hl⟩;simp only[] at hi hni hs hl⊢;by_cases hlt:i<es.length
 .obtain⟨e,hx⟩:∃e,es[i]? =some e:=⟨_,List.getElem?_eq_getElem hlt⟩;have hn:(es.take (i+1)).foldl (Lg rg) hd=Lg rg ((es.take i).foldl (Lg rg) hd) e:=by rw[take_add_one,hx,foldl_append];rfl
  generalize(es.take i).foldl (Lg rg) hd=l at hs hl hn;have hR:=Jx e;obtain⟨pv,cv,rfl⟩:=hs.rs.len;repeat'(first|refine ga ?_|refine al (λ_=>?_)|refine WX.zc rfl he hx rfl rfl ?_|refine ud ya.z.enc e.enc rfl rfl ?_|fail)
  rename_i b7;refine WX.makeFunc (first:=[]) rfl rfl rfl ?_;have hc:=JS (λx _=>LS b7 e x) hs.rs (by omega);refine WX.ja rfl hc rfl ?_
  have neg: ¬(Xc e/\e.rg=rg/\l.any (Jj e)=false/\l.length<16)->ia 49 ((es.take (i+1)).foldl (Lg rg) hd) (.slice pv l.length cv) hh/\((es.take (i+1)).foldl (Lg rg) hd).length<=16:=λh=>by
   rw[hn,show Lg rg l e=l from if_neg h];exact⟨hs,hl⟩
  cases ha:l.any (Jj e)<;>by_cases hE:Xc e<;>by_cases hg:e.rg=rg<;>by_cases nP:l.length<16
  .clear neg;rw[show Lg rg l e=_ from if_pos ⟨hE,hg,ha,nP⟩] at hn;rw[decide_eq_true hE] at hR;try refine ga ?_
   refine W.od ([true,false]++List.replicate 21 true) [Fb b7 e,La b rg (.slice pv l.length cv)] Tryz.mix (by kernel_rfl) ?_;repeat'(first|refine ga ?_|refine Pa e.enc e.enc rfl ?_|refine WX.ja rfl hR rfl ?_|fail)
   refine W.od [true,true,true,true,true,true,false,false] [Fb b7 e,La b rg (.slice pv l.length cv)] Tryz.mix (by kernel_rfl) ?_;repeat'(first|refine ga ?_|refine Pa e.enc e.enc rfl ?_|fail)
   refine I.bs ?_;refine WX.lit (ys:=[e]) rfl rfl rfl rfl rfl rfl (by decide) rfl (λv4 h4 hs4=>?_);try refine ga ?_
   refine WX.app rfl rfl hs hs4.rs rfl rfl (by decide) (by simp only[length_cons,length_nil];omega) rfl (λv5 h5 hs5=>?_);rw[<-hn] at hs5;obtain⟨p5,c5,rfl⟩:=hs5.rs.len;try refine ga ?_
   refine I.st ?_;refine Td [.int .i64 rg,.slice pv l.length cv] [.int .i64 rg,.slice p5 ((es.take (i+1)).foldl (Lg rg) hd).length c5] rfl rfl ?_;try refine ga ?_
   refine D.as 5 (.int .i64 ((n+1:Nat):Int)) rfl (by congr 1) ?_;exact D.rd (i+1,n+1,.slice p5 ((es.take (i+1)).foldl (Lg rg) hd).length c5,h5) ⟨by simp only[];omega,by simp only[];omega,hs5,by simp only[hn,length_append,length_cons,length_nil];omega⟩ (by simp only[];omega)
  all_goals
   have neg:=neg (by simp only[ha,hE,hg,nP,and_true,and_false,true_and,false_and,not_false_eq_true,Bool.true_eq_false]);first|rw[decide_eq_true hE] at hR|rw[decide_eq_false hE] at hR
   try refine ga ?_
   refine W.od ([true,false]++List.replicate 21 true) [Fb b7 e,La b rg (.slice pv l.length cv)] Tryz.mix (by kernel_rfl) ?_;repeat'(first|refine ga ?_|refine Pa e.enc e.enc rfl ?_|refine WX.ja rfl hR rfl ?_|fail)
   exact D.rd (i+1,n,.slice pv l.length cv,hh) ⟨by simp only[];omega,by simp only[];omega,neg⟩ (by simp only[];omega)
 .obtain rfl:i=es.length:=by omega
  rw[take_length] at hs;try refine ga ?_
  exact D.Ia [La b rg v,hh,hu] _ rfl rfl ⟨_,v,hh,rfl,rfl,hs⟩
def uP{v:Value}(hs:ia 49 hd v hh)(b:Nat)(rg:Int)(hl:hd.length<=16)(hv:V9)(hok:∀e∈hd,Xc e):
  Ct prog 151 [b,.agg (List.toArray hv.enc)] [La b rg v,hh] (λr H'=>∃k v' Ni,r= .int .i64 k/\H'=[La b rg v',Ni]/\ia 49 (hd.filter λe=>decide (hv.of e<e.sq)) v' Ni):=by
 obtain⟨pv,cv,rfl⟩:=hs.rs.len;refine ce func151 λg R=>?_;repeat' first|refine vb ?_|refine Ud λ_=>?_
 rename_i b3;refine WX.h0 [Na b3 hv,La b rg (.slice pv hd.length cv),hh,R] ?_;refine WX.makeFunc (first:=[]) rfl rfl rfl ?_;have hc:=YV (p:=λe=>decide (e.sq<=hv.of e)) (hq:=Na b3 hv) (fid:=222) (caps:=[b3]) (λx hx=>NS b3 hv (hok x hx).ch (hok x hx).sq.1) hs (by omega);refine ck hc ?_;rintro v2 _ ⟨h2,rfl,Oa⟩;rw[show(hd.filter λx=> !decide (x.sq<=hv.of x))=hd.filter λe=>decide (hv.of e<e.sq) from filter_congr λx _=>by by_cases h:x.sq<=hv.of x<;>simp[h]<;>omega] at Oa;obtain⟨pw,cw,rfl⟩:=Oa.rs.len;have hle:(hd.filter λe=>decide (hv.of e<e.sq)).length<=hd.length:=length_filter_le ..;refine vb ?_;refine Wh [rg,.slice pv hd.length cv] [rg,.slice pw (hd.filter λe=>decide (hv.of e<e.sq)).length cw] ?_;try refine ga ?_
 exact Wa [La b rg (.slice pw (hd.filter λe=>decide (hv.of e<e.sq)).length cw),h2] rfl rfl ⟨_,_,_,rfl,rfl,Oa⟩
def Cm(h:V9)(hd:List ya):∀k,-1<=zd h hd k/\zd h hd k<(k:Int)
 |0=>⟨Int.le_refl _,by show(-1:Int)<0;decide⟩
 |k+1=>by
  have:=Cm h hd k;unfold zd;split<;>omega
def bW:Option ya->Value
 |some e=> .tuple #[.agg (List.toArray e.enc),.bool true]
 |none=> .tuple #[.agg (List.toArray ya.z.enc),.bool false]
def Wq(h:V9)(hd:List ya):Option ya×List ya:=if Be h hd<0 then(none,hd) else(some (hd.getD (Be h hd).toNat ya.z),hd.eraseIdx (Be h hd).toNat)
structure SL(hv:V9)(e:ya):Prop where
 ch:Qb e.dc e.rg
 rg: -1<=hv.of e/\hv.of e<=1099511627776
 sq:1<=e.sq/\e.sq<=1099511627776
def SL.at{hv:V9}{e:ya}(h:SL hv e):hv.enc[0+e.dc.toNat*3+e.rg.toNat*1]? =some (.int .i64 (hv.of e)):=by
 obtain⟨c1,c2,c3,c4⟩:=h.ch;rw[show 0+e.dc.toNat*3+e.rg.toNat*1=e.dc.toNat*3+e.rg.toNat by omega,V9.Vd _ (by omega)];rfl
def OS{hd:List ya}{v:Value}{hh:Hp}(hs:ia 49 hd v hh)(b:Nat)(rg:Int)(hl:hd.length<=16)(hv:V9)(hok:∀e∈hd,SL hv e):
  Ct prog 152 [b,.agg (List.toArray hv.enc)] [La b rg v,hh] (λr H'=>∃v' Ni,r=bW (Wq hv hd).1/\H'=[La b rg v',Ni]/\ia 49 (Wq hv hd).2 v' Ni):=by
 have hr:=hs.rs;obtain⟨pv,cv,rfl⟩:=hr.len;refine ce func152 λg R=>?_;repeat' first|refine vb ?_|refine Ud λ_=>?_|refine al λ_=>?_
 rename_i b3 b4;refine W.h0 [Fb b4 ya.z,Na b3 hv,La b rg (.slice pv hd.length cv),hh,R] ?_
 refine W.lo (α:=Nat) (λk=>k<=hd.length) (λk=>[(0,b),(3,b3),(4,b4),(6,.int .i64 (zd hv hd k)),(14,.slice pv hd.length cv),(15,.int .i64 (hd.length:Int)),(16,.int .i64 (k:Int))])
  (λ_=>[Fb b4 ya.z,Na b3 hv,La b rg (.slice pv hd.length cv),hh,R]) (λk=>hd.length - k) 0 (Gi _) ?_
 intro k hk;obtain⟨r1,r2⟩:=Cm hv hd k;by_cases hlt:k<hd.length
 .obtain⟨e,hx⟩:=Sh hlt;have he:=hok e (mem_of_getElem? hx);have hg:=he.at;obtain⟨g1,g2⟩:=he.rg;have hge:hd.getD k ya.z=e:=by rw[getD_eq_getElem?_getD,hx];rfl
  have hn:zd hv hd (k+1)=if iu hv e/\(zd hv hd k<0\/Ql e (hd.getD (zd hv hd k).toNat ya.z)<0) then(k:Int) else zd hv hd k:=by rw[<-hge];rfl
  have di:=sP hv e.dp;repeat' first|refine ga ?_|refine al λ_=>?_|refine rG hr hx ?_|refine nh ya.z.enc e.enc ?_
  rename_i b8;obtain⟨d1,d2,d3,d4⟩:=he.ch;have hcs:∀y:ya,Ct prog 201 [mX e,mX y] [] (λr H'=>r= .int .i64 (Ql e y)/\H'=[]):=λy=>kN e y;by_cases c1:e.sq=hv.of e+1<;>by_cases c2:QE hv e.dp<;>first|rw[Fi c2] at di|rw[gj c2] at di
  .by_cases c3:zd hv hd k<0
   .rw[if_pos ⟨⟨c1,c2⟩,.inl c3⟩] at hn;refine Ns (ml [18,1,1]) [Fb b8 e,Na b3 hv] ?_;repeat' first|refine ga ?_|refine lN hv.enc _ rfl ?_ (hc:=hg)|refine yj hv.enc ?_|refine Xm b8 9 e.enc e.dp.enc ?_|refine cq di ?_
    refine Ns (ml [15,1,3]) [Fb b8 e,La b rg (.slice pv hd.length cv),hh] ?_;try refine ga ?_
    refine D.as 6 (.int .i64 (zd hv hd (k+1))) rfl (by rw[hn]) ?_;exact D.re (k+1)
   .obtain⟨J,hJ⟩:∃J:Nat,zd hv hd k=(J:Int):=⟨(zd hv hd k).toNat,by omega⟩;obtain⟨y,hy⟩:∃y,hd[J]? =some y:=⟨_,oh (by omega)⟩;have GY:hd.getD J ya.z=y:=by rw[getD_eq_getElem?_getD,hy];rfl
    have hcs:=hcs y;rw[hJ,Int.toNat_natCast,GY] at hn;rw[hJ] at r2⊢;by_cases c4:Ql e y<0
    .rw[if_pos ⟨⟨c1,c2⟩,.inr c4⟩] at hn;refine Ns (ml [18,1,1]) [Fb b8 e,Na b3 hv] ?_;repeat' first|refine ga ?_|refine lN hv.enc _ rfl ?_ (hc:=hg)|refine yj hv.enc ?_|refine Xm b8 9 e.enc e.dp.enc ?_|refine cq di ?_
     refine Ns (ml [15,1,3]) [Fb b8 e,La b rg (.slice pv hd.length cv),hh] ?_;repeat' first|refine ga ?_|refine Xm b8 3 e.enc [e.ct,e.sd,e.sr] ?_|refine lF (us:=[y.ct,y.sd,y.sr]) rfl hr ?_ (hk:=hy) (ho:=rfl)|refine cq hcs ?_
     refine D.as 6 (.int .i64 (zd hv hd (k+1))) rfl (by rw[hn]) ?_;exact D.re (k+1)
    .rw[if_neg λh=>h.2.elim (λh=>by omega) c4] at hn;refine Ns (ml [18,1,1]) [Fb b8 e,Na b3 hv] ?_;repeat' first|refine ga ?_|refine lN hv.enc _ rfl ?_ (hc:=hg)|refine yj hv.enc ?_|refine Xm b8 9 e.enc e.dp.enc ?_|refine cq di ?_
     refine Ns (ml [15,1,3]) [Fb b8 e,La b rg (.slice pv hd.length cv),hh] ?_;repeat' first|refine ga ?_|refine Xm b8 3 e.enc [e.ct,e.sd,e.sr] ?_|refine lF (us:=[y.ct,y.sd,y.sr]) rfl hr ?_ (hk:=hy) (ho:=rfl)|refine cq hcs ?_
     refine D.as 6 (.int .i64 (zd hv hd (k+1))) rfl (by rw[hn]) ?_;exact D.re (k+1)
  all_goals
   rw[if_neg (by simp only[iu,c1,c2,false_and,and_false,not_false_eq_true])] at hn;refine Ns (ml [18,1,1]) [Fb b8 e,Na b3 hv] ?_;repeat' first|refine ga ?_|refine lN hv.enc _ rfl ?_ (hc:=hg)|refine yj hv.enc ?_|refine Xm b8 9 e.enc e.dp.enc ?_|refine cq di ?_
   refine Ns (ml [15,1,3]) [Fb b8 e,La b rg (.slice pv hd.length cv),hh] ?_;try refine ga ?_
   refine D.as 6 (.int .i64 (zd hv hd (k+1))) rfl (by rw[hn]) ?_;exact D.re (k+1)
 obtain rfl:k=hd.length:=by omega
 have hb:zd hv hd hd.length=Be hv hd:=rfl;unfold Wq;rw[hb] at r1 r2⊢;by_cases c3:Be hv hd<0
 .rw[if_pos c3];repeat' first|refine ga ?_|refine Vf ya.z.enc ?_|refine nh ya.z.enc ya.z.enc ?_
  exact D.yg [La b rg (.slice pv hd.length cv),hh] _ rfl (.Ua rfl rfl (.tmp rfl .nil)) rfl ⟨_,_,rfl,rfl,hs⟩
 .rw[if_neg c3];obtain⟨J,hJ⟩:∃J:Nat,Be hv hd=(J:Int):=⟨(Be hv hd).toNat,by omega⟩;rw[hJ] at r2⊢;rw[Int.toNat_natCast];obtain⟨y,hy⟩:∃y,hd[J]? =some y:=⟨_,oh (by omega)⟩;have GY:hd.getD J ya.z=y:=by rw[getD_eq_getElem?_getD,hy];rfl
  rw[GY];have P8:=XV hs (k:=J) (by omega) (by omega);repeat' first|refine ga ?_|refine al λ_=>?_|refine rG hr hy ?_|refine nh ya.z.enc y.enc ?_
  refine ck P8 ?_;rintro v2 _ ⟨h2,Oa,rfl⟩;obtain⟨pw,cw,rfl⟩:=Oa.rs.len;refine vb ?_;refine Wh [rg,.slice pv hd.length cv] [rg,.slice pw (hd.eraseIdx J).length cw] ?_;repeat' first|refine ga ?_|refine yj y.enc ?_|refine nh ya.z.enc y.enc ?_
  exact D.yg [La b rg (.slice pw (hd.eraseIdx J).length cw),h2] _ rfl (.Ua rfl rfl (.tmp rfl .nil)) rfl ⟨_,_,rfl,rfl,Oa⟩
abbrev Ka(b:Nat)(rg:Int)(v:Value):Hp:=[(b,.cells (List.toArray [rg,v]) 160 (0,0))]
def dA(x y:Int):Ct prog 286 [x,y] [] (λr H'=>r= .int .i64 (Xl x y)/\H'=[]):=by
 unfold Xl;refine ce func286 λg R=>?_;simp only[can];by_cases c1:x<y
 .rw[if_pos c1];try refine ga ?_
  exact vj []
 .rw[if_neg c1];by_cases c2:y<x
  .rw[if_pos c2];try refine ga ?_
   exact vj []
  .rw[if_neg c2];try refine ga ?_
   exact vj []
def PS(x y:Int):Xl x y=0↔x=y:=by unfold Xl;repeat' split<;>omega
def oJ(a b:ya):Ct prog 247 [mX a,mX b] [] (λr H'=>r= .int .i64 (Ql a b)/\H'=[]):=by
 have h1:=dA a.ct b.ct;have h2:=dA a.sd b.sd;have h3:=dA a.sr b.sr;have e1:=PS a.ct b.ct;have e2:=PS a.sd b.sd;unfold Ql;by_cases c1:a.ct=b.ct
 .rw[if_neg λh=>h (e1.2 c1)];by_cases c2:a.sd=b.sd
  .rw[if_neg λh=>h (e2.2 c2)];refine ce func247 λg R=>?_;repeat' first|refine vb ?_|refine Ud λ_=>?_|refine cq h3 ?_
   exact vj []
  .rw[if_pos λh=>c2 (e2.1 h)];refine ce func247 λg R=>?_;repeat' first|refine vb ?_|refine Ud λ_=>?_|refine cq h2 ?_
   exact vj []
 .rw[if_pos λh=>c1 (e1.1 h)];refine ce func247 λg R=>?_;repeat' first|refine vb ?_|refine Ud λ_=>?_|refine cq h1 ?_
  exact vj []
def UL(a b:V9):Ct prog 246 [.agg (List.toArray a.enc),.agg (List.toArray b.enc)] [] (λr H'=>r= .bool (decide (QE a b))/\H'=[]):=by
 refine ce func246 λg R=>?_;repeat' first|refine vb ?_|refine Ud λ_=>?_
 rename_i b2 b3;refine W.h0 [Na b3 b,Na b2 a,R] ?_;refine W.lo (α:=Nat) (λd=>d<=3/\∀i,i<d*3->b.at i<=a.at i) (λd=>[(2,b2),(3,b3),(5,.int .i64 (d:Int))]) (λ_=>[Na b3 b,Na b2 a,R]) (λd=>3 - d) 0 ⟨Gi _,λi hi=>absurd hi (by omega)⟩ ?_;rintro d ⟨hd,hall⟩;by_cases hlt:d<3
 .try refine ga ?_
  refine W.lo (α:=Nat) (λr=>r<=3/\∀i,i<d*3+r->b.at i<=a.at i) (λr=>[(2,b2),(3,b3),(5,.int .i64 (d:Int)),(6,.int .i64 (r:Int))]) (λ_=>[Na b3 b,Na b2 a,R]) (λr=>3 - r) 0 ⟨Gi _,hall⟩ ?_;clear hall;rintro r ⟨hr,hall⟩;by_cases hlr:r<3
  .have g1:=V9.cy a hlt hlr;have g2:=V9.cy b hlt hlr;by_cases hc:b.at (d*3+r)<=a.at (d*3+r)
   .try refine ga ?_
    refine wq ?_;repeat' first|refine ga ?_|refine lN a.enc _ rfl ?_ (hc:=g1)|refine lN b.enc _ rfl ?_ (hc:=g2)
    refine D.rd (r+1) ⟨by omega,λi hi=>?_⟩ (by omega);rcases Nat.lt_or_ge i (d*3+r) with h|h
    .exact hall i h
    .obtain rfl:i=d*3+r:=by omega
     exact hc
   .have hno: ¬QE a b:=λh=>hc (h (d*3+r) (by omega));try refine ga ?_
    refine wq ?_;repeat' first|refine ga ?_|refine lN a.enc _ rfl ?_ (hc:=g1)|refine lN b.enc _ rfl ?_ (hc:=g2)
    exact Wa [] rfl rfl ⟨by rw[gj hno],rfl⟩
  .obtain rfl:r=3:=by omega
   try refine ga ?_
   exact D.rd (d+1) ⟨by omega,λi hi=>hall i (by omega)⟩ (by omega)
 .obtain rfl:d=3:=by omega
  try refine ga ?_
  exact Wa [] rfl rfl ⟨by rw[Fi (show QE a b from hall)],rfl⟩
def pJ(v:V9){rg:Int}(c:V3)(h: ¬(0<=rg/\rg<3)):∀k,Ki v rg c k=v
 |0=>rfl
 |k+1=>(show zg (Ki v rg c k) _ _ _=_ from if_neg λx=>h ⟨x.2.2.1,x.2.2.2⟩).trans (pJ v c h k)
def NM(v:V9)(rg:Int)(c:V3):Ct prog 97 [.agg (List.toArray v.enc),rg,.agg (List.toArray c.enc)] [] (λr H'=>r= .agg (List.toArray (Ej v rg c).enc)/\H'=[]):=by
 refine ce func97 λg R=>?_;repeat' first|refine vb ?_|refine Ud λ_=>?_|refine al λ_=>?_
 rename_i b3 b5 b6;refine W.h0 [Na b6 V9.z,Ac b5 c,Na b3 (Ki v rg c 0),R] ?_;by_cases hg:0<=rg/\rg<3
 .obtain⟨q1,q2⟩:=hg;refine W.lo (α:=Nat) (λk=>k<=3) (λk=>[(1,rg),(3,b3),(5,b5),(6,b6),(7,.int .i64 (k:Int))]) (λk=>[Na b3 (Ki v rg c k),Ac b5 c,Na b6 V9.z,R]) (λk=>3 - k) 0 (Gi _) ?_;intro k hk;by_cases hlt:k<3
  .have hn:Ki v rg c (k+1)=zg (Ki v rg c k) (k:Int) rg (c.at k):=rfl;rw[zg,if_pos ⟨by omega,by omega,q1,q2⟩,Int.toNat_natCast] at hn;generalize Ki v rg c k=o at hn⊢;have hkk:k*3+rg.toNat<9:=by omega
   have e0:0+((k:Nat):Int).toNat*3+rg.toNat*1=k*3+rg.toNat:=by rw[Int.toNat_natCast];omega
   have g1:o.enc[0+((k:Nat):Int).toNat*3+rg.toNat*1]? =some (.int .i64 (o.at (k*3+rg.toNat))):=by rw[e0,V9.Vd _ hkk]
   have g2:c.enc[0+((k:Nat):Int).toNat*1]? =some (.int .i64 (c.at k)):=by rw[show 0+((k:Nat):Int).toNat*1=k by show 0+k*1=k;omega,V3.Vd _ hlt]
   have g3:o.enc.set (0+((k:Nat):Int).toNat*3+rg.toNat*1) (.int .i64 (mx (o.at (k*3+rg.toNat)) (c.at k)))=(Ki v rg c (k+1)).enc:=by rw[e0,V9.jj _ hkk,hn]
   have g4:Nat.blt (0+((k:Nat):Int).toNat*3+rg.toNat*1) o.enc.length=true:=Nat.ble_eq_true_of_le (by rw[e0];show k*3+rg.toNat+1<=9;omega);try refine ga ?_
   refine Ns (ml [12]) [Na b3 o,Ac b5 c] ?_;repeat' first|refine ga ?_|refine lN o.enc _ rfl ?_ (hc:=g1)|refine lN c.enc _ rfl ?_ (hc:=g2)
   refine Wh o.enc (Ki v rg c (k+1)).enc ?_ (e:=g3) (hb:=g4);try refine ga ?_
   exact D.re (k+1)
  .obtain rfl:k=3:=by omega
   repeat' first|refine ga ?_|refine Of (Ki v rg c 3).enc (Ki v rg c 3).enc ?_|refine nh V9.z.enc (Ki v rg c 3).enc ?_
   exact D.Dc [] _ rfl (.Ua rfl rfl .nil) ⟨rfl,rfl⟩
 .have he:Ej v rg c=v:=pJ v c hg 3;rw[he,show Ki v rg c 0=v from rfl];refine W.lo (α:=Nat) (λk=>k=0) (λk=>[(1,rg),(3,b3),(6,b6),(7,.int .i64 0)]) (λk=>[Na b3 v,Na b6 V9.z,R]) (λk=>3 - k) 0 rfl ?_;rintro k rfl;by_cases q1:0<=rg
  .have q2: ¬rg<3:=λh=>hg ⟨q1,h⟩;repeat' first|refine ga ?_|refine yj v.enc ?_|refine nh V9.z.enc v.enc ?_
   exact D.Dc [] _ rfl (.Ua rfl rfl .nil) ⟨rfl,rfl⟩
  .repeat' first|refine ga ?_|refine yj v.enc ?_|refine nh V9.z.enc v.enc ?_
   exact D.Dc [] _ rfl (.Ua rfl rfl .nil) ⟨rfl,rfl⟩
def PF{hv:V9}{e:ya}(he:SL hv e):Ct prog 244 [.agg (List.toArray hv.enc),.agg (List.toArray e.enc)] [] (λr H'=>r= .int .i64 (hv.of e)/\H'=[]):=by
 have hg:=he.at;obtain⟨d1,d2,d3,d4⟩:=he.ch;refine ce func244 λg R=>?_;repeat' first|refine vb ?_|refine Ud λ_=>?_
 refine wq ?_;repeat' first|refine ga ?_|refine lN hv.enc _ rfl ?_ (hc:=hg)
 exact vj []
variable{s:CS}
def IM(s:CS)(b:Nat){v:Value}{hv:Hp}(hs:Rs s.lg v hv)(hl:s.lg.length<=1000000)(i:Int)(hi: -4611686018427387904<=i/\i<=4611686018427387904):Ct prog 239 [b,i] [ta b s v,hv]
   (λr H'=>r= .tuple #[.agg (List.toArray (if 1<=i/\i<=s.len then s.lg.getD (i.toNat - 1) ya.z else ya.z).enc),.bool (decide (1<=i/\i<=s.len))]/\H'=[ta b s v,hv]):=by
 have hlen:s.len=(s.lg.length:Int):=rfl;obtain⟨p,c,rfl⟩:=hs.len;refine ce func239 λg R=>?_;simp only[can];by_cases h1:1<=i
 .have AU: ¬i<1:=by omega
  by_cases h2:i<=s.len
  .obtain⟨x,hx⟩:∃x,s.lg[(i - 1).toNat]? =some x:=⟨_,oh (by omega)⟩
   have e1:(if 1<=i/\i<=s.len then s.lg.getD (i.toNat - 1) ya.z else ya.z)=x:=by
    rw[if_pos ⟨h1,h2⟩,getD_eq_getElem?_getD,show i.toNat - 1=(i - 1).toNat by omega,hx];rfl
   rw[e1,Fi (⟨h1,h2⟩:1<=i/\i<=s.len)];have h2': ¬(s.lg.length:Int)<i:=by omega
   repeat' first|refine ga ?_|refine al λ_=>?_|refine rG hs hx ?_|refine nh ya.z.enc x.enc ?_
   exact D.yg [ta b s (.slice p s.lg.length c),hv] _ rfl (.Ua rfl rfl (.tmp rfl .nil)) rfl ⟨rfl,rfl⟩
  .rw[if_neg (λh=>h2 h.2),gj (λh=>h2 h.2)];have h2':(s.lg.length:Int)<i:=by omega
   repeat' first|refine ga ?_|refine al λ_=>?_|refine Vf (t:=49) ya.z.enc ?_|refine nh ya.z.enc ya.z.enc ?_
   exact D.yg [ta b s (.slice p s.lg.length c),hv] _ rfl (.Ua rfl rfl (.tmp rfl .nil)) rfl ⟨rfl,rfl⟩
 .rw[if_neg (λh=>h1 h.1),gj (λh=>h1 h.1)];have AU:i<1:=by omega
  repeat' first|refine ga ?_|refine al λ_=>?_|refine Vf (t:=49) ya.z.enc ?_|refine nh ya.z.enc ya.z.enc ?_
  exact D.yg [ta b s (.slice p s.lg.length c),hv] _ rfl (.Ua rfl rfl (.tmp rfl .nil)) rfl ⟨rfl,rfl⟩
def wO(ok:Lb s)(h0:0<=s.ak)(b:Nat)(v:Value):Ct prog 251 [.pointer (some ⟨b,0,none⟩)] [ta b s v] (λr H'=>r= .tuple #[.int .i64 s.JM.1,.bool s.JM.2]/\H'=[ta b s v]):=by
 have Qs:=fo ok.co s.nd;have hd:=ok.du;have hl:=ok.len;have hlen:s.len=(s.lg.length:Int):=rfl;unfold CS.JM;generalize Wc s.co s.nd=bh at Qs⊢;refine Ct.mk' func251 rfl rfl rfl (λg R=>?_);try simp only[ca]
 simp only[na];try refine ga ?_
 refine W.quiet Tryz.mix (by kernel_rfl) ?_;by_cases h1:bh<0
 .rw[if_pos (.inl h1)];repeat'(first|refine ga ?_|refine Pa (s.cells v) (Yb s.co).enc rfl ?_|refine WX.ja rfl Qs rfl ?_|fail)
  exact D.Vb [ta b s v] _ rfl rfl rfl ⟨rfl,rfl⟩
 by_cases h2:s.du=0
 .rw[if_pos (.inr h2)];repeat'(first|refine ga ?_|refine Pa (s.cells v) (Yb s.co).enc rfl ?_|refine WX.ja rfl Qs rfl ?_|fail)
  exact D.Vb [ta b s v] _ rfl rfl rfl ⟨rfl,rfl⟩
 rw[if_neg (by omega)];by_cases h3:s.ak<s.du
 .rw[if_pos h3];repeat'(first|refine ga ?_|refine Pa (s.cells v) (Yb s.co).enc rfl ?_|refine WX.ja rfl Qs rfl ?_|fail)
  refine W.quiet Tryz.mix (by kernel_rfl) ?_;try refine ga ?_
  exact D.Vb [ta b s v] _ rfl rfl rfl ⟨rfl,rfl⟩
 .rw[if_neg h3];by_cases h4:s.st<s.du
  .rw[if_pos h4];repeat'(first|refine ga ?_|refine Pa (s.cells v) (Yb s.co).enc rfl ?_|refine WX.ja rfl Qs rfl ?_|fail)
   refine W.quiet Tryz.mix (by kernel_rfl) ?_;try refine ga ?_
   refine W.quiet Tryz.mix (by kernel_rfl) ?_;try refine ga ?_
   exact D.Vb [ta b s v] _ rfl rfl rfl ⟨rfl,rfl⟩
  .rw[if_neg h4];repeat'(first|refine ga ?_|refine Pa (s.cells v) (Yb s.co).enc rfl ?_|refine WX.ja rfl Qs rfl ?_|fail)
   refine W.quiet Tryz.mix (by kernel_rfl) ?_;try refine ga ?_
   refine W.quiet Tryz.mix (by kernel_rfl) ?_;try refine ga ?_
   exact D.Vb [ta b s v] _ rfl rfl rfl ⟨rfl,rfl⟩
def tI(ok:Lb s)(b:Nat)(v:Value):Ct prog 195 [.pointer (some ⟨b,0,none⟩)] [ta b s v] (λr H'=>r= .bool s.TX/\H'=[ta b s v]):=by
 have hil:=sk ok.co b v;unfold CS.TX;by_cases h1:s.last
 .rw[decide_eq_true h1] at hil⊢;obtain⟨jo,hj⟩:∃jo,(Yb s.co).jo=jo:=⟨_,rfl⟩;rw[hj];refine Ct.mk' func195 rfl rfl rfl (λg R=>?_);try simp only[ca]
  simp only[na];try refine ga ?_
  refine W.quiet Tryz.mix (by kernel_rfl) ?_;repeat'(first|refine ga ?_|refine WX.ja rfl hil rfl ?_|fail)
  refine WX.as 12 (.bool jo) rfl (by rw[<-hj]) ?_;cases jo
  all_goals
   try refine ga ?_
   exact D.Ia [ta b s v] _ rfl rfl ⟨rfl,rfl⟩
 .rw[decide_eq_false h1] at hil⊢;refine Ct.mk' func195 rfl rfl rfl (λg R=>?_);try simp only[ca]
  simp only[na];try refine ga ?_
  refine W.quiet Tryz.mix (by kernel_rfl) ?_;repeat'(first|refine ga ?_|refine WX.ja rfl hil rfl ?_|fail)
  exact D.Ia [ta b s v] _ rfl rfl ⟨rfl,rfl⟩
def WK(ok:Ii s.co)(b:Nat)(v:Value):Ct prog 177 [.pointer (some ⟨b,0,none⟩)] [ta b s v] (λr H'=>r= .bool (xm s.co s.nd)/\H'=[ta b s v]):=by
 have hf:=dI ok s.nd;refine Ct.mk' func177 rfl rfl rfl (λg R=>?_);try simp only[ca]
 simp only[na];try refine ga ?_
 refine W.quiet Tryz.mix (by kernel_rfl) ?_;repeat'(first|refine ga ?_|refine Pa (s.cells v) (Yb s.co).enc rfl ?_|refine WX.ja rfl hf rfl ?_|fail)
 exact D.Ia [ta b s v] _ rfl rfl ⟨rfl,rfl⟩
end Go.Proofs.YthebagfahkebiaaGreat
