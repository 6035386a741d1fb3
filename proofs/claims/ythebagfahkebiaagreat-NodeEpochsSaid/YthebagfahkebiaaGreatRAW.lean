/- Texts of one road. -/
import Derived.Test.YthebagfahkebiaaGreatRAV
set_option linter.all false
set_option maxHeartbeats 8000000
set_option maxRecDepth 20000
namespace Go.Proofs.YthebagfahkebiaaGreat
open Go Go.Sl Go.Proofs.Tryz List
variable{b:Nat}{T:Int}{s:Ga}{f:FuncId}{args:List Value}{u:Value}
def Ga.D0(s:Ga)(d:Nat)(T:Int)(hd:Hp):Prop:=match s with
 | .up l _ _=>RD l d hd T
 | .dn l _ q=>∃t,0<=t/\t<=T/\vg (((qe l q).map fq).map Ub.pl) t d hd
structure YX(s:Ga)(cb d w:Nat)(v:Value)(hv:Hp)(seg:Int)(hd:Hp)(T:Int):Prop where
 sl:ia 49 s.ch.lg v hv
 dk:s.D0 d T hd
 sg:s.jb=true->seg=va s.l0
 nv:s.jb=false->v= .slice none 0 0/\hv=[]
def Tf(s:Ga)(b:Nat)(T:Int)(h:Hp):Prop:=∃cb d w v hv seg t tn hd,h=Bb b cb d w s.jb tn++(ta cb s.ch v++(hv++(uf w d seg t++hd)))/\YX s cb d w v hv seg hd T
def Ga.D0.mono{s:Ga}{d:Nat}{T T':Int}{hd:Hp}(h:s.D0 d T hd)(hT:T<=T'):s.D0 d T' hd:=by
 cases s with
 |up l c t=>exact RD.mono h hT
 |dn l c q=>obtain⟨t,h1,h2,h3⟩:=h;exact⟨t,h1,by omega,h3⟩
def Tf.mono{s:Ga}{b:Nat}{T T':Int}{h:Hp}(hm:Tf s b T h)(hT:T<=T'):Tf s b T' h:=by
 obtain⟨cb,d,w,v,hv,seg,t,tn,hd,e,at_⟩:=hm;exact⟨cb,d,w,v,hv,seg,t,tn,hd,e,⟨at_.sl,at_.dk.mono hT,at_.sg,at_.nv⟩⟩
def Ga.zg(s:Ga)(fr ep ix:Int)(e:ya):Bool×Ga:=match s with
 | .up l c t=>((Pj l c fr ep ix e).1,.up (Pj l c fr ep ix e).2.2 (Pj l c fr ep ix e).2.1 t)
 | .dn l c q=>(false,.dn l c q)
def Ga.nV(s:Ga)(e:ya):Int×Ga:=match s with
 | .up l c t=>((Ak l c e).1,.up (Ak l c e).2.2 (Ak l c e).2.1 t)
 | .dn l c q=>(52,.dn l c q)
def Ga.zk(s:Ga)(key val:ByteArray)(dead:Bool)(deps:V9)(clock cl op:Int):(Int×Int)×Ga:=match s with
 | .up l c t=>((Fj l c key val dead deps clock cl op).1,.up (Fj l c key val dead deps clock cl op).2.2 (Fj l c key val dead deps clock cl op).2.1 t)
 | .dn l c q=>((0,52),.dn l c q)
def Ga.Dv(s:Ga)(x:Wa):(Bool×Int)×Ga:=match s with
 | .up l c t=>((Bk l c x).1,.up (Lc l c x).2.2 (Lc l c x).2.1 t)
 | .dn l c q=>((false,52),.dn l c q)
def Pz.is{cb d w:Nat}{Ba tn:Int}{c:CS}{l:List Lf}{H':HH}(h:Pz b cb d w Ba tn c l T H')(t:Int):∃Vp,Vp.flatten=H'.flatten/\∃h',Vp=[h']/\Tf (.up l c t) b T h':=by
 obtain⟨v,hv,hd,rfl,hs,hk⟩:=h;exact⟨[Bb b cb d w true tn++(ta cb c v++(hv++(uf w d (va l) Ba++hd)))],by simp,_,rfl,cb,d,w,v,hv,va l,Ba,tn,hd,rfl,⟨hs,hk,λ_=>rfl,λe=>(by cases e)⟩⟩
def Tf.still{h:Hp}(hm:Tf s b T h)
  (k:∀cb d w tn,Ct prog f args [Bb b cb d w s.jb tn] (λr H'=>r=u/\H'=[Bb b cb d w s.jb tn])):
  Ct prog f args [h] (λr H'=>r=u/\H'=[h]):=by
 obtain⟨cb,d,w,v,hv,seg,t,tn,hd,rfl,at_⟩:=hm;exact Ct.ext (k cb d w tn)
def oy{T':Int}{h:Hp}(hm:Tf s b T h)(hT:T<=T')(hu:s.jb=false)
  (k:∀cb d w tn,Ct prog f args [Bb b cb d w false tn] (λr H'=>r=u/\H'=[Bb b cb d w false tn])):
  Ct prog f args [h] (λr H'=>r=u/\∃h',H'=[h']/\Tf s b T' h'):=
 (hm.still λcb d w tn=>by rw[hu];exact k cb d w tn).mono λr H' ⟨h1,h2⟩=>⟨h1,h,h2,hm.mono hT⟩
section
variable{s:Ga}{N T:Int}(ok:s.ok N){b:Nat}{h:Hp}(hm:Tf s b T h)(Qh:0<=T)(hT:T<=68719476736)
include ok hm Qh hT
theorem WO:Ct prog 197 [b] [h] (λr H'=>r= .tuple #[]/\∃h',H'=[h']/\Tf s.sync b (T+243) h'):=by
 cases s with
 |up l c t=>
  obtain⟨cb,d,w,v,hv,seg,t',tn,hd,rfl,at_⟩:=hm;obtain rfl:=at_.sg rfl;have mz:Ie l:=ok.lg.ok;have xb:Ob c:=ok.ok;have Ue:ia 49 c.lg v hv:=at_.sl;have hdk:RD l d hd T:=at_.dk
  exact(oP (w:=w) (Ba:=t') (tn:=tn) mz b cb hdk Qh (by omega) xb Ue).pack (by simp[Ga.c0,Ga.ch,Ga.jb,Ga.l0]) λr H' ⟨h1,h2⟩=>let⟨Vp,e,p⟩:=h2.is t;⟨Vp,e,h1,p⟩
 |dn l c q=>exact oy hm (by omega) rfl λcb d w tn=>LL b cb d w tn
theorem UO(fr ep ix:Int)(e:ya):Ct prog 87 [b,fr,ep,ix,.agg (List.toArray e.enc)] [h] (λr H'=>r= .bool (s.zg fr ep ix e).1/\∃h',H'=[h']/\Tf (s.zg fr ep ix e).2 b (T+243) h'):=by
 cases s with
 |up l c t=>
  obtain⟨cb,d,w,v,hv,seg,t',tn,hd,rfl,at_⟩:=hm;obtain rfl:=at_.sg rfl;have mz:Ie l:=ok.lg.ok;have xb:Ob c:=ok.ok;have Ue:ia 49 c.lg v hv:=at_.sl;have hdk:RD l d hd T:=at_.dk
  exact(pP (w:=w) (Ba:=t') (tn:=tn) mz b cb hdk Qh (by omega) xb Ue fr ep ix e).pack (by simp[Ga.c0,Ga.ch,Ga.jb,Ga.l0]) λr H' ⟨h1,h2⟩=>let⟨Vp,e',p⟩:=h2.is t;⟨Vp,e',h1,p⟩
 |dn l c q=>exact oy hm (by omega) rfl λcb d w tn=>KL b cb d w tn fr ep ix e
theorem vz(x:Wa):Ct prog 57 [b,.agg (List.toArray x.enc)] [h] (λr H'=>r= .tuple #[.bool (s.Dv x).1.1,.int .i64 (s.Dv x).1.2]/\∃h',H'=[h']/\Tf (s.Dv x).2 b (T+486) h'):=by
 cases s with
 |up l c t=>
  obtain⟨cb,d,w,v,hv,seg,t',tn,hd,rfl,at_⟩:=hm;obtain rfl:=at_.sg rfl;have mz:Ie l:=ok.lg.ok;have xb:Ob c:=ok.ok;have Ue:ia 49 c.lg v hv:=at_.sl;have hdk:RD l d hd T:=at_.dk;have hce:=HL (w:=w) (Ba:=t') (tn:=tn) mz b cb hdk Qh (by omega) xb Ue x;rw[iS] at hce
  exact hce.pack (by simp[Ga.c0,Ga.ch,Ga.jb,Ga.l0]) λr H' ⟨h1,h2⟩=>let⟨Vp,e',p⟩:=h2.is t;⟨Vp,e',h1,p⟩
 |dn l c q=>exact oy hm (by omega) rfl λcb d w tn=>aJ b cb d w tn x
theorem AL{keep:Int}(Om: -9223372036854775808<=keep)(hk2:keep<=9223372036854775807):Ct prog 198 [b,keep] [h] (λr H'=>r= .tuple #[]/\∃h',H'=[h']/\Tf (s.Dc keep) b T h'):=by
 cases s with
 |up l c t=>
  obtain⟨cb,d,w,v,hv,seg,t',tn,hd,rfl,at_⟩:=hm;have mz:Ie l:=ok.lg.ok;have hdk:RD l d hd T:=at_.dk;have h0:=(IL (seg:=seg) (Ba:=t') (tn:=tn) (w:=w) mz b cb hdk (by omega) c v Om hk2).frame (F:=[hv]) (post':=λr H'=>r= .tuple #[]/\∃ob hd',H'=[Bb b ob d w false tn,ta ob (CS.new c.dc c.rg c.nd) (.slice none 0 0),uf w d seg t',hd']++[hv]/\∃t,0<=t/\t<=T/\vg (((qe l keep.toNat).map fq).map Ub.pl) t d hd') λr H' ⟨h1,ob,hd',h2,h3⟩=>⟨h1,ob,hd',by rw[h2],h3⟩;have h1:=h0.perm (pre':=[Bb b cb d w true tn,ta cb c v,hv,uf w d seg t',hd]) (List.Perm.flatten (.cons _ (.cons _ (perm_append_comm (l₁:=[uf w d seg t',hd]) (l₂:=[hv])))));refine h1.yI (by simp[Ga.c0,Ga.ch,Ga.jb]) λr H' ⟨h1,ob,hd',h2,h3⟩=>?_;subst h2
  exact⟨[Bb b ob d w false tn++(ta ob (CS.new c.dc c.rg c.nd) (.slice none 0 0)++([]++(uf w d seg t'++hd')))],hv,by simp,h1,_,rfl,ob,d,w,.slice none 0 0,[],seg,t',tn,hd',rfl,⟨ia.nil _,h3,λe=>(by cases e),λ_=>⟨rfl,rfl⟩⟩⟩
 |dn l c q=>exact oy hm (Int.le_refl _) rfl λcb d w tn=>ZI b cb d w tn keep
end
def mu(s:Ga)(f ep du st:Int):(s.heard f ep du st).2.ch=(s.ch.heard f ep du st).2/\(s.heard f ep du st).2.jb=s.jb/\(s.heard f ep du st).2.l0=s.l0/\(s.heard f ep du st).2.G7=s.G7/\Lb s.c0 (s.heard f ep du st).2.c0:=by
 cases s with
 |up l c t=>exact⟨rfl,rfl,rfl,rfl,Ek c f ep du st⟩
 |dn l c q=>exact⟨by show CS.new _ _ _=_;rw[show(Ga.dn l c q).ch=CS.new c.dc c.rg c.nd from rfl,CF],rfl,rfl,rfl,Lb.refl c⟩
def WI(c:CS)(f ep du st:Int):(c.heard f ep du st).2.lg=c.lg:=by
 unfold CS.heard;split
 .exact(Na _).2.2.2.2.2.2.1.trans (Te c f _ _).2.2.2.2.2.2.1
 .rfl
def Dg.heard{s:Ga}{b cb d w:Nat}{v:Value}{hv:Hp}{seg t:Int}{hd:Hp}(at_:A2 s cb d w v hv seg t hd)(f ep du st:Int):
  Dg (s.heard f ep du st).2 b (Mb b cb s.c0.dc s.c0.rg s.c0.nd d w s.jb++(ja cb (s.ch.heard f ep du st).2 v++(hv++(zf w d seg t++hd)))):=by
 obtain⟨h1,h2,h3,h4,h5⟩:=mu s f ep du st;refine⟨cb,d,w,v,hv,seg,t,hd,by rw[h1,h2,h5.1,h5.2.1,h5.2.2],⟨by rw[h1,WI];exact at_.sl,by rw[h4];exact at_.dk,by rw[h2,h3];exact at_.sg,λl c t' e=>?_,by rw[h2];exact at_.nv⟩⟩
 cases s with
 |up l0 c0 t0=>cases e;exact at_.tn _ _ _ rfl
 |dn l0 c0 q0=>cases e
def ZO(s:Ga)(f ep du st:Int)(d:Nat)(T:Int)(hd:Hp)(h:s.D0 d T hd):(s.heard f ep du st).2.D0 d T hd:=by
 cases s with
 |up l c t=>exact h
 |dn l c q=>exact h
def Tf.heard{s:Ga}{b cb d w:Nat}{v:Value}{hv:Hp}{seg t tn T:Int}{hd:Hp}(at_:YX s cb d w v hv seg hd T)(f ep du st:Int):
  Tf (s.heard f ep du st).2 b T (Bb b cb d w s.jb tn++(ta cb (s.ch.heard f ep du st).2 v++(hv++(uf w d seg t++hd)))):=by
 obtain⟨h1,h2,h3,h4,h5⟩:=mu s f ep du st;exact⟨cb,d,w,v,hv,seg,t,tn,hd,by rw[h1,h2],⟨by rw[h1,WI];exact at_.sl,ZO s f ep du st d T hd at_.dk,by rw[h2,h3];exact at_.sg,by rw[h2];exact at_.nv⟩⟩
variable{k:Nat}
def Ls(c:CS):c.settle=c↔(c.last->if(jc c.co).jo=false then c.su=true/\c.st=c.du else c.su=true->c.bs<=c.st):=by
 obtain⟨dc,rg,nd,co,sn,bs,lg,du,st,ak,ow,su⟩:=c;unfold CS.settle;constructor
 .intro h hl;rw[if_pos hl] at h;split at h
  .rename_i hj;rw[if_pos hj];injection h with _ _ _ _ _ _ _ _ h1 _ _ h2
   exact⟨h2.symm,h1.symm⟩
  .rename_i hj;rw[if_neg hj];intro hs;rw[if_pos hs] at h;injection h with _ _ _ _ _ _ _ _ h1 _ _ h2
   have:=(Lw st bs).2;simp only[] at h1⊢;omega
 .intro h;split
  .rename_i hl;have h:=h hl;split
   .rename_i hj;rw[if_pos hj] at h;obtain⟨h1,h2⟩:=h;simp only[] at h1 h2⊢;rw[h1,h2]
   .rename_i hj;rw[if_neg hj] at h;split
    .rename_i hs;have h:=h hs;have:mx st bs=st:=by unfold mx;simp only[] at h;rw[if_neg (by omega)]
     simp only[this]
    .rfl
  .rfl
def CJ(c:CS):c.settle.settle=c.settle:=by
 rw[Ls];obtain⟨h1,h2,h3,h4,h5,h6,h7,h8,h9,ZV⟩:=Na c;intro hl;have hl:c.last:=⟨by have:=hl.1;rw[h3] at this;exact this,by have:=hl.2;rw[h3,h4] at this;exact this⟩;rw[h4,h6,h8];unfold CS.settle;rw[if_pos hl];split
 .exact⟨rfl,rfl⟩
 .split
  .intro _;exact(Lw _ _).2
  .rename_i hs;intro h;exact absurd h hs
structure Ke(c:CS):Prop where
 st:0<=c.st/\c.st<=c.du
 ak:0<=c.ak/\c.ak<=c.du
 se:c.settle=c
def Ke.of{c:CS}(ok:Ob c)(h1:0<=c.st/\c.st<=c.du)(h2:0<=c.ak/\c.ak<=c.du):Ke c.settle:=by
 obtain⟨-,-,-,-,-,h6,-,h8,h9,-⟩:=Na c;have hb:=ok.bs;refine⟨?_,by rw[h8,h9];exact h2,CJ c⟩;rw[h8];unfold CS.settle;split
 .split
  .exact⟨by show 0<=c.du;omega,Int.le_refl _⟩
  .split
   .show 0<=mx c.st c.bs/\mx c.st c.bs<=c.du;unfold mx;split<;>omega
   .exact h1
 .exact h1
def Ke.new(dc rg nd:Int):Ke (CS.new dc rg nd):=by
 refine⟨⟨Int.le_refl 0,Int.le_refl 0⟩,⟨Int.le_refl 0,Int.le_refl 0⟩,if_neg λh=>?_⟩;have h1:=h.1;have h2:(-1:Int)=nd:=h.2;have h1:0<=nd:=h1;omega
section
variable{c:CS}(h:Ke c)
include h
theorem Ke.push(e:ya):(c.push e).settle=c.push e:=(Ls _).2 ((Ls c).1 h.se)
theorem Ke.ZL(e:ya):Ke (c.push e):=⟨h.st,h.ak,h.push e⟩
theorem Ke.take(f ep ix:Int)(e:ya):Ke (c.take f ep ix e).2:=by
 unfold CS.take;split
 .show Ke (c.push e).settle;rw[h.push];exact h.ZL e
 .exact h
theorem Ke.zg(f ep ix:Int)(e:ya):c.zg f ep ix e=c.take f ep ix e:=by
 unfold CS.zg CS.take;rw[h.push]
theorem Ke.Xb(e:ya):Ke (c.Xb e).2:=by
 unfold CS.Xb;repeat' split
 all_goals first|exact h|skip
 show Ke (c.push e).settle;rw[h.push];exact h.ZL e
theorem Ke.Jc(e:ya):c.Jc e=c.Xb e:=by
 unfold CS.Jc CS.Xb;rw[h.push]
theorem Ke.put(key val:ByteArray)(dead:Bool)(deps:V9)(clock cl op:Int):Ke (c.Zf key val dead deps clock cl op).2:=by
 unfold CS.Zf;repeat' split
 all_goals first|exact h|skip
 show Ke (CS.push c _).settle;rw[h.push];exact h.ZL _
theorem Ke.sync(ok:Ob c):Ke c.sync:=by
 have h1:=ok.du;have h2:=ok.bs;have h3:=h.st;have h4:=h.ak;exact Ke.of (c:={c with du:=c.len}) ⟨ok.co,⟨h2.1,by show c.bs<=c.len;omega⟩,⟨by show 0<=c.len;omega,Int.le_refl _⟩,ok.len,ok.es⟩ ⟨h3.1,by show c.st<=c.len;omega⟩ ⟨h4.1,by show c.ak<=c.len;omega⟩
theorem Ke.enter(ok:Ob c)(x:Wa):Ke (c.enter x).2:=by
 unfold CS.enter;split
 .exact h
 .rename_i hr;split
  .exact h
  .show Ke (c.Tc x).settle;have h1:=ok.du;have h3:=h.st;refine Ke.of (ok.Tc (Classical.not_not.1 hr)) ?_ ?_
   .unfold CS.Tc;split
    .exact⟨Int.le_refl 0,Int.le_refl 0⟩
    .exact⟨h3.1,by show c.st<=c.len;omega⟩
   .unfold CS.Tc;split
    .exact⟨Int.le_refl 0,Int.le_refl 0⟩
    .exact⟨Int.le_refl 0,by show 0<=c.len;omega⟩
theorem Ke.heard(ok:Ob c)(f ep du st:Int):Ke (c.heard f ep du st).2:=by
 unfold CS.heard;split
 .show Ke (c.Pb f (mn du c.du) (mn st c.du)).settle;have h2:=ok.bs;have h3:=h.st;have h4:=h.ak;have hd:mn du c.du<=c.du:=by unfold mn;split<;>omega
  have hs:mn st c.du<=c.du:=by unfold mn;split<;>omega
  have mm:∀{a b m:Int},0<=a->a<=m->b<=m->0<=mx a b/\mx a b<=m:=λh1 h2 h3=>by unfold mx;split<;>omega
  obtain⟨s1,s2,s3,s4,s5,s6,s7,s8,s9⟩:=Te c f (mn du c.du) (mn st c.du);refine Ke.of ⟨by rw[s4];exact ok.co,by rw[s6,s8];exact ok.bs,by unfold CS.len;rw[s8,s7];exact ok.du,by rw[s7];exact ok.len,by rw[s7];exact ok.es⟩ ?_ ?_
  .rw[s8];unfold CS.Pb;split
   .exact mm h3.1 h3.2 hs
   .split
    .have:=mm h3.1 h3.2 h2.2;exact mm this.1 this.2 hd
    .exact h3
  .rw[s8]
   have:(c.Pb f (mn du c.du) (mn st c.du)).ak=mx c.ak (mn du c.du):=by
    unfold CS.Pb;repeat' split
    all_goals rfl
   rw[this];exact mm h4.1 h4.2 hd
 .exact h
end
def aM(a b m:Int):mx a b<=m↔a<=m/\b<=m:=by unfold mx;split<;>omega
def V9.ext{a b:V9}(h:∀k,k<9->a.at k=b.at k):a=b:=(V9.RK a).symm.trans ((V9.zn h).trans (V9.RK b))
def UF(a b:V9)(h:k<9):(tv a b).at k=mx (a.at k) (b.at k):=by
 unfold tv Jf;rw[V9.qv _ h,if_pos h]
def Ng(v:V9)(dc rg sq:Int)(h:k<9):(Fg v dc rg sq).at k=if Tb dc rg/\k=dc.toNat*3+rg.toNat then mx (v.at k) sq else v.at k:=by
 unfold Fg;by_cases hc:Tb dc rg
 .rw[if_pos hc];unfold V9.put;rw[V9.qv _ h];unfold V0;by_cases hk:k=dc.toNat*3+rg.toNat
  .rw[if_pos hk,if_pos ⟨hc,hk⟩,hk]
  .rw[if_neg hk,if_neg λx=>hk x.2]
 .rw[if_neg hc,if_neg λx=>hc x.1]
def V9.JV(h:k<9):V9.z.at k=0:=by
 rcases(by omega:k=0\/k=1\/k=2\/k=3\/k=4\/k=5\/k=6\/k=7\/k=8) with rfl|rfl|rfl|rfl|rfl|rfl|rfl|rfl|rfl<;>rfl
def bM(a b:V9)(h:k<9):(yh [a,b]).at k=mx (mx 0 (a.at k)) (b.at k):=by
 show(tv (tv V9.z a) b).at k=_;rw[UF _ _ h,UF _ _ h,V9.JV h]
def vH(a b:V9):DE a b=yh [a,b]:=V9.ext λk h=>by
 rw[bM _ _ h];unfold DE Xq;rw[V9.qv _ h,if_pos h];unfold R5 mx;repeat' split
 all_goals omega
def Ay{k:Nat}{m:Int}{f:V9->ya->V9}{p:ya->Prop}(hf:∀o e,(f o e).at k<=m↔o.at k<=m/\p e):∀(es:List ya) (o:V9),(es.foldl f o).at k<=m↔o.at k<=m/\∀e∈es,p e
 |[],o=>by simp
 |e::t,o=>by
  rw[foldl_cons,Ay hf t,hf];simp only[mem_cons,forall_eq_or_imp,and_assoc]
def FP(es:List ya):zh es=Mt es:=V9.ext λk h=>by
 have hz:=V9.JV h
 have key:∀m:Int,0<=m->((zh es).at k<=m↔(Mt es).at k<=m):=λm hm=>by
  have tw:∀o e:V9,(yh [o,e]).at k<=m↔o.at k<=m/\e.at k<=m:=λo e=>by rw[bM _ _ h,aM,aM];exact⟨λx=>⟨x.1.2,x.2⟩,λx=>⟨⟨hm,x.1⟩,x.2⟩⟩
  have wd:∀(o:V9) (e:ya),(Fg o e.dc e.rg e.sq).at k<=m↔o.at k<=m/\(Tb e.dc e.rg/\k=e.dc.toNat*3+e.rg.toNat->e.sq<=m):=λo e=>by
   rw[Ng _ _ _ _ h];split
   .rename_i hc;rw[aM];exact⟨λx=>⟨x.1,λ_=>x.2⟩,λx=>⟨x.1,x.2 hc⟩⟩
   .rename_i hc;exact⟨λx=>⟨x,λy=>absurd y hc⟩,λx=>x.1⟩
  unfold zh Mt kr;rw[Ay (p:=λe=>e.dp.at k<=m/\(Tb e.dc e.rg/\k=e.dc.toNat*3+e.rg.toNat->e.sq<=m)) (λo e=>by rw[wd,vH,tw,and_assoc]),Ay (λo e=>wd o e),Ay (λo e=>tw o e.dp)];constructor
  .rintro⟨a,b⟩;exact⟨⟨a,λe he=>(b e he).1⟩,λe he=>(b e he).2⟩
  .rintro⟨⟨a,b⟩,c⟩;exact⟨a,λe he=>⟨b e he,c e he⟩⟩
 have nn:∀{f:V9->ya->V9},(∀o e,o.at k<=(f o e).at k)->∀(es:List ya) (o:V9),o.at k<=(es.foldl f o).at k:=λ{f} hf es=>by
  induction es with
  |nil=>intro o;exact Int.le_refl _
  |cons e t ih=>intro o;exact Int.le_trans (hf o e) (ih _)
 have w0:∀(o:V9) (e:ya),o.at k<=(Fg o e.dc e.rg e.sq).at k:=λo e=>by
  rw[Ng _ _ _ _ h];split
  .exact(Lw _ _).1
  .exact Int.le_refl _
 have t0:∀o e:V9,o.at k<=(yh [o,e]).at k:=λo e=>by rw[bM _ _ h];exact Int.le_trans (Lw _ _).2 (Lw _ _).1
 have p1:0<=(zh es).at k:=hz▸nn (λo e=>Int.le_trans (t0 o e.dp) (by rw[<-vH];exact w0 _ e)) es V9.z;have p2:0<=(Mt es).at k:=Int.le_trans (hz▸nn (λo e=>t0 o e.dp) es V9.z) (nn w0 es _);have h1:=(key _ p2).2 (Int.le_refl _);have h2:=(key _ p1).1 (Int.le_refl _);omega
def Ke.zk{c:CS}(h:Ke c)(key val:ByteArray)(dead:Bool)(deps:V9)(clock cl op:Int):c.zk key val dead deps clock cl op=c.Zf key val dead deps clock cl op:=by
 have hm:=Uy (c.Yg clock)
 have e1:Oj c.dc c.rg (c.Yg clock)=false↔ ¬c.Rr clock:=by
  unfold Oj CS.Rr Sf;rw[decide_eq_false_iff_not];show ¬(Je (c.Yg clock)<MC/\_)↔ ¬ki ((if MC<Je (c.Yg clock) then MC else Je (c.Yg clock))+1) c.dc c.rg;refine not_congr ?_;constructor
  .rintro⟨a,b⟩;rw[if_neg (by omega)];exact b
  .intro b;have:=b.2.1;split at b
   .rw[if_pos (by assumption)] at this;exact absurd this (by omega)
   .rw[if_neg (by assumption)] at this;exact⟨by omega,b⟩
 unfold CS.zk CS.Zf;simp only[e1];split
 .rfl
 split
 .rfl
 split
 .rfl
 split
 .rfl
 rename_i h4;have h5:c.Rr clock:=Classical.not_not.1 λx=>h4 (.inr x)
 have e2:c.Ur key val dead deps clock cl op=c.entry key val dead deps clock cl op:=by
  unfold CS.Ur CS.Vt CS.entry;rw[vH,FP]
  have h6:=(decide_eq_true_iff.1 (by
   cases hd:Oj c.dc c.rg (c.Yg clock) with
   |true=>exact hd
   |false=>exact absurd h5 (e1.1 hd):decide (Je (c.Yg clock)<MC/\_)=true)).1
  have:Sf (clock::c.lg.map (·.ct))=Je (c.Yg clock)+1:=by
   show(if MC<Je (c.Yg clock) then MC else Je (c.Yg clock))+1=_;rw[if_neg (by omega)]
  rw[this]
 rw[e2];split
 .rfl
 .rw[h.push]
def Ke.restore{dc rg nd:Int}{x:Wa}{sn bs:Int}{es:List ya}(hl:es.length<=256)(he:∀e∈es,ud e):Ke (CS.restore dc rg nd x sn bs es):=by
 refine Ke.of ⟨λc hc=>?_,?_,⟨Int.natCast_nonneg _,Int.le_refl _⟩,hl,he⟩ ⟨Int.le_refl 0,Int.natCast_nonneg _⟩ ⟨Int.le_refl 0,Int.natCast_nonneg _⟩
 .unfold CS.pg at hc;simp only[] at hc;split at hc
  .rename_i h;cases hc;exact h.2.2
  .cases hc
 .show 0<=mx 0 (mn bs (es.length:Int))/\mx 0 (mn bs (es.length:Int))<=(es.length:Int);unfold mx mn;split<;>split<;>omega
def DJ(x:Int):Ct prog 255 [x] [] (λr H'=>r= .bool false/\H'=[]):=by
 refine ng func255 λg R=>?_;exact Xa [] rfl rfl ⟨by simp,rfl⟩
def Mo(x y:Int):Ct prog 202 [x,y] [] (λr H'=>r= .int .i64 (fm x y)/\H'=[]):=by
 have h1:=DJ x;have h2:=DJ y;unfold fm;refine ce func202 λg R=>?_;simp only[can];by_cases c1:x<y
 .rw[if_pos c1];repeat' first|refine ga ?_|refine cq h1 ?_|refine cq h2 ?_
  exact Wi []
 .rw[if_neg c1];by_cases c2:y<x
  .rw[if_pos c2];repeat' first|refine ga ?_|refine cq h1 ?_|refine cq h2 ?_
   exact Wi []
  .rw[if_neg c2];repeat' first|refine ga ?_|refine cq h1 ?_|refine cq h2 ?_
   exact Wi []
def NK:List Int->Int
 |[]=>0
 |x::t=>if x≠0 then x else NK t
def OS{xs:List Int}{v:Value}{h:Hp}(hs:Rs xs v h)(hl:xs.length<=1000):Ct prog 200 [v] [h] (λr H'=>r= .int .i64 (NK xs)/\H'=[h]):=by
 obtain⟨p,c,rfl⟩:=hs.len;refine ng func200 λg R=>?_;refine W.lo (α:=Nat) (λk=>k<=xs.length/\NK xs=NK (xs.drop k)) (λk=>[(3,.int .i64 0),(6,.slice p xs.length c),(7,.int .i64 (xs.length:Int)),(8,.int .i64 (k:Int))]) (λ_=>[h,R]) (λk=>xs.length - k) 0 ⟨di _,rfl⟩ ?_;rintro k ⟨hk,ho⟩;by_cases hlt:k<xs.length
 .obtain⟨x,hx⟩:=Lh hlt;rw[drop_eq_getElem_cons hlt,show xs[k]=x from(List.getElem?_eq_some_iff.1 hx).2] at ho;by_cases h0:x=0
  .rw[show NK (x::xs.drop (k+1))=_ from if_neg (not_not_intro h0)] at ho;try refine ga ?_
   exact D.rd (k+1) ⟨by omega,ho⟩ (by omega)
  .rw[show NK (x::xs.drop (k+1))=_ from if_pos h0] at ho;try refine ga ?_
   exact Xa [h] rfl rfl ⟨by rw[ho],rfl⟩
 .obtain rfl:k=xs.length:=by omega
  rw[drop_length] at ho;try refine ga ?_
  exact Xa [h] rfl rfl ⟨by rw[ho];rfl,rfl⟩
abbrev qX(e:ya):Value:= .agg (List.toArray [e.ct,e.sd,e.sr])
def BN(a b:ya):Ct prog 201 [qX a,qX b] [] (λr H'=>r= .int .i64 (Vl a b)/\H'=[]):=by
 have h1:=Mo a.ct b.ct;have h2:=Mo a.sd b.sd;have h3:=Mo a.sr b.sr
 have e:Vl a b=NK [fm a.ct b.ct,fm a.sd b.sd,fm a.sr b.sr]:=by
  unfold Vl NK NK NK NK;split
  .rfl
  .split
   .rfl
   .split
    .rfl
    .rename_i h;exact Classical.not_not.1 h
 rw[e];generalize fm a.ct b.ct=x at h1⊢;generalize fm a.sd b.sd=y at h2⊢;generalize fm a.sr b.sr=z at h3⊢;refine ce func201 λg R=>?_;repeat' first|refine Za ?_|refine Uc λ_=>?_
 rename_i b2 b3;refine Wp (ml [4,1,4,1,4,3]) [[(b2,.cells (List.toArray [a.ct,a.sd,a.sr]) 44 (0,0))],[(b3,.cells (List.toArray [b.ct,b.sd,b.sr]) 44 (0,0))]] ?_;repeat' first|refine ga ?_|refine cq h1 ?_|refine cq h2 ?_|refine cq h3 ?_
 refine Up [x,y,z] (λv4 h4 hs4=>?_);have ho:=OS hs4.rs (by simp only[Ib,td];omega);repeat' first|refine ga ?_|refine cq ho ?_
 exact Wi []
def V9.By(v:V9){d r:Nat}(hd:d<3)(hr:r<3):v.enc[0+((d:Nat):Int).toNat*3+((r:Nat):Int).toNat*1]? =some (.int .i64 (v.at (d*3+r))):=by
 rw[show 0+((d:Nat):Int).toNat*3+((r:Nat):Int).toNat*1=d*3+r by simp only[Int.toNat_natCast];omega,V9.Wd _ (by omega)]
def GP(a b:V9):Ct prog 224 [.agg (List.toArray a.enc),.agg (List.toArray b.enc)] [] (λr H'=>r= .bool (decide (YE a b))/\H'=[]):=by
 refine ce func224 λg R=>?_;repeat' first|refine Za ?_|refine Uc λ_=>?_
 rename_i b2 b3;refine W.h0 [Ra b3 b,Ra b2 a,R] ?_;refine W.lo (α:=Nat) (λd=>d<=3/\∀i,i<d*3->b.at i<=a.at i) (λd=>[(2,b2),(3,b3),(7,.int .i64 (d:Int))]) (λ_=>[Ra b3 b,Ra b2 a,R]) (λd=>3 - d) 0 ⟨di _,λi hi=>absurd hi (by omega)⟩ ?_;rintro d ⟨hd,hall⟩;by_cases hlt:d<3
 .try refine ga ?_
  refine W.lo (α:=Nat) (λr=>r<=3/\∀i,i<d*3+r->b.at i<=a.at i) (λr=>[(2,b2),(3,b3),(5,.int .i64 (d:Int)),(7,.int .i64 (d:Int)),(10,.int .i64 (r:Int))]) (λ_=>[Ra b3 b,Ra b2 a,R]) (λr=>3 - r) 0 ⟨di _,hall⟩ ?_;clear hall;rintro r ⟨hr,hall⟩;by_cases hlr:r<3
  .have g1:=V9.By a hlt hlr;have g2:=V9.By b hlt hlr;by_cases hc:b.at (d*3+r)<=a.at (d*3+r)
   .try refine ga ?_
    refine wq ?_;repeat' first|refine ga ?_|refine lN a.enc _ rfl ?_ (hc:=g1)|refine lN b.enc _ rfl ?_ (hc:=g2)
    refine D.rd (r+1) ⟨by omega,λi hi=>?_⟩ (by omega);rcases Nat.lt_or_ge i (d*3+r) with h|h
    .exact hall i h
    .obtain rfl:i=d*3+r:=by omega
     exact hc
   .have hno: ¬YE a b:=λh=>hc (h (d*3+r) (by omega));try refine ga ?_
    refine wq ?_;repeat' first|refine ga ?_|refine lN a.enc _ rfl ?_ (hc:=g1)|refine lN b.enc _ rfl ?_ (hc:=g2)
    exact Xa [] rfl rfl ⟨by rw[rj hno],rfl⟩
  .obtain rfl:r=3:=by omega
   try refine ga ?_
   exact D.rd (d+1) ⟨by omega,λi hi=>hall i (by omega)⟩ (by omega)
 .obtain rfl:d=3:=by omega
  try refine ga ?_
  exact Xa [] rfl rfl ⟨by rw[Mi (show YE a b from hall)],rfl⟩
def Si(v:V9)(rg:Int)(c:V3):Nat->V9
 |0=>v
 |k+1=>Fg (Si v rg c k) (k:Int) rg (c.at k)
def PS(v:V9)(rg:Int)(c:V3):Ct prog 72 [.agg (List.toArray v.enc),rg,.agg (List.toArray c.enc)] [] (λr H'=>r= .agg (List.toArray (Gj v rg c).enc)/\H'=[]):=by
 refine ce func72 λg R=>?_;repeat' first|refine Za ?_|refine Uc λ_=>?_|refine al λ_=>?_|refine Pg c.enc ?_
 rename_i b3 b5 b6;refine W.h0 [Ra b6 V9.z,Mc b5 c,Ra b3 (Si v rg c 0),R] ?_;refine W.lo (α:=Nat) (λk=>k<=3) (λk=>[(1,rg),(3,b3),(6,b6),(9,.agg (List.toArray c.enc)),(10,.int .i64 (k:Int))]) (λk=>[Ra b3 (Si v rg c k),Ra b6 V9.z,R]) (λk=>3 - k) 0 (di _) ?_;intro k hk;by_cases hlt:k<3
 .have hel:=V3.Wd c hlt;generalize hx:c.at k=x at hel;have hn:Si v rg c (k+1)=Fg (Si v rg c k) (k:Int) rg x:=by rw[<-hx];rfl
  try refine ga ?_
  refine WX.W0 rfl rfl hlt hel rfl ?_;repeat' first|refine ga ?_|refine Xf (Si v rg c k).enc (Si v rg c k).enc ?_|refine jf (Dt.enc ⟨(k:Int),rg,x⟩) ?_
  refine Up [(⟨(k:Int),rg,x⟩:Dt)] (λv4 h4 hs4=>?_);have hw:=gI (Si v rg c k) hs4.rs (by simp only[Ib,td];omega);rw[show Ap (Si v rg c k) [(⟨(k:Int),rg,x⟩:Dt)]=Si v rg c (k+1) from hn.symm] at hw;repeat' first|refine ga ?_|refine cq hw ?_|refine xg (Si v rg c k).enc (Si v rg c (k+1)).enc ?_
  exact D.re (k+1)
 .obtain rfl:k=3:=by omega
  repeat' first|refine ga ?_|refine Xf (Si v rg c 3).enc (Si v rg c 3).enc ?_|refine xg V9.z.enc (Si v rg c 3).enc ?_
  exact D.Gc [] _ rfl (.Va rfl rfl .nil) ⟨rfl,rfl⟩
def HP:Option Nat->Int
 |none=> -1
 |some i=>(i:Int)
def HY(fid:FuncId)(caps:List Value):Value:= .func (.func fid) (List.toArray []) (List.toArray caps)
section
variable{ps:List ya}{v:Value}{h:Hp}{fid:FuncId}[hn:Go.Sl.Enters prog fid]{caps:List Value}{hq:Hp}{p:ya->Bool}(hc:∀x∈ps,Ct prog fid (.agg (Qb.enc x).toArray::caps) [hq] (λr H'=>r= .bool (p x)/\H'=[hq]))
include hc
theorem CN(hs:Rs ps v h)(hl:ps.length<=1000000):Ct prog 227 [v,HY fid caps] [h,hq] (λr H'=>r= .int .i64 (HP (ps.findIdx? p))/\H'=[h,hq]):=by
 refine Tk func227 λg R=>?_;refine W.lo (α:=Nat) (λj=>j<=ps.length/\∀(i:Nat) (x:ya),i<j->ps[i]? =some x->p x=false) (λj=>[(0,v),(1,HY fid caps),(7,.int .i64 (ps.length:Int)),(8,.int .i64 (j:Int))]) (λ_=>[h,hq,R]) (λj=>ps.length - j) 0 ⟨di _,λi p hi=>absurd hi (Nat.not_lt_zero _)⟩ ?_;rintro j ⟨hj,hall⟩;by_cases hlt:j<ps.length
 .obtain⟨x,hx⟩:=Lh hlt;obtain⟨h1,h2⟩:=List.getElem?_eq_some_iff.1 hx;try refine run ?_
  refine WX.Yp rfl rfl (hc x (mem_of_getElem? hx)) rfl ?_;rintro _ _ ⟨rfl,rfl⟩
  cases hpk:p x with
  |true=>
   have hf:ps.findIdx? p=some j:=by
    rw[List.findIdx?_eq_some_iff_getElem];exact⟨h1,by rw[h2];exact hpk,λi hi=>by rw[hall i _ hi (Wg (by omega))];decide⟩
   refine rn ?_
   exact Xa [h,hq] rfl rfl ⟨by rw[hf];rfl,rfl⟩
  |false=>
   refine rn ?_;refine D.rd (j+1) ⟨by omega,λi y hi hy=>?_⟩ (by omega);rcases Nat.lt_or_ge i j with h|h
   .exact hall i y h hy
   .obtain rfl:i=j:=by omega
    rw[hx] at hy;cases hy;exact hpk
 .have hf:ps.findIdx? p=none:=by
   rw[List.findIdx?_eq_none_iff];intro x hx;obtain⟨i,hi⟩:=mem_iff_getElem?.1 hx;exact hall i x (by have:=(List.getElem?_eq_some_iff.1 hi).1;omega) hi
  try refine run ?_
  exact Xa [h,hq] rfl rfl ⟨by rw[hf];rfl,rfl⟩
theorem QS(hs:Rs ps v h)(hl:ps.length<=1000000):Ct prog 154 [v,HY fid caps] [h,hq] (λr H'=>r= .bool (ps.any p)/\H'=[h,hq]):=by
 have hi:=CN hc hs hl
 have e:ps.any p=decide (0<=HP (ps.findIdx? p)):=by
  cases hf:ps.findIdx? p with
  |none=>
   rw[List.findIdx?_eq_none_iff] at hf
   exact any_eq_false.2 λx hx=>by rw[hf x hx];decide
  |some i=>
   obtain⟨h1,h2,-⟩:=List.findIdx?_eq_some_iff_getElem.1 hf;rw[any_eq_true.2 ⟨_,getElem_mem h1,h2⟩];exact(Mi (Int.natCast_nonneg i)).symm
 rw[e];refine Tk func154 λg R=>?_;refine cq hi ?_;try refine run ?_
 exact Wi [h,hq]
end
def dW{gs:List ya}{v:Value}{h:Hp}{k:Nat}(hs:ia 49 gs v h)(hk:k<gs.length)(hl:gs.length<=1099511627776):
  Ct prog 225 [v,.int .i64 (k:Int),.int .i64 ((k:Int)+1)] [h] (λr H'=>∃h',ia 49 (gs.eraseIdx k) r h'/\H'=[h']):=by
 obtain⟨b,cap,sp,fr,rfl,rfl,g1,g2,g3⟩:=hs.ne (by omega);have hz:Qb.sz ya=20:=rfl;have hr:=hs.rs;have Fh:(gs.take k).length=k:=by rw[Oe];omega
 have hdk:(gs.drop (k+1)).length=gs.length - (k+1):=length_drop;have hek:gs.take k++gs.drop (k+1)=gs.eraseIdx k:=(eraseIdx_eq_take_drop_succ gs k).symm;have hcs:Jb gs++sp=Jb (gs.take k)++(Jb (gs.drop k)++sp):=by rw[<-Sc,<-Hg,take_append_drop]
 have e1:(k:Int)+1=((k+1:Nat):Int):=by omega
 rw[e1];have hrd:=hr.from (m:=20) rfl (lo:=k+1) (by omega);refine Tk func225 λg R=>?_;refine WX.C8 (lo:=k) (hi:=k+1) (mx:=gs.length) rfl rfl rfl rfl (by omega) (by omega) g1 rfl ?_;try refine run ?_
 refine iX (ml [6]) [] ?_;repeat' first|refine run ?_|refine WX.vi (lo:=k+1) rfl rfl (by omega) g1 rfl ?_
 refine WX.F3 (xs:=gs.take k) (ys:=gs.drop (k+1)) (sp:=Jb (gs.drop k)++sp) rfl rfl hrd rfl Fh.symm hcs (by omega) (by rw[Eb,Ic,g2,length_drop,Fh,hz];omega) g3 (by omega) rfl ?_;rw[Fh,hdk,show k+(gs.length - (k+1))=gs.length - 1 by omega,hek];try refine run ?_
 refine WX.EJ (lo:=gs.length - 1) (hi:=gs.length) rfl rfl rfl (by omega) g1 rfl ?_;rw[au,if_neg (by omega),show gs.length - (gs.length - 1)=1 by omega];simp only[Option.map_some,Xc,Nat.zero_add];have hel:(Jb (gs.eraseIdx k)).length=(gs.length - 1)*20:=by rw[Ic,length_eraseIdx_of_lt hk,hz]
 have Ue:(List.drop ((gs.length - (k+1))*Qb.sz ya) (Jb (gs.drop k)++sp)).length=(cap - (gs.length - 1))*20:=by
  rw[length_drop,Eb,Ic,length_drop,g2,hz];omega
 refine WX.jL rfl (by rw[Eb,hel,Ue,show(gs.length - 1)*20+(cap - (gs.length - 1))*20=cap*20 by omega];exact g3) (by decide)
  (by rw[Eb,hel,Ue];simp only[Ib,td];omega) rfl ?_
 rw[show(gs.length - 1)*20=(Jb (gs.eraseIdx k)).length+0 by rw[hel];rfl,Yc];generalize hsp:setAt (List.drop _ _) 0 _=sp';try refine run ?_
 refine Xa [[(b,.cells (List.toArray (Jb (gs.eraseIdx k)++sp')) 49 fr)]] rfl rfl ⟨_,.inr ⟨b,cap,sp',fr,?_,rfl,?_,?_,g3⟩,rfl⟩
 .rw[length_eraseIdx_of_lt hk]
 .rw[length_eraseIdx_of_lt hk];omega
 .rw[<-hsp,Jq,Ue,length_eraseIdx_of_lt hk];rfl
def Di(p:ya->Bool)(ps:List ya)(j:Nat):List ya:=(ps.take j).filter λx=> !p x
def dA{p:ya->Bool}{ps:List ya}{j:Nat}{x:ya}(h:ps[j]? =some x):Di p ps (j+1)=Di p ps j++(if p x=true then[] else[x]):=by
 obtain⟨h1,h2⟩:=List.getElem?_eq_some_iff.1 h;unfold Di;rw[take_succ_eq_append_getElem h1,h2,filter_append];congr 1;cases hp:p x<;>simp[hp]
structure D8(p:ya->Bool)(ps:List ya)(j:Nat)(l:List ya):Prop where
 len:l.length=ps.length
 lt:(Di p ps j).length<j
 pre:l.take (Di p ps j).length=Di p ps j
 post:∀i,j<=i->l[i]? =ps[i]?
section
variable{ps:List ya}{v:Value}{h:Hp}{fid:FuncId}[hn:Go.Sl.Enters prog fid]{caps:List Value}{hq:Hp}{p:ya->Bool}(hc:∀x∈ps,Ct prog fid (.agg (Qb.enc x).toArray::caps) [hq] (λr H'=>r= .bool (p x)/\H'=[hq]))
include hc
theorem fW(hs:ia 49 ps v h)(hl:ps.length<=1000000):
  Ct prog 221 [v,HY fid caps] [h,hq] (λr H'=>∃h',H'=[h',hq]/\ia 49 (ps.filter λx=> !p x) r h'):=by
 have pR:=CN hc hs.rs hl;have XH:=hs.rs
 cases hf:ps.findIdx? p with
 |none=>
  rw[hf] at pR
  have hall:(ps.filter λx=> !p x)=ps:=by
   rw[filter_eq_self];rw[List.findIdx?_eq_none_iff] at hf;intro x hx;rw[hf x hx];rfl
  rw[hall];refine Tk func221 λg R=>?_;refine cq pR ?_;simp only[HP];try refine run ?_
  exact Xa [h,hq] rfl rfl ⟨_,rfl,hs⟩
 |some i0=>
  rw[hf] at pR;simp only[HP] at pR;rw[List.findIdx?_eq_some_iff_getElem] at hf;obtain⟨CQ,hik,hib⟩:=hf
  have G1:Di p ps i0=ps.take i0:=by
   unfold Di;rw[filter_eq_self];intro x hx;obtain⟨j,hj,he⟩:=mem_take_iff_getElem.1 hx;have:=hib j (by omega);rw[he] at this;simpa using this
  have Om:Di p ps (i0+1)=ps.take i0:=by
   rw[dA (Wg CQ),G1,if_pos hik,append_nil]
  have Zt:(Di p ps (i0+1)).length=i0:=by rw[Om,Oe];omega
  refine Tk func221 λg R=>?_;refine cq pR ?_;try refine run ?_
  refine W.as 5 (.int .i64 ((Di p ps (i0+1)).length:Int)) rfl (by rw[Zt]) ?_;refine W.as 6 (.int .i64 ((i0+1:Nat):Int)) rfl (by congr 1) ?_
  refine W.lo (α:=Nat×List ya×Hp) (λx=>x.1<=ps.length/\D8 p ps x.1 x.2.1/\ia 49 x.2.1 v x.2.2) (λx=>[(0,v),(1,HY fid caps),(5,.int .i64 ((Di p ps x.1).length:Int)),(6,.int .i64 (x.1:Int))]) (λx=>[x.2.2,hq,R]) (λx=>ps.length - x.1)
   (i0+1,ps,h) ⟨by simp only[];omega,⟨rfl,by rw[Zt];omega,by rw[Zt,Om],λ_ _=>rfl⟩,hs⟩ ?_
  clear XH;rintro⟨j,l,h2⟩ ⟨hj,hI,Ue⟩;simp only[] at hj hI Ue⊢;have hrl:=Ue.rs;have tg:=hI.len;have hkj:=hI.lt;by_cases hlt:j<ps.length
  .obtain⟨x,hx⟩:=Lh hlt;have hlp:l[j]? =some x:=by rw[hI.post j (Nat.le_refl _),hx]
   have hks:=dA (p:=p) hx;repeat' first|refine run ?_|refine al λ_=>?_
   refine WX.Yp rfl rfl (hc x (mem_of_getElem? hx)) rfl ?_;rintro _ _ ⟨rfl,rfl⟩
   cases hpk:p x with
   |true=>
    rw[hpk,if_pos rfl,append_nil] at hks;refine rn ?_;refine D.as 5 (.int .i64 ((Di p ps (j+1)).length:Int)) rfl (by rw[hks]) ?_
    refine D.rd (j+1,l,h2) ⟨by simp only[];omega,⟨tg,by rw[hks];omega,by rw[hks];exact hI.pre,λi hi=>hI.post i (by omega)⟩,Ue⟩ (by simp only[];omega)
   |false=>
    rw[hpk,if_neg (by decide)] at hks;obtain⟨y,hy⟩:∃y,l[(Di p ps j).length]? =some y:=⟨_,Wg (by omega)⟩;refine rn ?_;refine WX.zo (y':=x) (vs:=Qb.enc x) rfl rfl rfl Ue hy rfl rfl rfl (Vh rfl) rfl (λh3 Cc=>?_);try refine run ?_
    refine D.as 5 (.int .i64 ((Di p ps (j+1)).length:Int)) rfl (by rw[hks,Eb];congr 1) ?_;refine D.rd (j+1,l.set (Di p ps j).length x,h3) ⟨by simp only[];omega,⟨by simp[tg],by rw[hks,Eb];simp only[Ib,td];omega,?_,λi hi=>?_⟩,Cc⟩ (by simp only[];omega)
    .rw[hks,Eb];simp only[Ib,td,Nat.zero_add];rw[take_succ_eq_append_getElem (by simp;omega),take_set_of_le (Nat.le_refl _),hI.pre];simp
    .simp only[] at hi;rw[List.getElem?_set_ne (by omega)];exact hI.post i (by omega)
  .obtain rfl:j=ps.length:=by omega
   have GU:Di p ps ps.length=ps.filter λx=> !p x:=by unfold Di;rw[take_length]
   obtain⟨b,cap,sp,fr,rfl,rfl,g1,g2,g3⟩:=Ue.ne (by omega);have hz:Qb.sz ya=20:=rfl;have hpre:=hI.pre;clear hI;generalize hK:Di p ps ps.length=K at*
   have hcs:Jb l++sp=Jb K++(Jb (l.drop K.length)++sp):=by
    conv=>lhs;rw[<-take_append_drop K.length l,hpre,Hg,Sc]
   try refine run ?_
   refine WX.vi (lo:=K.length) rfl rfl (by omega) g1 rfl ?_;rw[au,if_neg (by omega)];simp only[Option.map_some,Xc,Nat.zero_add];have hel:(Jb K).length=K.length*20:=by rw[Ic,hz]
   have wI:(Jb (l.drop K.length)++sp).length=(cap - K.length)*20:=by
    rw[Eb,Ic,length_drop,g2,hz];omega
   have Ah:(Jb l++sp).length=cap*20:=by rw[hcs,Eb,hel,wI];omega
   refine WX.jL rfl (by rw[Ah];exact g3) (by omega) (by rw[Ah];simp only[Ib,td];omega) rfl ?_;rw[hcs,show K.length*20=(Jb K).length+0 by rw[hel];rfl,Yc];generalize hsp:setAt (Jb (List.drop K.length l)++sp) 0 _=sp';try refine run ?_
   refine Xa [[(b,.cells (List.toArray (Jb K++sp')) 49 fr)],hq] rfl rfl ⟨_,rfl,.inr ⟨b,cap,sp',fr,?_,?_,?_,?_,g3⟩⟩
   .rw[<-GU];rfl
   .rw[<-GU]
   .rw[<-GU];omega
   .rw[<-hsp,Jq,wI,<-GU,hz]
end
abbrev Fa(b:Nat)(rg:Int)(v:Value):Hp:=[(b,.cells (List.toArray [rg,v]) 187 (0,0))]
def Mj(e x:ya):Bool:=decide (x.dc=e.dc/\x.rg=e.rg/\x.sq=e.sq)
def RS(x e:ya):Ab [.i,.i,.i] [x.dc,x.rg,x.sq] [e.dc,e.rg,e.sq]=some (Mj e x):=by
 obtain⟨b,h1,h2⟩:=Zh (ks:=[.i,.i,.i]) (xs:=[.int .i64 x.dc,.int .i64 x.rg,.int .i64 x.sq]) (ys:=[.int .i64 e.dc,.int .i64 e.rg,.int .i64 e.sq]) rfl rfl;rw[h1];congr 1;unfold Mj;by_cases h:x.dc=e.dc/\x.rg=e.rg/\x.sq=e.sq
 .obtain⟨a1,a2,a3⟩:=id h;rw[Mi h];exact h2.2 (by rw[a1,a2,a3])
 .rw[rj h]
  cases hb:b with
  |false=>rfl
  |true=>
   have:=h2.1 hb;simp only[List.cons.injEq,Value.int.injEq,true_and,and_true] at this;exact absurd this h
def SS(b7:Nat)(e x:ya):Ct prog 155 [.agg (Qb.enc x).toArray,b7] [Gb b7 e] (λr H'=>r= .bool (Mj e x)/\H'=[Gb b7 e]):=by
 have hcmp:=RS x e;refine ce func155 λg R=>?_;repeat' first|refine Za ?_|refine Uc λ_=>?_
 rename_i b2;repeat' first|refine ga ?_|refine bn b2 0 x.enc [x.dc,x.rg,x.sq] ?_|refine bn b7 0 e.enc [e.dc,e.rg,e.sq] ?_|refine WX.aq rfl rfl hcmp rfl ?_
 exact Wi [Gb b7 e]
def TS{b3:Nat}{hv:V9}{e:ya}(hc:Tb e.dc e.rg)(h1:1<=e.sq):Ct prog 223 [.agg (List.toArray hv.enc),.agg (List.toArray [e.dc,e.rg,e.sq])] [] (λr H'=>r= .bool (decide (e.sq<=hv.of e))/\H'=[]):=by
 have hch:=fk e.dc e.rg;rw[Mi hc] at hch;obtain⟨c1,c2,c3,c4⟩:=hc;have g1:hv.enc[0+e.dc.toNat*3+e.rg.toNat*1]? =some (.int .i64 (hv.of e)):=by rw[show 0+e.dc.toNat*3+e.rg.toNat*1=e.dc.toNat*3+e.rg.toNat by omega,V9.Wd _ (by omega)];rfl
 refine ce func223 λg R=>?_;repeat' first|refine Za ?_|refine Uc λ_=>?_
 rename_i b2 b3;refine Wp (ml [4,1,17]) [[(b3,.cells (List.toArray [e.dc,e.rg,e.sq]) 42 (0,0))],Ra b2 hv] ?_;repeat' first|refine ga ?_|refine lN hv.enc _ rfl ?_ (hc:=g1)|refine cq hch ?_
 exact Wi []
def US(b3:Nat)(hv:V9){e:ya}(hc:Tb e.dc e.rg)(h1:1<=e.sq):Ct prog 222 [.agg (Qb.enc e).toArray,b3] [Ra b3 hv] (λr H'=>r= .bool (decide (e.sq<=hv.of e))/\H'=[Ra b3 hv]):=by
 have hh:=TS (b3:=b3) (hv:=hv) hc h1;refine ce func222 λg R=>?_;repeat' first|refine Za ?_|refine Uc λ_=>?_
 rename_i b2;repeat' first|refine ga ?_|refine Pg hv.enc ?_|refine bn b2 0 e.enc [e.dc,e.rg,e.sq] ?_|refine cq hh ?_
 exact Wi [Ra b3 hv]
variable{es hd:List ya}{hh:Hp}
def gW(rg:Int):Ct prog 124 [rg] [] (λr H'=>∃b,r= .pointer (some ⟨b,0,none⟩)/\H'=[Fa b rg (.slice none 0 0)]):=by
 refine ce func124 λg R=>?_;repeat' first|refine Za ?_|refine Uc λ_=>?_|refine jf [rg,.slice none 0 0] ?_
 rename_i b;exact Xa [Fa b rg (.slice none 0 0)] rfl rfl ⟨b,rfl,rfl⟩
def RV{v:Value}(hs:Rs es v hh)(b:Nat)(rg:Int):Ct prog 116 [b] [Fa b rg v] (λr H'=>r= .int .i64 (es.length:Int)/\H'=[Fa b rg v]):=by
 obtain⟨p,c,rfl⟩:=hs.len;refine ng func116 λg R=>?_;exact Wi [Fa b rg (.slice p es.length c)]
def Vg(rg:Int)(hd:List ya)(e:ya):List ya:=if ud e/\e.rg=rg/\hd.any (Mj e)=false/\hd.length<16 then hd++[e] else hd
def iW{v u:Value}{hu:Hp}(hs:ia 49 hd v hh)(he:Rs es u hu)(b:Nat)(rg:Int)(hl:hd.length<=16)(hel:es.length<=1000):
  Ct prog 68 [b,u] [Fa b rg v,hh,hu] (λr H'=>∃k v' zj,r= .int .i64 k/\H'=[Fa b rg v',zj,hu]/\ia 49 (es.foldl (Vg rg) hd) v' zj):=by
 obtain⟨pu,cu,rfl⟩:=he.len;refine ng func68 λg R=>?_
 refine W.lo (α:=Nat×Nat×Value×Hp) (λx=>x.1<=es.length/\x.2.1<=x.1/\ia 49 ((es.take x.1).foldl (Vg rg) hd) x.2.2.1 x.2.2.2/\((es.take x.1).foldl (Vg rg) hd).length<=16)
  (λx=>[(0,b),(5,.int .i64 (x.2.1:Int)),(9,.slice pu es.length cu),(10,.int .i64 (es.length:Int)),(11,.int .i64 (x.1:Int))]) (λx=>[Fa b rg x.2.2.1,x.2.2.2,hu,R]) (λx=>es.length - x.1) (0,0,v,hh) ⟨di _,Nat.le_refl _,hs,hl⟩ ?_
 clear hs hl;rintro⟨i,n,v,hh⟩ ⟨hi,hni,hs,hl⟩;simp only[] at hi hni hs hl⊢;by_cases hlt:i<es.length
 .obtain⟨e,hx⟩:=Lh hlt;have hn:(es.take (i+1)).foldl (Vg rg) hd=Vg rg ((es.take i).foldl (Vg rg) hd) e:=by rw[take_add_one,hx,foldl_append];rfl
  generalize(es.take i).foldl (Vg rg) hd=l at hs hl hn;have hR:=Yx e;obtain⟨pv,cv,rfl⟩:=hs.rs.len;repeat' first|refine ga ?_|refine al λ_=>?_|refine Vx he hx ?_|refine xg ya.z.enc e.enc ?_
  rename_i b7;refine WX.makeFunc (first:=[]) rfl rfl rfl ?_;have hc:=QS (λx _=>SS b7 e x) hs.rs (by omega);refine cq hc ?_
  have neg: ¬(ud e/\e.rg=rg/\l.any (Mj e)=false/\l.length<16)->ia 49 ((es.take (i+1)).foldl (Vg rg) hd) (.slice pv l.length cv) hh/\((es.take (i+1)).foldl (Vg rg) hd).length<=16:=λh=>by
   rw[hn,show Vg rg l e=l from if_neg h];exact⟨hs,hl⟩
  cases ha:l.any (Mj e)<;>by_cases hE:ud e<;>by_cases hg:e.rg=rg<;>by_cases yY:l.length<16
  .clear neg;rw[show Vg rg l e=_ from if_pos ⟨hE,hg,ha,yY⟩] at hn;rw[Mi hE] at hR;try refine ga ?_
   refine Wp (ml [1,1,21]) [Gb b7 e,Fa b rg (.slice pv l.length cv)] ?_;repeat' first|refine ga ?_|refine Pg e.enc ?_|refine cq hR ?_
   refine Wp (ml [6,2]) [Gb b7 e,Fa b rg (.slice pv l.length cv)] ?_;repeat' first|refine ga ?_|refine Pg e.enc ?_
   refine Up [e] (λv4 h4 hs4=>?_);try refine ga ?_
   refine Jt (zb:=by simp only[Ib,td];omega) hs hs4.rs (λv5 h5 hs5=>?_);rw[<-hn] at hs5;obtain⟨p5,c5,rfl⟩:=hs5.rs.len;try refine ga ?_
   refine ei [rg,.slice pv l.length cv] [rg,.slice p5 ((es.take (i+1)).foldl (Vg rg) hd).length c5] ?_;try refine ga ?_
   refine D.as 5 (.int .i64 ((n+1:Nat):Int)) rfl (by congr 1) ?_;exact D.rd (i+1,n+1,.slice p5 ((es.take (i+1)).foldl (Vg rg) hd).length c5,h5) ⟨by simp only[];omega,by simp only[];omega,hs5,by simp only[hn,Eb,Ib,td];omega⟩ (by simp only[];omega)
  all_goals
   have neg:=neg (by simp only[ha,hE,hg,yY,and_true,and_false,true_and,false_and,not_false_eq_true,Bool.true_eq_false]);first|rw[Mi hE] at hR|rw[rj hE] at hR
   try refine ga ?_
   refine Wp (ml [1,1,21]) [Gb b7 e,Fa b rg (.slice pv l.length cv)] ?_;repeat' first|refine ga ?_|refine Pg e.enc ?_|refine cq hR ?_
   exact D.rd (i+1,n,.slice pv l.length cv,hh) ⟨by simp only[];omega,by simp only[];omega,neg⟩ (by simp only[];omega)
 .obtain rfl:i=es.length:=by omega
  rw[take_length] at hs;try refine ga ?_
  exact Xa [Fa b rg v,hh,hu] rfl rfl ⟨_,v,hh,rfl,rfl,hs⟩
def IP{v:Value}(hs:ia 49 hd v hh)(b:Nat)(rg:Int)(hl:hd.length<=16)(hv:V9)(hok:∀e∈hd,ud e):
  Ct prog 151 [b,.agg (List.toArray hv.enc)] [Fa b rg v,hh] (λr H'=>∃k v' zj,r= .int .i64 k/\H'=[Fa b rg v',zj]/\ia 49 (hd.filter λe=>decide (hv.of e<e.sq)) v' zj):=by
 obtain⟨pv,cv,rfl⟩:=hs.rs.len;refine ce func151 λg R=>?_;repeat' first|refine Za ?_|refine Uc λ_=>?_
 rename_i b3;refine WX.h0 [Ra b3 hv,Fa b rg (.slice pv hd.length cv),hh,R] ?_;refine WX.makeFunc (first:=[]) rfl rfl rfl ?_;have hc:=fW (p:=λe=>decide (e.sq<=hv.of e)) (hq:=Ra b3 hv) (fid:=222) (caps:=[b3]) (λx hx=>US b3 hv (hok x hx).ch (hok x hx).sq.1) hs (by omega);refine ck hc ?_;rintro v2 _ ⟨h2,rfl,Sa⟩;rw[show(hd.filter λx=> !decide (x.sq<=hv.of x))=hd.filter λe=>decide (hv.of e<e.sq) from filter_congr λx _=>by by_cases h:x.sq<=hv.of x<;>simp[h]<;>omega] at Sa;obtain⟨pw,cw,rfl⟩:=Sa.rs.len;have hle:(hd.filter λe=>decide (hv.of e<e.sq)).length<=hd.length:=length_filter_le ..;refine Za ?_;refine ei [rg,.slice pv hd.length cv] [rg,.slice pw (hd.filter λe=>decide (hv.of e<e.sq)).length cw] ?_;try refine ga ?_
 exact Xa [Fa b rg (.slice pw (hd.filter λe=>decide (hv.of e<e.sq)).length cw),h2] rfl rfl ⟨_,_,_,rfl,rfl,Sa⟩
def Em(h:V9)(hd:List ya):∀k,-1<=Ad h hd k/\Ad h hd k<(k:Int)
 |0=>⟨Int.le_refl _,by show(-1:Int)<0;decide⟩
 |k+1=>by
  have:=Em h hd k;unfold Ad;split<;>omega
def jW:Option ya->Value
 |some e=> .tuple #[.agg (List.toArray e.enc),.bool true]
 |none=> .tuple #[.agg (List.toArray ya.z.enc),.bool false]
def Ar(h:V9)(hd:List ya):Option ya×List ya:=if Ce h hd<0 then(none,hd) else(some (hd.getD (Ce h hd).toNat ya.z),hd.eraseIdx (Ce h hd).toNat)
structure cM(hv:V9)(e:ya):Prop where
 ch:Tb e.dc e.rg
 rg: -1<=hv.of e/\hv.of e<=1099511627776
 sq:1<=e.sq/\e.sq<=1099511627776
def cM.at{hv:V9}{e:ya}(h:cM hv e):hv.enc[0+e.dc.toNat*3+e.rg.toNat*1]? =some (.int .i64 (hv.of e)):=by
 obtain⟨c1,c2,c3,c4⟩:=h.ch;rw[show 0+e.dc.toNat*3+e.rg.toNat*1=e.dc.toNat*3+e.rg.toNat by omega,V9.Wd _ (by omega)];rfl
def VS{hd:List ya}{v:Value}{hh:Hp}(hs:ia 49 hd v hh)(b:Nat)(rg:Int)(hl:hd.length<=16)(hv:V9)(hok:∀e∈hd,cM hv e):
  Ct prog 152 [b,.agg (List.toArray hv.enc)] [Fa b rg v,hh] (λr H'=>∃v' zj,r=jW (Ar hv hd).1/\H'=[Fa b rg v',zj]/\ia 49 (Ar hv hd).2 v' zj):=by
 have hr:=hs.rs;obtain⟨pv,cv,rfl⟩:=hr.len;refine ce func152 λg R=>?_;repeat' first|refine Za ?_|refine Uc λ_=>?_|refine al λ_=>?_
 rename_i b3 b4;refine W.h0 [Gb b4 ya.z,Ra b3 hv,Fa b rg (.slice pv hd.length cv),hh,R] ?_
 refine W.lo (α:=Nat) (λk=>k<=hd.length) (λk=>[(0,b),(3,b3),(4,b4),(6,.int .i64 (Ad hv hd k)),(14,.slice pv hd.length cv),(15,.int .i64 (hd.length:Int)),(16,.int .i64 (k:Int))])
  (λ_=>[Gb b4 ya.z,Ra b3 hv,Fa b rg (.slice pv hd.length cv),hh,R]) (λk=>hd.length - k) 0 (di _) ?_
 intro k hk;obtain⟨r1,r2⟩:=Em hv hd k;by_cases hlt:k<hd.length
 .obtain⟨e,hx⟩:=Lh hlt;have he:=hok e (mem_of_getElem? hx);have hg:=he.at;obtain⟨g1,g2⟩:=he.rg;have hge:hd.getD k ya.z=e:=by rw[getD_eq_getElem?_getD,hx];rfl
  have hn:Ad hv hd (k+1)=if wu hv e/\(Ad hv hd k<0\/Vl e (hd.getD (Ad hv hd k).toNat ya.z)<0) then(k:Int) else Ad hv hd k:=by rw[<-hge];rfl
  have si:=GP hv e.dp;repeat' first|refine ga ?_|refine al λ_=>?_|refine Vx hr hx ?_|refine xg ya.z.enc e.enc ?_
  rename_i b8;obtain⟨d1,d2,d3,d4⟩:=he.ch;have hcs:∀y:ya,Ct prog 201 [qX e,qX y] [] (λr H'=>r= .int .i64 (Vl e y)/\H'=[]):=λy=>BN e y;by_cases c1:e.sq=hv.of e+1<;>by_cases c2:YE hv e.dp<;>first|rw[Mi c2] at si|rw[rj c2] at si
  .by_cases c3:Ad hv hd k<0
   .rw[if_pos ⟨⟨c1,c2⟩,.inl c3⟩] at hn;refine Wp (ml [18,1,1]) [Gb b8 e,Ra b3 hv] ?_;repeat' first|refine ga ?_|refine lN hv.enc _ rfl ?_ (hc:=hg)|refine Pg hv.enc ?_|refine bn b8 9 e.enc e.dp.enc ?_|refine cq si ?_
    refine Wp (ml [15,1,3]) [Gb b8 e,Fa b rg (.slice pv hd.length cv),hh] ?_;try refine ga ?_
    refine D.as 6 (.int .i64 (Ad hv hd (k+1))) rfl (by rw[hn]) ?_;exact D.re (k+1)
   .obtain⟨J,hJ⟩:∃J:Nat,Ad hv hd k=(J:Int):=⟨(Ad hv hd k).toNat,by omega⟩;obtain⟨y,hy⟩:∃y,hd[J]? =some y:=⟨_,Wg (by omega)⟩;have IY:hd.getD J ya.z=y:=by rw[getD_eq_getElem?_getD,hy];rfl
    have hcs:=hcs y;rw[hJ,Int.toNat_natCast,IY] at hn;rw[hJ] at r2⊢;by_cases c4:Vl e y<0
    .rw[if_pos ⟨⟨c1,c2⟩,.inr c4⟩] at hn;refine Wp (ml [18,1,1]) [Gb b8 e,Ra b3 hv] ?_;repeat' first|refine ga ?_|refine lN hv.enc _ rfl ?_ (hc:=hg)|refine Pg hv.enc ?_|refine bn b8 9 e.enc e.dp.enc ?_|refine cq si ?_
     refine Wp (ml [15,1,3]) [Gb b8 e,Fa b rg (.slice pv hd.length cv),hh] ?_;repeat' first|refine ga ?_|refine bn b8 3 e.enc [e.ct,e.sd,e.sr] ?_|refine lF (us:=[y.ct,y.sd,y.sr]) rfl hr ?_ (hk:=hy) (ho:=rfl)|refine cq hcs ?_
     refine D.as 6 (.int .i64 (Ad hv hd (k+1))) rfl (by rw[hn]) ?_;exact D.re (k+1)
    .rw[if_neg λh=>h.2.elim (λh=>by omega) c4] at hn;refine Wp (ml [18,1,1]) [Gb b8 e,Ra b3 hv] ?_;repeat' first|refine ga ?_|refine lN hv.enc _ rfl ?_ (hc:=hg)|refine Pg hv.enc ?_|refine bn b8 9 e.enc e.dp.enc ?_|refine cq si ?_
     refine Wp (ml [15,1,3]) [Gb b8 e,Fa b rg (.slice pv hd.length cv),hh] ?_;repeat' first|refine ga ?_|refine bn b8 3 e.enc [e.ct,e.sd,e.sr] ?_|refine lF (us:=[y.ct,y.sd,y.sr]) rfl hr ?_ (hk:=hy) (ho:=rfl)|refine cq hcs ?_
     refine D.as 6 (.int .i64 (Ad hv hd (k+1))) rfl (by rw[hn]) ?_;exact D.re (k+1)
  all_goals
   rw[if_neg (by simp only[wu,c1,c2,false_and,and_false,not_false_eq_true])] at hn;refine Wp (ml [18,1,1]) [Gb b8 e,Ra b3 hv] ?_;repeat' first|refine ga ?_|refine lN hv.enc _ rfl ?_ (hc:=hg)|refine Pg hv.enc ?_|refine bn b8 9 e.enc e.dp.enc ?_|refine cq si ?_
   refine Wp (ml [15,1,3]) [Gb b8 e,Fa b rg (.slice pv hd.length cv),hh] ?_;try refine ga ?_
   refine D.as 6 (.int .i64 (Ad hv hd (k+1))) rfl (by rw[hn]) ?_;exact D.re (k+1)
 obtain rfl:k=hd.length:=by omega
 have hb:Ad hv hd hd.length=Ce hv hd:=rfl;unfold Ar;rw[hb] at r1 r2⊢;by_cases c3:Ce hv hd<0
 .rw[if_pos c3];repeat' first|refine ga ?_|refine jf ya.z.enc ?_|refine xg ya.z.enc ya.z.enc ?_
  exact D.Bg [Fa b rg (.slice pv hd.length cv),hh] _ rfl (.Va rfl rfl (.tmp rfl .nil)) rfl ⟨_,_,rfl,rfl,hs⟩
 .rw[if_neg c3];obtain⟨J,hJ⟩:∃J:Nat,Ce hv hd=(J:Int):=⟨(Ce hv hd).toNat,by omega⟩;rw[hJ] at r2⊢;rw[Int.toNat_natCast];obtain⟨y,hy⟩:∃y,hd[J]? =some y:=⟨_,Wg (by omega)⟩;have IY:hd.getD J ya.z=y:=by rw[getD_eq_getElem?_getD,hy];rfl
  rw[IY];have E8:=dW hs (k:=J) (by omega) (by omega);repeat' first|refine ga ?_|refine al λ_=>?_|refine Vx hr hy ?_|refine xg ya.z.enc y.enc ?_
  refine ck E8 ?_;rintro v2 _ ⟨h2,Sa,rfl⟩;obtain⟨pw,cw,rfl⟩:=Sa.rs.len;refine Za ?_;refine ei [rg,.slice pv hd.length cv] [rg,.slice pw (hd.eraseIdx J).length cw] ?_;repeat' first|refine ga ?_|refine Pg y.enc ?_|refine xg ya.z.enc y.enc ?_
  exact D.Bg [Fa b rg (.slice pw (hd.eraseIdx J).length cw),h2] _ rfl (.Va rfl rfl (.tmp rfl .nil)) rfl ⟨_,_,rfl,rfl,Sa⟩
abbrev Oa(b:Nat)(rg:Int)(v:Value):Hp:=[(b,.cells (List.toArray [rg,v]) 160 (0,0))]
def eA(x y:Int):Ct prog 286 [x,y] [] (λr H'=>r= .int .i64 (fm x y)/\H'=[]):=by
 unfold fm;refine ce func286 λg R=>?_;simp only[can];by_cases c1:x<y
 .rw[if_pos c1];try refine ga ?_
  exact Wi []
 .rw[if_neg c1];by_cases c2:y<x
  .rw[if_pos c2];try refine ga ?_
   exact Wi []
  .rw[if_neg c2];try refine ga ?_
   exact Wi []
def WS(x y:Int):fm x y=0↔x=y:=by unfold fm;repeat' split<;>omega
def FJ(a b:ya):Ct prog 247 [qX a,qX b] [] (λr H'=>r= .int .i64 (Vl a b)/\H'=[]):=by
 have h1:=eA a.ct b.ct;have h2:=eA a.sd b.sd;have h3:=eA a.sr b.sr;have e1:=WS a.ct b.ct;have e2:=WS a.sd b.sd;unfold Vl;by_cases c1:a.ct=b.ct
 .rw[if_neg λh=>h (e1.2 c1)];by_cases c2:a.sd=b.sd
  .rw[if_neg λh=>h (e2.2 c2)];refine ce func247 λg R=>?_;repeat' first|refine Za ?_|refine Uc λ_=>?_|refine cq h3 ?_
   exact Wi []
  .rw[if_pos λh=>c2 (e2.1 h)];refine ce func247 λg R=>?_;repeat' first|refine Za ?_|refine Uc λ_=>?_|refine cq h2 ?_
   exact Wi []
 .rw[if_pos λh=>c1 (e1.1 h)];refine ce func247 λg R=>?_;repeat' first|refine Za ?_|refine Uc λ_=>?_|refine cq h1 ?_
  exact Wi []
def dM(a b:V9):Ct prog 246 [.agg (List.toArray a.enc),.agg (List.toArray b.enc)] [] (λr H'=>r= .bool (decide (YE a b))/\H'=[]):=by
 refine ce func246 λg R=>?_;repeat' first|refine Za ?_|refine Uc λ_=>?_
 rename_i b2 b3;refine W.h0 [Ra b3 b,Ra b2 a,R] ?_;refine W.lo (α:=Nat) (λd=>d<=3/\∀i,i<d*3->b.at i<=a.at i) (λd=>[(2,b2),(3,b3),(5,.int .i64 (d:Int))]) (λ_=>[Ra b3 b,Ra b2 a,R]) (λd=>3 - d) 0 ⟨di _,λi hi=>absurd hi (by omega)⟩ ?_;rintro d ⟨hd,hall⟩;by_cases hlt:d<3
 .try refine ga ?_
  refine W.lo (α:=Nat) (λr=>r<=3/\∀i,i<d*3+r->b.at i<=a.at i) (λr=>[(2,b2),(3,b3),(5,.int .i64 (d:Int)),(6,.int .i64 (r:Int))]) (λ_=>[Ra b3 b,Ra b2 a,R]) (λr=>3 - r) 0 ⟨di _,hall⟩ ?_;clear hall;rintro r ⟨hr,hall⟩;by_cases hlr:r<3
  .have g1:=V9.By a hlt hlr;have g2:=V9.By b hlt hlr;by_cases hc:b.at (d*3+r)<=a.at (d*3+r)
   .try refine ga ?_
    refine wq ?_;repeat' first|refine ga ?_|refine lN a.enc _ rfl ?_ (hc:=g1)|refine lN b.enc _ rfl ?_ (hc:=g2)
    refine D.rd (r+1) ⟨by omega,λi hi=>?_⟩ (by omega);rcases Nat.lt_or_ge i (d*3+r) with h|h
    .exact hall i h
    .obtain rfl:i=d*3+r:=by omega
     exact hc
   .have hno: ¬YE a b:=λh=>hc (h (d*3+r) (by omega));try refine ga ?_
    refine wq ?_;repeat' first|refine ga ?_|refine lN a.enc _ rfl ?_ (hc:=g1)|refine lN b.enc _ rfl ?_ (hc:=g2)
    exact Xa [] rfl rfl ⟨by rw[rj hno],rfl⟩
  .obtain rfl:r=3:=by omega
   try refine ga ?_
   exact D.rd (d+1) ⟨by omega,λi hi=>hall i (by omega)⟩ (by omega)
 .obtain rfl:d=3:=by omega
  try refine ga ?_
  exact Xa [] rfl rfl ⟨by rw[Mi (show YE a b from hall)],rfl⟩
def GJ(v:V9){rg:Int}(c:V3)(h: ¬(0<=rg/\rg<3)):∀k,Si v rg c k=v
 |0=>rfl
 |k+1=>(show Fg (Si v rg c k) _ _ _=_ from if_neg λx=>h ⟨x.2.2.1,x.2.2.2⟩).trans (GJ v c h k)
def ZM(v:V9)(rg:Int)(c:V3):Ct prog 97 [.agg (List.toArray v.enc),rg,.agg (List.toArray c.enc)] [] (λr H'=>r= .agg (List.toArray (Gj v rg c).enc)/\H'=[]):=by
 refine ce func97 λg R=>?_;repeat' first|refine Za ?_|refine Uc λ_=>?_|refine al λ_=>?_
 rename_i b3 b5 b6;refine W.h0 [Ra b6 V9.z,Mc b5 c,Ra b3 (Si v rg c 0),R] ?_;by_cases hg:0<=rg/\rg<3
 .obtain⟨q1,q2⟩:=hg;refine W.lo (α:=Nat) (λk=>k<=3) (λk=>[(1,rg),(3,b3),(5,b5),(6,b6),(7,.int .i64 (k:Int))]) (λk=>[Ra b3 (Si v rg c k),Mc b5 c,Ra b6 V9.z,R]) (λk=>3 - k) 0 (di _) ?_;intro k hk;by_cases hlt:k<3
  .have hn:Si v rg c (k+1)=Fg (Si v rg c k) (k:Int) rg (c.at k):=rfl;rw[Fg,if_pos ⟨by omega,by omega,q1,q2⟩,Int.toNat_natCast] at hn;generalize Si v rg c k=o at hn⊢;have hkk:k*3+rg.toNat<9:=by omega
   have e0:0+((k:Nat):Int).toNat*3+rg.toNat*1=k*3+rg.toNat:=by rw[Int.toNat_natCast];omega
   have g1:o.enc[0+((k:Nat):Int).toNat*3+rg.toNat*1]? =some (.int .i64 (o.at (k*3+rg.toNat))):=by rw[e0,V9.Wd _ hkk]
   have g2:c.enc[0+((k:Nat):Int).toNat*1]? =some (.int .i64 (c.at k)):=by rw[show 0+((k:Nat):Int).toNat*1=k by show 0+k*1=k;omega,V3.Wd _ hlt]
   have g3:o.enc.set (0+((k:Nat):Int).toNat*3+rg.toNat*1) (.int .i64 (mx (o.at (k*3+rg.toNat)) (c.at k)))=(Si v rg c (k+1)).enc:=by rw[e0,V9.tj _ hkk,hn]
   have g4:Nat.blt (0+((k:Nat):Int).toNat*3+rg.toNat*1) o.enc.length=true:=Nat.ble_eq_true_of_le (by rw[e0];show k*3+rg.toNat+1<=9;omega);try refine ga ?_
   refine Wp (ml [12]) [Ra b3 o,Mc b5 c] ?_;repeat' first|refine ga ?_|refine lN o.enc _ rfl ?_ (hc:=g1)|refine lN c.enc _ rfl ?_ (hc:=g2)
   refine ei o.enc (Si v rg c (k+1)).enc ?_ (e:=g3) (hb:=g4);try refine ga ?_
   exact D.re (k+1)
  .obtain rfl:k=3:=by omega
   repeat' first|refine ga ?_|refine Xf (Si v rg c 3).enc (Si v rg c 3).enc ?_|refine xg V9.z.enc (Si v rg c 3).enc ?_
   exact D.Gc [] _ rfl (.Va rfl rfl .nil) ⟨rfl,rfl⟩
 .have he:Gj v rg c=v:=GJ v c hg 3;rw[he,show Si v rg c 0=v from rfl];refine W.lo (α:=Nat) (λk=>k=0) (λk=>[(1,rg),(3,b3),(6,b6),(7,.int .i64 0)]) (λk=>[Ra b3 v,Ra b6 V9.z,R]) (λk=>3 - k) 0 rfl ?_;rintro k rfl;by_cases q1:0<=rg
  .have q2: ¬rg<3:=λh=>hg ⟨q1,h⟩;repeat' first|refine ga ?_|refine Pg v.enc ?_|refine xg V9.z.enc v.enc ?_
   exact D.Gc [] _ rfl (.Va rfl rfl .nil) ⟨rfl,rfl⟩
  .repeat' first|refine ga ?_|refine Pg v.enc ?_|refine xg V9.z.enc v.enc ?_
   exact D.Gc [] _ rfl (.Va rfl rfl .nil) ⟨rfl,rfl⟩
def VF{hv:V9}{e:ya}(he:cM hv e):Ct prog 244 [.agg (List.toArray hv.enc),.agg (List.toArray e.enc)] [] (λr H'=>r= .int .i64 (hv.of e)/\H'=[]):=by
 have hg:=he.at;obtain⟨d1,d2,d3,d4⟩:=he.ch;refine ce func244 λg R=>?_;repeat' first|refine Za ?_|refine Uc λ_=>?_
 refine wq ?_;repeat' first|refine ga ?_|refine lN hv.enc _ rfl ?_ (hc:=hg)
 exact Wi []
variable{s:CS}
def UM(s:CS)(b:Nat){v:Value}{hv:Hp}(hs:Rs s.lg v hv)(hl:s.lg.length<=1000000)(i:Int)(hi: -4611686018427387904<=i/\i<=4611686018427387904):Ct prog 239 [b,i] [ta b s v,hv]
   (λr H'=>r= .tuple #[.agg (List.toArray (if 1<=i/\i<=s.len then s.lg.getD (i.toNat - 1) ya.z else ya.z).enc),.bool (decide (1<=i/\i<=s.len))]/\H'=[ta b s v,hv]):=by
 have hlen:s.len=(s.lg.length:Int):=rfl;obtain⟨p,c,rfl⟩:=hs.len;refine ce func239 λg R=>?_;simp only[can];by_cases h1:1<=i
 .have HU: ¬i<1:=by omega
  by_cases h2:i<=s.len
  .obtain⟨x,hx⟩:∃x,s.lg[(i - 1).toNat]? =some x:=⟨_,Wg (by omega)⟩
   have e1:(if 1<=i/\i<=s.len then s.lg.getD (i.toNat - 1) ya.z else ya.z)=x:=by
    rw[if_pos ⟨h1,h2⟩,getD_eq_getElem?_getD,show i.toNat - 1=(i - 1).toNat by omega,hx];rfl
   rw[e1,Mi (⟨h1,h2⟩:1<=i/\i<=s.len)];have h2': ¬(s.lg.length:Int)<i:=by omega
   repeat' first|refine ga ?_|refine al λ_=>?_|refine Vx hs hx ?_|refine xg ya.z.enc x.enc ?_
   exact D.Bg [ta b s (.slice p s.lg.length c),hv] _ rfl (.Va rfl rfl (.tmp rfl .nil)) rfl ⟨rfl,rfl⟩
  .rw[if_neg (λh=>h2 h.2),rj (λh=>h2 h.2)];have h2':(s.lg.length:Int)<i:=by omega
   repeat' first|refine ga ?_|refine al λ_=>?_|refine jf (t:=49) ya.z.enc ?_|refine xg ya.z.enc ya.z.enc ?_
   exact D.Bg [ta b s (.slice p s.lg.length c),hv] _ rfl (.Va rfl rfl (.tmp rfl .nil)) rfl ⟨rfl,rfl⟩
 .rw[if_neg (λh=>h1 h.1),rj (λh=>h1 h.1)];have HU:i<1:=by omega
  repeat' first|refine ga ?_|refine al λ_=>?_|refine jf (t:=49) ya.z.enc ?_|refine xg ya.z.enc ya.z.enc ?_
  exact D.Bg [ta b s (.slice p s.lg.length c),hv] _ rfl (.Va rfl rfl (.tmp rfl .nil)) rfl ⟨rfl,rfl⟩
def MO(ok:Ob s)(h0:0<=s.ak)(b:Nat)(v:Value):Ct prog 251 [b] [ta b s v] (λr H'=>r= .tuple #[.int .i64 s.IG.1,.bool s.IG.2]/\H'=[ta b s v]):=by
 have Bt:=yo ok.co s.nd;have hd:=ok.du;have hl:=ok.len;have hlen:s.len=(s.lg.length:Int):=rfl;unfold CS.IG;generalize Vc s.co s.nd=bh at Bt⊢;refine ng func251 λg R=>?_;refine wq ?_;by_cases h1:bh<0
 .rw[if_pos (.inl h1)];repeat' first|refine ga ?_|refine Xf (s.cells v) (jc s.co).enc ?_|refine cq Bt ?_
  exact D.Vb [ta b s v] _ rfl rfl rfl ⟨rfl,rfl⟩
 by_cases h2:s.du=0
 .rw[if_pos (.inr h2)];repeat' first|refine ga ?_|refine Xf (s.cells v) (jc s.co).enc ?_|refine cq Bt ?_
  exact D.Vb [ta b s v] _ rfl rfl rfl ⟨rfl,rfl⟩
 rw[if_neg (by omega)];by_cases h3:s.ak<s.du
 .rw[if_pos h3];repeat' first|refine ga ?_|refine Xf (s.cells v) (jc s.co).enc ?_|refine cq Bt ?_
  refine sj ?_;exact D.Vb [ta b s v] _ rfl rfl rfl ⟨rfl,rfl⟩
 .rw[if_neg h3];by_cases h4:s.st<s.du
  .rw[if_pos h4];repeat' first|refine ga ?_|refine Xf (s.cells v) (jc s.co).enc ?_|refine cq Bt ?_
   refine sj ?_;refine sj ?_;exact D.Vb [ta b s v] _ rfl rfl rfl ⟨rfl,rfl⟩
  .rw[if_neg h4];repeat' first|refine ga ?_|refine Xf (s.cells v) (jc s.co).enc ?_|refine cq Bt ?_
   refine sj ?_;refine sj ?_;exact D.Vb [ta b s v] _ rfl rfl rfl ⟨rfl,rfl⟩
def CI(ok:Ob s)(b:Nat)(v:Value):Ct prog 195 [b] [ta b s v] (λr H'=>r= .bool s.XX/\H'=[ta b s v]):=by
 have hil:=wk ok.co b v;unfold CS.XX;by_cases h1:s.last
 .rw[Mi h1] at hil⊢;obtain⟨jo,hj⟩:∃jo,(jc s.co).jo=jo:=⟨_,rfl⟩;rw[hj];refine ng func195 λg R=>?_;refine wq ?_;repeat' first|refine ga ?_|refine cq hil ?_
  refine WX.as 12 (.bool jo) rfl (by rw[<-hj]) ?_;cases jo
  all_goals
   try refine ga ?_
   exact Wi [ta b s v]
 .rw[rj h1] at hil⊢;refine ng func195 λg R=>?_;refine wq ?_;repeat' first|refine ga ?_|refine cq hil ?_
  exact Wi [ta b s v]
def mL(ok:Ni s.co)(b:Nat)(v:Value):Ct prog 177 [b] [ta b s v] (λr H'=>r= .bool (sk s.co s.nd)/\H'=[ta b s v]):=by
 have hf:=oI ok s.nd;refine ng func177 λg R=>?_;refine wq ?_;repeat' first|refine ga ?_|refine Xf (s.cells v) (jc s.co).enc ?_|refine cq hf ?_
 exact Wi [ta b s v]
end Go.Proofs.YthebagfahkebiaaGreat
