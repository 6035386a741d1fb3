/- Texts of one road. -/
import Derived.Test.YthebagfahkebiaaGreatRBI
set_option linter.all false
set_option maxHeartbeats 8000000
set_option maxRecDepth 20000
namespace Go.Proofs.YthebagfahkebiaaGreat
open Go Go.Sl Go.Proofs.Tryz List
variable{s:Ga}{n:ua}{N:Int}
def ua.lay(n:ua):Int×Int×Int×Int×Bool:=(n.Ec,n.rn,n.nn,n.nd,n.s.jb)
def Ga.nY(s:Ga)(key val:ByteArray)(dead:Bool)(deps:V9)(clock cl op:Int):(s.put key val dead deps clock cl op).2.jb=s.jb:=by cases s<;>rfl
def Ga.HV(s:Ga)(fr ep ix:Int)(e:ya):(s.take fr ep ix e).2.jb=s.jb:=by cases s<;>rfl
def Ga.oY(s:Ga)(e:ya):(s.inj e).2.jb=s.jb:=by cases s<;>rfl
def Ga.Uz(s:Ga)(x:Wa):(s.enter x).2.jb=s.jb:=by cases s<;>rfl
def Ga.kS(s:Ga)(f ep du st:Int):(s.heard f ep du st).2.jb=s.jb:=by cases s<;>rfl
def Ga.nN(s:Ga):s.sync.jb=s.jb:=by cases s<;>rfl
def Ga.pY(h:Ke s.ch)(e:ya):(s.inj e).2.ch.st=s.ch.st/\(s.inj e).2.ch.co=s.ch.co/\(s.inj e).2.ch.du=s.ch.du/\(s.inj e).2.ch.su=s.ch.su/\s.ch.lg<+:(s.inj e).2.ch.lg:=by
 cases s with
 |up l c t=>
  have h:Ke c:=h;show(dg l c e).2.1.st=c.st/\(dg l c e).2.1.co=c.co/\(dg l c e).2.1.du=c.du/\(dg l c e).2.1.su=c.su/\c.lg<+:(dg l c e).2.1.lg;unfold dg;split
  .unfold CS.Xb;rw[h.push];repeat' split
   all_goals first|exact⟨rfl,rfl,rfl,rfl,prefix_refl _⟩|exact⟨rfl,rfl,rfl,rfl,prefix_append ..⟩
  .exact⟨rfl,rfl,rfl,rfl,prefix_refl _⟩
 |dn l c q=>exact⟨rfl,rfl,rfl,rfl,prefix_refl _⟩
namespace ua
def Ds:∀(k:Nat) {n:ua} {M:Int},gi n M->Ke n.c->M+k<=1099511627776->(Ld k n).s.jb=n.s.jb/\(Ld k n).c.st=n.c.st/\(Ld k n).c.co=n.c.co/\(Ld k n).c.du=n.c.du/\(Ld k n).c.su=n.c.su/\n.c.lg<+:(Ld k n).c.lg
 |0,n,M,_,_,_=>⟨rfl,rfl,rfl,rfl,rfl,prefix_refl _⟩
 |k+1,n,M,h,hc,hM=>by
  unfold Ld;split
  .obtain⟨a1,a2,a3,a4,a5⟩:=Ga.pY hc (n.hd.getD (Ce n.Wb n.hd).toNat ya.z);obtain⟨b1,b2,b3,b4,b5,b6⟩:=Ds k (h.Ai (by omega) (Ce n.Wb n.hd).toNat) (Ga.qz h.ok hc _) (by omega);exact⟨b1.trans (Ga.oY ..),b2.trans a1,b3.trans a2,b4.trans a3,b5.trans a4,a5.trans b6⟩
  .exact⟨rfl,rfl,rfl,rfl,rfl,prefix_refl _⟩
def Nv(h:We n N)(hN:N+16<=1099511627776):n.pull.s.jb=n.s.jb/\n.pull.c.st=n.c.st/\n.pull.c.co=n.c.co/\n.pull.c.du=n.c.du/\n.pull.c.su=n.c.su/\n.c.lg<+:n.pull.c.lg:=by
 unfold ua.pull;split
 .have:=h.togi.Bf.hl;exact Ds _ h.togi.Bf h.cs (by omega)
 .exact⟨rfl,rfl,rfl,rfl,rfl,prefix_refl _⟩
def cJ(h:Lb n.s.c0 s.c0)(hu:s.jb=n.s.jb):ua.lay {n with s:=s}=n.lay:=by
 show(n.Ec,n.rn,n.nn,s.c0.nd,s.jb)=(n.Ec,n.rn,n.nn,n.s.c0.nd,n.s.jb);rw[h.2.2,hu]
def uu(h:We n N)(hN:N+16<=1099511627776):n.pull.lay=n.lay:=by
 obtain⟨h1,h2,h3,-,-,-,-,h8⟩:=n.Sd;have h9:=(Nv h hN).1;unfold lay;rw[h1,h2,h3,h8,h9]
def IV(n:ua)(m:Da):(n.put m).1.lay=n.lay:=by
 have hl:=cJ (n:=n) (Ga.Fo n.s m.key m.val m.dead m.dp m.ct m.fr.nd m.op) (Ga.nY ..);unfold ua.put;split
 .rfl
 .simp only[];split
  .exact hl
  .split<;>exact hl
def dJ(h:We n N)(hN:N+40<=1099511627776)(hr:0<=n.rg/\n.rg<3)(m:Da):(n.Ka m).1.1.lay=n.lay:=by
 unfold Ka;simp only[];split
 .exact n.IV m
 split
 .rfl
 split
 .split
  .exact cJ (Ga.Dm ..) (Ga.HV ..)
  .rfl
 split
 .exact cJ (Ga.Ek ..) (Ga.kS ..)
 split
 .exact cJ (n:=n) (Ga.Ih n.s m.cf) (Ga.Uz ..)
 split
 .have h1:=h.pull (by omega);refine(uu (h1.zd m.en) (by omega)).trans (Eq.trans ?_ (uu h (by omega)));rw[Sh];rfl
 split
 .split<;>rfl
 split
 .rename_i hc;exact(uu (h.wz hr hc.2.2.2 _) (by omega)).trans rfl
 .rfl
end ua
abbrev ML(hd:List ya):Prop:=hd.Pairwise λx y=> ¬(x.dc=y.dc/\x.rg=y.rg/\x.sq=y.sq)
def ua.fJ:∀(k:Nat) {n:ua},ML n.hd->ML (ua.Ld k n).hd
 |0,_,h=>h
 |k+1,n,h=>by
  unfold ua.Ld;split
  .exact ua.fJ k (h.sublist (eraseIdx_sublist ..))
  .exact h
def ua.vu(h:ML n.hd):ML n.pull.hd:=by
 unfold ua.pull;split
 .exact ua.fJ _ (h.filter _)
 .exact h
def ua.Vz(h:ML n.hd)(e:ya):ML (n.zd e).hd:=by
 unfold ua.zd;split
 .rename_i hc;refine pairwise_append.2 ⟨h,pairwise_singleton ..,λx hx y hy hxy=>?_⟩;rw[mem_singleton.1 hy] at hxy;exact any_eq_false.1 hc.2.2.1 x hx (Mi hxy)
 .exact h
def ua.NL(h:ML n.hd)(m:Da):ML (n.Ka m).1.1.hd:=by
 unfold ua.Ka;simp only[];split
 .rw[(ua.lu (n:=n) m).1];exact h
 split
 .exact h
 split
 .split<;>exact h
 split
 .exact h
 split
 .exact h
 split
 .exact ua.vu (ua.Vz (ua.vu h) _)
 split
 .split<;>exact h
 split
 .exact ua.vu (n:={n with kn:=_}) h
 .exact h
structure gf(n:ua)(N:Int):Prop extends We n N where
 dc:n.dc=0
 rg:n.rg=0
 wt:∀w∈n.ws,n.c.st<w.ix
 dn:n.s.jb=false->n.lost=n
 ds:ML n.hd
def ua.OL(h:We n N)(hN:N+40<=1099511627776)(m:Da):(n.Ka m).1.1.dc=n.dc/\(n.Ka m).1.1.rg=n.rg:=by
 have hi:∀{s:Ga},Lb n.s.c0 s.c0->∀ws,ua.dc {n with s:=s,ws:=ws}=n.dc/\ua.rg {n with s:=s,ws:=ws}=n.rg:=λk _=>⟨k.1,k.2.1⟩;unfold Ka;simp only[];split
 .obtain⟨-,h2,h3,-⟩:=ua.lu (n:=n) m;exact⟨h3,h2⟩
 split
 .exact⟨rfl,rfl⟩
 split
 .split
  .exact hi (Ga.Dm ..) n.ws
  .exact⟨rfl,rfl⟩
 split
 .exact hi (Ga.Ek ..) n.ws
 split
 .exact hi (Ga.Ih ..) _
 split
 .obtain⟨-,-,-,-,-,h6,h7,-⟩:=(n.pull.zd m.en).Sd;obtain⟨-,-,-,-,-,g6,g7,-⟩:=n.Sd;refine⟨h6.trans (Eq.trans ?_ g6),h7.trans (Eq.trans ?_ g7)⟩<;>(rw[ua.Sh];rfl)
 split
 .split<;>exact⟨rfl,rfl⟩
 split
 .obtain⟨-,-,-,-,-,h6,h7,-⟩:=ua.Sd {n with kn:=Gj n.kn m.fr.rg ⟨m.c0,m.c1,m.c2⟩};exact⟨h6,h7⟩
 .exact⟨rfl,rfl⟩
section
variable{n:ua}{N:Int}(h:gf n N)
include h
theorem gf.mono{M:Int}(hM:N<=M):gf n M:={h with toWe:=h.toWe.mono hM}
theorem gf.handle(hN:N+40<=1099511627776)(m:Da):gf (n.handle m).1 (N+40)/\(n.handle m).1.lay=n.lay:=by
 have hr:0<=n.rg/\n.rg<3:=by rw[h.rg];decide
 have h1:=h.toWe.Ka hN hr m;have h2:=ua.dJ h.toWe hN hr m;obtain⟨h3,h4⟩:=ua.OL h.toWe hN m;unfold ua.handle
 cases hu:n.s.jb with
 |false=>rw[if_pos rfl];exact⟨h.mono (by omega),rfl⟩
 |true=>
  rw[if_neg (by decide)];simp only[];refine⟨{toWe:=h1.Qa,dc:=h3.trans h.dc,rg:=h4.trans h.rg,wt:=λw hw=>?_,dn:=λhd=>?_,ds:=ua.NL h.ds m},h2⟩
  .have:=(mem_filter.1 hw).2;have:=of_decide_eq_false (by simpa using this:decide (w.ix<=(n.Ka m).1.1.c.st)=false);show(n.Ka m).1.1.c.st<w.ix;omega
  .have e:(n.Ka m).1.1.s.jb=n.s.jb:=congrArg (λx:Int×Int×Int×Int×Bool=>x.2.2.2.2) h2;have hd:(n.Ka m).1.1.s.jb=false:=hd;rw[e,hu] at hd;cases hd
theorem gf.tick(hN:N+16<=1099511627776):gf n.tick.1 (N+40)/\n.tick.1.lay=n.lay:=by
 obtain⟨p1,p2,-⟩:=ua.Nv h.toWe hN;obtain⟨-,-,-,r4,-,r6,r7,-⟩:=n.Sd;unfold ua.tick
 cases hu:n.s.jb with
 |false=>rw[if_pos rfl];exact⟨h.mono (by omega),rfl⟩
 |true=>
  rw[if_neg (by decide)];exact⟨{toWe:=(h.toWe.pull hN).mono (by omega),ds:=ua.vu h.ds,dc:=r6.trans h.dc,rg:=r7.trans h.rg,wt:=(by intro w hw;rw[show(n.pull,n.yz).1=n.pull from rfl] at hw⊢;rw[p2];rw[r4] at hw;exact h.wt w hw),dn:=(by intro hd;have hd:n.pull.s.jb=false:=hd;rw[p1,hu] at hd;cases hd)},ua.uu h.toWe hN⟩
theorem gf.flush:gf n.flush.1 N/\n.flush.1.lay=n.lay:=by
 have hid:=Ga.Qj n.s
 have o2:Ke n.s.sync.ch:=by
  have:=h.cs;revert this;unfold ua.c
  cases hs:n.s with
  |up l c t=>intro k;exact k.sync (by have:=h.xb;unfold ua.c at this;rw[hs] at this;exact this)
  |dn l c q=>intro k;exact k
 have h1:=h.toWe.PI hid h.ok.sync o2;unfold ua.flush
 cases hu:n.s.jb with
 |false=>rw[if_pos rfl];exact⟨h,rfl⟩
 |true=>
  rw[if_neg (by decide)];simp only[];refine⟨{toWe:=h1.Qa,dc:=hid.1.trans h.dc,rg:=hid.2.1.trans h.rg,wt:=λw hw=>?_,dn:=λhd=>?_,ds:=h.ds},ua.cJ hid (Ga.nN ..)⟩
  .have:=(mem_filter.1 hw).2;have:=of_decide_eq_false (by simpa using this:decide (w.ix<=(ua.c {n with s:=n.s.sync}).st)=false);show(ua.c {n with s:=n.s.sync}).st<w.ix;omega
  .have hd:n.s.sync.jb=false:=hd;rw[Ga.nN,hu] at hd;cases hd
theorem gf.collect:gf n.collect N/\n.collect.lay=n.lay:=by
 unfold ua.collect
 cases hu:n.s.jb with
 |false=>rw[if_pos rfl];exact⟨h,rfl⟩
 |true=>
  rw[if_neg (by decide)];exact⟨{h with dn:=λhd=>by rw[show({n with mr:=_}:ua).s.jb=n.s.jb from rfl,hu] at hd;cases hd},rfl⟩
theorem gf.Dc(keep:Int):gf (n.Dc keep) N/\(n.Dc keep).Ec=n.Ec/\(n.Dc keep).rn=n.rn/\(n.Dc keep).nn=n.nn/\(n.Dc keep).nd=n.nd:=by
 unfold ua.Dc
 cases hu:n.s.jb with
 |false=>rw[if_pos rfl];exact⟨h,rfl,rfl,rfl,rfl⟩
 |true=>
  rw[if_neg (by decide)];have hid:=Ga.jq n.s keep
  have hcs:Ke (n.s.Dc keep).ch:=by
   have:=h.cs;revert this hu;unfold ua.c
   cases n.s with
   |up l c t=>intro _ _;exact Ke.new ..
   |dn l c q=>intro hu;cases hu
  refine⟨⟨⟨⟨h.ok.Dc keep,di _,λe he=>(nomatch he),λk hk=>?_⟩,hcs,di _,λx hx=>(nomatch hx),h.nn,h.dd,h.rr⟩,hid.1.trans h.dc,hid.2.1.trans h.rg,λx hx=>(nomatch hx),λ_=>rfl,.nil⟩,rfl,rfl,rfl,hid.2.2⟩;show V9.z.at (k*3+(n.s.Dc keep).c0.rg.toNat)=0;have h0:n.s.c0.rg=0:=h.rg;rw[hid.2.1,h0];exact V9.JV (by show k*3+0<9;omega)
theorem Sj.cs{s s':Ga}{M:Int}(ok:s.ok M)(k:Sj s s')(hc:Ke s.ch):Ke s'.ch/\Lb s.c0 s'.c0/\s'.jb=true:=by
 have _:=h
 cases s with
 |up l c t=>cases k;exact⟨hc,Lb.refl _,rfl⟩
 |dn l c q=>
  obtain⟨l',t',rfl,Vu,hf,h1,h2,h3,-,h4⟩:=k;have hr:=(LI.kN (show LI l c M from ok) Vu hf h1 h2 h3 h4).2.1;have hk:Ob c:=LI.ok (show LI l c M from ok);have tg:=hk.len;refine⟨?_,RI c _,rfl⟩;show Ke (c.again (Ua l'));rw[hr];exact Ke.restore (by rw[Oe];omega) λe he=>hk.es e (mem_of_mem_take he)
theorem gf.start{s':Ga}(Vu:s'.ok N)(k:Sj n.s s'):gf {n with s:=s'} N/\Lb n.s.c0 s'.c0:=by
 obtain⟨h1,h2,h3⟩:=Sj.cs h h.ok k h.cs;refine⟨{toWe:=h.toWe.PI h2 Vu h1,dc:=h2.1.trans h.dc,rg:=h2.2.1.trans h.rg,wt:=λw hw=>?_,dn:=λhd=>?_,ds:=h.ds},h2⟩
 .cases hu:n.s.jb with
  |true=>
   have hs:s'=n.s:=by
    revert k hu
    cases n.s with
    |up l c t=>intro k _;exact k
    |dn l c q=>intro _ hu;cases hu
   show s'.ch.st<w.ix
   rw[hs];exact h.wt w hw
  |false=>
   have hw:w∈n.ws:=hw;rw[<-h.dn hu] at hw;exact nomatch hw
 .have hd:s'.jb=false:=hd;rw[h3] at hd;cases hd
end
def ua.oS(n:ua)(a:Ir):Da:=
 if a.k=7 then{a.m with kind:=7,fr:=n.at_ (Nd n.c.co n.nd),ep:=n.ep,ix:=n.c.len+1}
 else if a.k=8 then{a.m with kind:=8,fr:=n.at_ (Vc n.c.co n.nd),ep:=n.ep,ct:=n.c.du,ix:=n.c.du}
 else{a.m with ep:=n.ep}
section
variable{n:ua}{N T:Int}(ok:gf n N){b bd:Nat}{h hd:Hp}(Fp:Cg n bd T hd)
include ok Fp
theorem HF(a:Ir):Ct prog 14 [.agg (List.toArray a.enc),bd] [hd] (λr H'=>r= .agg (List.toArray (n.oS a).enc)/\H'=[hd]):=by
 obtain⟨vo,gb,hb,sb,vw,hl,hw,v,hh,rfl,at_⟩:=Fp;have hm0:=at_.lg;obtain⟨cb,d,w,tn,u,hv,X,rfl,Ue⟩:=ua.HI at_.lg;obtain⟨pu,cu,rfl⟩:=Ue.rs.len;have Ix:n.c.nd=n.nd:=(Ga.ur n.s).1;have hlen:n.c.len=(n.c.lg.length:Int):=rfl;have tg:=ok.xb.len;have k1:=Hq ok.xb.co n.nd;have k2:=yo ok.xb.co n.nd;obtain⟨a1,JU⟩:∃x,Nd n.c.co n.nd=x:=⟨_,rfl⟩;obtain⟨a2,ha2⟩:∃x,Vc n.c.co n.nd=x:=⟨_,rfl⟩;unfold ua.oS;rw[JU,ha2];rw[JU,<-Ix] at k1;rw[ha2,<-Ix] at k2;refine ce func14 λg R=>?_;simp only[can];refine W.f0 [Ca bd n gb hb sb vw vo,vb n gb cb d w tn,ta cb n.c (.slice pu n.c.lg.length cu),hv,X,hw,Oa hb n.rg v,hh,Ta sb n.dc n.rc,R] ?_;repeat' first|refine ga ?_|refine Uc λ_=>?_|refine al λ_=>?_|refine WX.Ea (i:=2) (cs:=a.enc) (vs:=a.m.enc) rfl rfl rfl rfl ?_|refine xg Da.z.enc a.m.enc ?_
 rename_i b2 b4 b6;refine ei (Da.enc a.m) (Da.enc {a.m with ep:=n.ep}) ?_;by_cases q7:a.k=7
 .rw[if_pos q7];try refine ga ?_
  refine ei (Da.enc {a.m with ep:=n.ep}) (Da.enc {a.m with kind:=7,ep:=n.ep}) ?_;repeat' first|refine ga ?_|refine bn bd 4 (n.mc gb hb sb vw vo) n.self.enc ?_
  refine WX.qd (vs:=n.self.enc) (b:=b6) (i:=1) (cs:=Da.enc {a.m with kind:=7,ep:=n.ep}) rfl rfl rfl rfl rfl rfl ?_;rw[Da.nL];try refine ga ?_
  refine Wp (ml [8,1]) [ta cb n.c (.slice pu n.c.lg.length cu)] ?_;repeat' first|refine ga ?_|refine Xf (n.c.cells (.slice pu n.c.lg.length cu)) (jc n.c.co).enc ?_|refine cq k1 ?_
  refine ei (Da.enc {a.m with kind:=7,ep:=n.ep,fr:=n.self}) (Da.enc {a.m with kind:=7,ep:=n.ep,fr:=n.at_ a1}) ?_;try refine ga ?_
  refine ei (Da.enc {a.m with kind:=7,ep:=n.ep,fr:=n.at_ a1}) (Da.enc {a.m with kind:=7,fr:=n.at_ a1,ep:=n.ep,ix:=n.c.len+1}) ?_;repeat' first|refine ga ?_|refine Pg (Da.enc {a.m with kind:=7,fr:=n.at_ a1,ep:=n.ep,ix:=n.c.len+1}) ?_|refine xg Da.z.enc (Da.enc {a.m with kind:=7,fr:=n.at_ a1,ep:=n.ep,ix:=n.c.len+1}) ?_
  refine D.Vd [Yb b4 {a.m with kind:=7,fr:=n.at_ a1,ep:=n.ep,ix:=n.c.len+1},Ca bd n gb hb sb vw vo,vb n gb cb d w tn,ta cb n.c (.slice pu n.c.lg.length cu),hv,X,hw,Oa hb n.rg v,hh,Ta sb n.dc n.rc,R] (H2:=[Yb b4 {a.m with kind:=7,fr:=n.at_ a1,ep:=n.ep,ix:=n.c.len+1},Hh bd n gb hb sb vw vo (vb n gb cb d w tn++(ta cb n.c (.slice pu n.c.lg.length cu)++(hv++X))) hw v hh,R]) (by simp) ?_;exact D.Gc [Hh bd n gb hb sb vw vo (vb n gb cb d w tn++(ta cb n.c (.slice pu n.c.lg.length cu)++(hv++X))) hw v hh] _ rfl (.Va rfl rfl .nil) ⟨rfl,rfl⟩
 rw[if_neg q7];by_cases q8:a.k=8
 .rw[if_pos q8];try refine ga ?_
  refine ei (Da.enc {a.m with ep:=n.ep}) (Da.enc {a.m with kind:=8,ep:=n.ep}) ?_;repeat' first|refine ga ?_|refine bn bd 4 (n.mc gb hb sb vw vo) n.self.enc ?_
  refine WX.qd (vs:=n.self.enc) (b:=b6) (i:=1) (cs:=Da.enc {a.m with kind:=8,ep:=n.ep}) rfl rfl rfl rfl rfl rfl ?_;rw[Da.nL];try refine ga ?_
  refine Wp (ml [8,1]) [ta cb n.c (.slice pu n.c.lg.length cu)] ?_;repeat' first|refine ga ?_|refine Xf (n.c.cells (.slice pu n.c.lg.length cu)) (jc n.c.co).enc ?_|refine cq k2 ?_
  refine ei (Da.enc {a.m with kind:=8,ep:=n.ep,fr:=n.self}) (Da.enc {a.m with kind:=8,ep:=n.ep,fr:=n.at_ a2}) ?_;try refine ga ?_
  refine ei (Da.enc {a.m with kind:=8,ep:=n.ep,fr:=n.at_ a2}) (Da.enc {a.m with kind:=8,fr:=n.at_ a2,ep:=n.ep,ct:=n.c.du}) ?_;try refine ga ?_
  refine ei (Da.enc {a.m with kind:=8,fr:=n.at_ a2,ep:=n.ep,ct:=n.c.du}) (Da.enc {a.m with kind:=8,fr:=n.at_ a2,ep:=n.ep,ct:=n.c.du,ix:=n.c.du}) ?_;repeat' first|refine ga ?_|refine Pg (Da.enc {a.m with kind:=8,fr:=n.at_ a2,ep:=n.ep,ct:=n.c.du,ix:=n.c.du}) ?_|refine xg Da.z.enc (Da.enc {a.m with kind:=8,fr:=n.at_ a2,ep:=n.ep,ct:=n.c.du,ix:=n.c.du}) ?_
  refine D.Vd [Yb b4 {a.m with kind:=8,fr:=n.at_ a2,ep:=n.ep,ct:=n.c.du,ix:=n.c.du},Ca bd n gb hb sb vw vo,vb n gb cb d w tn,ta cb n.c (.slice pu n.c.lg.length cu),hv,X,hw,Oa hb n.rg v,hh,Ta sb n.dc n.rc,R] (H2:=[Yb b4 {a.m with kind:=8,fr:=n.at_ a2,ep:=n.ep,ct:=n.c.du,ix:=n.c.du},Hh bd n gb hb sb vw vo (vb n gb cb d w tn++(ta cb n.c (.slice pu n.c.lg.length cu)++(hv++X))) hw v hh,R]) (by simp) ?_;exact D.Gc [Hh bd n gb hb sb vw vo (vb n gb cb d w tn++(ta cb n.c (.slice pu n.c.lg.length cu)++(hv++X))) hw v hh] _ rfl (.Va rfl rfl .nil) ⟨rfl,rfl⟩
 rw[if_neg q8];repeat' first|refine ga ?_|refine Pg (Da.enc {a.m with ep:=n.ep}) ?_|refine xg Da.z.enc (Da.enc {a.m with ep:=n.ep}) ?_
 refine D.Vd [Yb b4 {a.m with ep:=n.ep},Ca bd n gb hb sb vw vo,vb n gb cb d w tn,ta cb n.c (.slice pu n.c.lg.length cu),hv,X,hw,Oa hb n.rg v,hh,Ta sb n.dc n.rc,R] (H2:=[Yb b4 {a.m with ep:=n.ep},Hh bd n gb hb sb vw vo (vb n gb cb d w tn++(ta cb n.c (.slice pu n.c.lg.length cu)++(hv++X))) hw v hh,R]) (by simp) ?_;exact D.Gc [Hh bd n gb hb sb vw vo (vb n gb cb d w tn++(ta cb n.c (.slice pu n.c.lg.length cu)++(hv++X))) hw v hh] _ rfl (.Va rfl rfl .nil) ⟨rfl,rfl⟩
end
variable{n:ua}{N:Int}
namespace ua
def Es(h:gf n N)(hN:N+40<=1099511627776)(m:Da):(n.handle m).2.length<=1000:=by
 have hr:0<=n.rg/\n.rg<3:=by rw[h.rg];decide
 have h1:=uL h.nn.2 m;have h2:=Oq (n:=(n.Ka m).1.1) (h.toWe.Ka hN hr m).wl n.c.du n.c.st n.c.ak;have h3:=(n.Ka m).1.1.Qa.Jg;unfold handle;split
 .exact di _
 .simp only[Eb];split<;>(try simp only[td])<;>omega
def Fs{f:Nat->List Da}{c:Nat}(h:∀k,(f k).length<=c):∀k,((List.range k).map f).flatten.length<=c*k
 |0=>di _
 |k+1=>by
  rw[range_succ,He,flatten_append,Eb,Nat.mul_succ];have h1:=Fs h k;have h2:=h k;simp only[map_cons,map_nil,flatten_cons,flatten_nil,append_nil];omega
def gJ(h:We n N)(hN:N+16<=1099511627776):n.tick.2.length<=100000:=by
 have Eg:=h.pull hN;have Ah:∀kind x r C,(n.pull.Ri kind x r C).length<=100:=λkind x r C=>by unfold ua.Ri;rw[bf,length_range];have:=Eg.nn;omega
 have hsh:∀x,(n.pull.Df x).length<=100:=λx=>Ev Eg.nn.2 x
 have h1:=Fs (c:=200) (f:=λ(x:Nat)=>if(x:Int)=n.dc then[] else n.pull.Df (x:Int)++n.pull.Ri 13 (x:Int) n.rg (Bc n.rg n.pull.Kb)) (λk=>by
  have a:=hsh (k:Int);have b:=Ah 13 (k:Int) n.rg (Bc n.rg n.pull.Kb)
  (try simp only[]);split
  .exact di _
  .rw[Eb];omega) n.Ec.toNat
 have h2:=Fs (c:=100) (f:=λ(r:Nat)=>if(r:Int)=n.rg then[] else n.pull.Ri 14 n.dc (r:Int) (Bc n.rg n.pull.Kb)) (λk=>by
  (try simp only[]);split
  .exact di _
  .exact Ah ..) n.rn.toNat
 have g1:=n.pull.Ug;have g2:=n.pull.Rj;have g3:=n.pull.Jg;have d1:n.Ec.toNat<=100:=by have:=h.dd;omega
 have d2:n.rn.toNat<=100:=by have:=h.rr;omega
 unfold tick;split
 .exact di _
 .show n.yz.length<=100000;unfold yz;simp only[Ib,Eb];split
  .simp only[td];omega
  .rw[Eb];omega
def IF(h:We n N):n.flush.2.length<=1000:=by
 have h1:=Oq (n:={n with s:=n.s.sync}) h.wl n.c.du n.c.st n.c.ak;unfold flush;split
 .exact di _
 .simp only[];omega
end ua
structure iJ(n n':ua)(N:Int):Prop where
 ok:gf n' N
 Ec:n'.Ec=n.Ec
 rn:n'.rn=n.rn
 nn:n'.nn=n.nn
 nd:n'.nd=n.nd
def iJ.of{n':ua}(ok:gf n' N)(h:n'.lay=n.lay):iJ n n' N:=by
 unfold ua.lay at h;injection h with h1 h2
 injection h2 with h2 h3
 injection h3 with h3 h4
 injection h4 with h4 h5
 exact⟨ok,h1,h2,h3,h4⟩
abbrev KV(b:Nat)(a:Ir):Hp:=[(b,.cells (List.toArray a.enc) 54 (0,0))]
section
variable{n:ua}{N T:Int}(ok:gf n N)(hN:N+40<=1099511627776)(Qh:0<=T)(hT:T+8000<=68719476736){b bd:Nat}{h hd:Hp}(hm:vf n b h)(Fp:Cg n bd T hd)
include ok hN Qh hT hm Fp
theorem jJ(a:Ir)(ha: -9223372036854775808<=a.n/\a.n<=9223372036854775807):Ct prog 37 [b,bd,.agg (List.toArray a.enc)] [h,hd]
  (λr H'=>r= .bool true/\∃n' h' hd',iJ n n' (N+40)/\vf n' b h'/\Cg n' bd (T+8000) hd'/\H'=[h',hd']):=by
 have hr:0<=n.rg/\n.rg<3:=by rw[ok.rg];decide
 have hdc:0<=n.dc/\n.dc<3:=by rw[ok.dc];decide
 have hmono:∀{n':ua} {x:Hp},Cg n' bd T x->Cg n' bd (T+8000) x:=λ⟨vo,gb,hb,sb,vw,hl,hw,v,hh,e,at_⟩=>⟨vo,gb,hb,sb,vw,hl,hw,v,hh,e,at_.mono (by omega)⟩;have kh:=λm=>kj hm ok.toWe hN hr hdc m;have Gs:=λm=>iq Fp ok.toWe hN Qh hT hr hdc m;refine ce func37 λg R=>?_;repeat' first|refine Za ?_|refine Uc λ_=>?_
 rename_i b5;by_cases q1:a.k=1
 .have kl:=ua.Es ok hN a.m;obtain⟨k1,k2⟩:=ok.handle hN a.m;have kh:=kh a.m;have Gs:=Gs a.m;generalize n.handle a.m=r at kl k1 k2 kh Gs;obtain⟨n1,ms⟩:=r;try refine ga ?_
  refine W.h0 [KV b5 a,h,hd,R] ?_;refine Wp (ml [3,1,3,2]) [KV b5 a] ?_;repeat' first|refine ga ?_|refine bn b5 2 a.enc a.m.enc ?_
  refine ck kh ?_;rintro v1 _ ⟨h1,h2,hs1,xe,rfl⟩;repeat' first|refine Za ?_|refine bn b5 2 a.enc a.m.enc ?_
  refine ck Gs ?_;rintro v2 _ ⟨h3,h4,Cc,WB,rfl⟩;refine Za ?_;refine cq (qy hs1.rs Cc.rs (by omega)) ?_;try refine ga ?_
  exact Xa [h2,h4] rfl rfl ⟨rfl,_,_,_,iJ.of k1 k2,xe,WB,rfl⟩
 by_cases q2:a.k=2
 .have kl:=ua.gJ ok.toWe (by omega);obtain⟨k1,k2⟩:=ok.tick (by omega);have kh:=kJ hm ok.toWe (by omega);have Gs:=zF Fp ok.toWe (by omega) Qh hT;generalize n.tick=r at kl k1 k2 kh Gs;obtain⟨n1,ms⟩:=r;try refine ga ?_
  refine ck kh ?_;rintro v1 _ ⟨h1,h2,hs1,xe,rfl⟩;refine Za ?_;refine ck Gs ?_;rintro v2 _ ⟨h3,h4,Cc,WB,rfl⟩;simp only[can];refine cq (qy hs1.rs Cc.rs (by omega)) ?_;try refine ga ?_
  exact Xa [h2,h4] rfl rfl ⟨rfl,_,_,_,iJ.of k1 k2,xe,WB,rfl⟩
 by_cases q3:a.k=3
 .have kl:=ua.IF ok.toWe;obtain⟨k1,k2⟩:=ok.flush;have k1:=k1.mono (M:=N+40) (by omega);have kh:=Ov hm ok.toWe;have Gs:=xz Fp ok.toWe Qh hT;generalize n.flush=r at kl k1 k2 kh Gs;obtain⟨n1,ms⟩:=r;try refine ga ?_
  refine ck kh ?_;rintro v1 _ ⟨h1,h2,hs1,xe,rfl⟩;refine Za ?_;refine ck Gs ?_;rintro v2 _ ⟨h3,h4,Cc,WB,rfl⟩;simp only[can];refine cq (qy hs1.rs Cc.rs (by omega)) ?_;try refine ga ?_
  exact Xa [h2,h4] rfl rfl ⟨rfl,_,_,_,iJ.of k1 k2,xe,WB,rfl⟩
 by_cases q4:a.k=4
 .obtain⟨k1,k2,k3,k4,k5⟩:=ok.Dc a.n;have kh:=JF hm ok.toWe ok.dn ha.1 ha.2;have Gs:=Az Fp ok.toWe Qh hT ha.1 ha.2;try refine ga ?_
  refine ck kh ?_;rintro _ _ ⟨rfl,h1,xe,rfl⟩;refine Za ?_;refine ck Gs ?_;rintro _ _ ⟨rfl,h2,hm2,rfl⟩;refine Za ?_;exact Xa [h1,h2] rfl rfl ⟨rfl,_,_,_,⟨k1.mono (by omega),k2,k3,k4,k5⟩,xe,hmono hm2,rfl⟩
 by_cases q5:a.k=5
 .obtain⟨s',Vu,hst,g1,g2⟩:=zz ok.ok;obtain⟨k1,hid⟩:=ok.start Vu hst;have Gs:=Bz Fp ok.toWe Qh hT hid g2;obtain⟨lb,hb,sb,vw,hl,hw,v,hh,rfl,at_⟩:=hm;have kh:=g1 at_.lg;obtain⟨n1,ic⟩:∃n1:ua,n1={n with s:=s'}:=⟨_,rfl⟩;have e1:za b n lb hb sb vw=za b n1 lb hb sb vw:=by rw[ic];exact(n.ai hid ..).symm
  have p1:n1.hd=n.hd/\n1.rg=n.rg/\n1.dc=n.dc/\n1.rc=n.rc/\n1.ws=n.ws/\n1.s=s'/\n1.Ec=n.Ec/\n1.rn=n.rn/\n1.nn=n.nn/\n1.nd=n.nd:=by rw[ic];exact⟨rfl,hid.2.1,hid.1,rfl,rfl,rfl,rfl,rfl,rfl,hid.2.2⟩
  obtain⟨p1,p2,p3,p4,p5,p6,p7,p8,p9,p10⟩:=p1;rw[<-ic] at k1 Gs;rw[<-p6] at kh;refine W.f0 [KV b5 a,za b n lb hb sb vw,hl,hw,Fa hb n.rg v,hh,Ja sb n.dc n.rc,hd,R] ?_;try refine ga ?_
  refine ck kh ?_;rintro _ _ ⟨rfl,l1,rfl,cg⟩;refine Za ?_;refine ck Gs ?_;rintro _ _ ⟨rfl,h2,hm2,rfl⟩;refine Za ?_;rw[e1];refine D.Vd [za b n1 lb hb sb vw,l1,hw,Fa hb n.rg v,hh,Ja sb n.dc n.rc,h2,R] (H2:=[za b n1 lb hb sb vw++(l1++(hw++(Fa hb n.rg v++(hh++Ja sb n.dc n.rc)))),h2,R]) (by simp) ?_;exact Xa [za b n1 lb hb sb vw++(l1++(hw++(Fa hb n.rg v++(hh++Ja sb n.dc n.rc)))),h2] rfl rfl ⟨rfl,_,_,_,⟨k1.mono (by omega),p7,p8,p9,p10⟩,vf.of p1 p2 p3 p4 cg (by rw[p5];exact at_.ws) at_.hd,hmono hm2,rfl⟩
 by_cases q6:a.k=6
 .obtain⟨k1,k2⟩:=ok.collect;have kh:=lJ hm ok.toWe;have Gs:=JG Fp ok.toWe;try refine ga ?_
  refine ck kh ?_;rintro _ _ ⟨rfl,h1,xe,rfl⟩;refine Za ?_;refine ck Gs ?_;rintro _ _ ⟨rfl,h2,hm2,rfl⟩;refine Za ?_;exact Xa [h1,h2] rfl rfl ⟨rfl,_,_,_,iJ.of (k1.mono (by omega)) k2,xe,hmono hm2,rfl⟩
 have kt:=HF ok Fp a;generalize n.oS a=m at kt;have kl:=ua.Es ok hN m;obtain⟨k1,k2⟩:=ok.handle hN m;have kh:=kh m;have Gs:=Gs m;by_cases q7:a.k=7\/a.k=8\/a.k=9
 .generalize n.handle m=r at kl k1 k2 kh Gs;obtain⟨n1,ms⟩:=r;refine W.h0 [KV b5 a,h,hd,R] ?_;rcases q7 with q7|q7|q7
  all_goals
   have q8:a.k=7\/ ¬a.k=7:=Classical.em _;have q9:a.k=8\/ ¬a.k=8:=Classical.em _;rcases q8 with q8|q8<;>rcases q9 with q9|q9
  all_goals try(exfalso;omega)
  all_goals
   repeat' first|refine ga ?_|refine al λ_=>?_|refine Pg a.enc ?_|refine cq kt ?_|refine xg Da.z.enc m.enc ?_
   rename_i b7;refine Wp (ml [2,1,2,2]) [Yb b7 m] ?_;repeat' first|refine ga ?_|refine Pg m.enc ?_
   refine ck kh ?_;rintro v1 _ ⟨h1,h2,hs1,xe,rfl⟩;repeat' first|refine Za ?_|refine Pg m.enc ?_
   refine ck Gs ?_;rintro v2 _ ⟨h3,h4,Cc,WB,rfl⟩;refine Za ?_;refine cq (qy hs1.rs Cc.rs (by omega)) ?_;try refine ga ?_
   exact Xa [h2,h4] rfl rfl ⟨rfl,_,_,_,iJ.of k1 k2,xe,WB,rfl⟩
 .have q8: ¬a.k=7:=λx=>q7 (.inl x);have q9: ¬a.k=8:=λx=>q7 (.inr (.inl x));have j6: ¬a.k=9:=λx=>q7 (.inr (.inr x));try refine ga ?_
  exact Xa [h,hd] rfl rfl ⟨rfl,n,h,hd,⟨ok.mono (by omega),rfl,rfl,rfl,rfl⟩,hm,hmono Fp,rfl⟩
end
variable{n:Int}{k:Nat}
def KF{rs:List Rec}(hg:∀r∈rs,r.code=0):(bytes rs).length<=300*rs.length:=by
 induction rs with
 |nil=>exact di _
 |cons r t ih=>
  have h1:=(Rec.good (hg r (qf ..))).Jh;have h2:=ih λx hx=>hg x (Vn _ hx);rw[ve,Eb,Ib];omega
def pS{rs:List Rec}(hg:∀r∈rs,r.code=0)(hl:rs.length<=10){m:Int}(m0:0<=m)(m1:m<=2):Ee [⟨n,rs,k⟩] m=true:=by
 have h:=KF hg;unfold Ee;rw[decide_eq_true_iff,Se];simp only[map_cons,map_nil,sum_cons,sum_nil,Ib,td];omega
def qS{rs:List Rec}{r:Rec}(hg:∀r∈rs,r.code=0)(hl:rs.length<=10)(hc:r.code=0):(Db [⟨n,rs,k⟩] r).1=[⟨n,rs++[r],k⟩]:=by
 have h:=KF hg;have hle:=(Rec.good hc).Jh;unfold Db;rw[if_neg (by simpa using hc)];simp only[List.getLast?_singleton,dropLast_singleton];rw[if_neg (by omega),if_neg (by rw[Se];simp only[map_cons,map_nil,sum_cons,sum_nil];omega)];rfl
def vj:Wa:=(Kc 1).cfg
def E0:ByteArray:=⟨#[107]⟩
def F0:ByteArray:=⟨#[118]⟩
def Wz:CS:=⟨0,0,0,some (Kc 1),1,0,[],0,0,0,0,true⟩
def SG:ya:=⟨0,0,1,1,0,0,E0,F0,false,V9.z,0,1⟩
def rS:CS:=⟨0,0,0,some (Kc 1),1,0,[SG],0,0,0,0,true⟩
def qY:CS:=⟨0,0,0,some (Kc 1),1,0,[SG],1,1,0,0,true⟩
def sS:(CS.new 0 0 0).enter vj=((true,0),Wz):=by kernel_rfl
def LV:Wz.Zf E0 F0 false V9.z 0 0 1=((1,0),rS):=by kernel_rfl
def MV:rS.sync=qY:=by kernel_rfl
def m6:Ga:= .up [] (CS.new 0 0 0) 0
def IE(rs:List Rec)(k:Nat):List Lf:=[⟨1,rs,k⟩]
def sP:Md vj:=Jv (tS (by decide) (by decide))
def mJ:(ee vj 0).code=0:=Hv sP (Int.le_refl 0) (by decide)
def J2:ud SG:=by decide+kernel
def uS:m6.enter vj=((true,0),.up (IE [Qc,ee vj 0] 2) Wz 0):=by
 have hr:Ee [] 2=true:=by decide
 have h:Lc [] (CS.new 0 0 0) vj=((true,0),Wz,IE [Qc,ee vj 0] 2):=by
  unfold Lc;rw[if_pos hr,sS,if_pos rfl];show((true,(0:Int)),Wz,Ze (Db (Tj []).1 (ee vj 0)).1)=_;rw[Fv Ie.nil hr (by decide) (by decide)];show((true,(0:Int)),Wz,Ze (Db [⟨1,[Qc],1⟩] (ee vj 0)).1)=_;rw[Lz mJ];rfl
 show((Lc [] (CS.new 0 0 0) vj).1,Ga.up (Lc [] (CS.new 0 0 0) vj).2.2 (Lc [] (CS.new 0 0 0) vj).2.1 0)=_;rw[h]
def L2:∀r∈[Qc,ee vj 0],r.code=0:=by
 intro r hr;rcases mem_cons.1 hr with rfl|hr
 .exact Yh
 .rw[mem_singleton.1 hr];exact mJ
def rY{rs:List Rec}(hg:∀r∈rs,r.code=0)(hl:rs.length<=10){c c':CS}{key val:ByteArray}{op:Int}{r:Int×Int}{e:ya}(hp:c.Zf key val false V9.z 0 0 op=(r,c'))(he:c'.lg=c.lg++[e])(hr:ud e):
  (Ga.up (IE rs k) c 0).put key val false V9.z 0 0 op=(r,.up (IE (rs++[Km e]) k) c' 0):=by
 have hrm:Ee (IE rs k) 1=true:=pS hg hl (by decide) (by decide)
 have h:jd (IE rs k) c key val false V9.z 0 0 op=(r,c',IE (rs++[Km e]) k):=by
  unfold jd;rw[if_pos hrm,hp];simp only[];rw[As _ c c' e he];unfold IE;rw[qS hg hl (jF hr)]
 show((jd (IE rs k) c key val false V9.z 0 0 op).1,Ga.up (jd (IE rs k) c key val false V9.z 0 0 op).2.2 (jd (IE rs k) c key val false V9.z 0 0 op).2.1 0)=_;rw[h]
def vS:(m6.enter vj).2.put E0 F0 false V9.z 0 0 1=((1,0),.up (IE [Qc,ee vj 0,Km SG] 2) rS 0):=by
 rw[uS];exact rY L2 (by decide) LV rfl J2
def N2:((m6.enter vj).2.put E0 F0 false V9.z 0 0 1).2.sync= .up (IE [Qc,ee vj 0,Km SG] 3) qY 0:=by
 rw[vS];show Ga.up (Ze (IE [Qc,ee vj 0,Km SG] 2)) rS.sync 0=_;rw[MV];rfl
def YB(s:Ga)(ws:List Wt):ua:=⟨1,1,1,1,s,ws,[],V9.z,V3.z,V3.z⟩
def fF:Ki:=⟨3,0,0,0⟩
def HQ:Da:={Da.z with kind:=3,fr:=fF,ep:=1,op:=1,tr:=1,key:=E0,val:=F0}
def nJ:Ga:= .up (IE [Qc,ee vj 0,Km SG] 2) rS 0
def Lx:Ga:= .up (IE [Qc,ee vj 0,Km SG] 3) qY 0
def sY:ua.new 1 1 1 1 0 0 0=YB (.up (IE [Qc,ee vj 0] 2) Wz 0) []:=by
 show YB ((m6.enter vj).2) []=_;rw[uS]
def LF:(ua.new 1 1 1 1 0 0 0).handle HQ=(YB nJ [⟨fF,1,1,1⟩],[]):=by
 have hp:(Ga.up (IE [Qc,ee vj 0] 2) Wz 0).put E0 F0 false V9.z 0 0 1=((1,0),nJ):=by
  have h:=vS;rw[uS] at h;exact h
 rw[sY];unfold ua.handle;rw[show(YB (.up (IE [Qc,ee vj 0] 2) Wz 0) []).s.jb=true from rfl,if_neg (by decide)]
 have h0:(YB (.up (IE [Qc,ee vj 0] 2) Wz 0) []).Ka HQ=((YB nJ [⟨fF,1,1,1⟩],[]),false):=by
  rw[ua.rL rfl];unfold ua.put;rw[if_neg (by decide+kernel)];show(_,false)=_;rw[show(YB (.up (IE [Qc,ee vj 0] 2) Wz 0) []).s.put HQ.key HQ.val HQ.dead HQ.dp HQ.ct HQ.fr.nd HQ.op=((1,0),nJ) from hp];rfl
 simp only[];rw[h0];rfl
def o6:Da:={Da.z with kind:=4,fr:=⟨1,0,0,0⟩,to:=fF,op:=1,tr:=1,has:=true,en:=SG}
def oJ:(YB nJ [⟨fF,1,1,1⟩]).flush=(YB Lx [],[o6]):=by
 unfold ua.flush;rw[show(YB nJ [⟨fF,1,1,1⟩]).s.jb=true from rfl,if_neg (by decide)]
 have hs:(YB nJ [⟨fF,1,1,1⟩]).s.sync=Lx:=by
  have h:=N2;rw[vS] at h;exact h
 rw[hs];show((YB Lx [⟨fF,1,1,1⟩]).Qa,(YB Lx [⟨fF,1,1,1⟩]).eg 0 0 0)=_
 kernel_rfl
def gf.new{Ec rn:Int}{nn:Nat}{cl nd:Int}(h1:1<=Ec/\Ec<=3)(h2:1<=rn/\rn<=3)(h3:1<=nn/\nn<=4):gf (ua.new Ec rn nn cl 0 0 nd) 2:=by
 have hid:=Ga.Ih (.up [] (CS.new 0 0 nd) 0) (Kc nn).cfg;exact{ok:=Ga.ok.enter (s:= .up [] (CS.new 0 0 nd) 0) (N:=0) (LI.nil 0 0 nd) (by decide) _,hl:=di _,hd:=λe he=>(nomatch he),kn:=λk hk=>(by show V9.z.at (k*3+(Ga.fresh 0 0 nd nn).c0.rg.toNat)=0;rw[show(Ga.fresh 0 0 nd nn).c0.rg=0 from hid.2.1];exact V9.JV (by show k*3+0<9;omega)),cs:=Ga.pJ (s:= .up [] (CS.new 0 0 nd) 0) (N:=0) (LI.nil 0 0 nd) (Ke.new 0 0 nd) _,wl:=di _,wi:=λx hx=>(nomatch hx),nn:=(by show 0<=(nn:Int)/\(nn:Int)<=100;omega),dd:=(by show 0<=Ec/\Ec<=100;omega),rr:=(by show 0<=rn/\rn<=100;omega),dc:=hid.1,rg:=hid.2.1,wt:=λw hw=>(nomatch hw),ds:= .nil,dn:=λhd=>(by have hd:(Ga.fresh 0 0 nd nn).jb=false:=hd;unfold Ga.fresh at hd;rw[Ga.Uz] at hd;cases hd)}
def ua.TG(Ec rn:Int)(nn:Nat)(cl nd:Int):(ua.new Ec rn nn cl 0 0 nd).lay=(Ec,rn,(nn:Int),nd,true):=by
 have hid:=Ga.Ih (.up [] (CS.new 0 0 nd) 0) (Kc nn).cfg;show(Ec,rn,(nn:Int),(Ga.fresh 0 0 nd nn).c0.nd,(Ga.fresh 0 0 nd nn).jb)=_;rw[show(Ga.fresh 0 0 nd nn).c0.nd=nd from hid.2.2,show(Ga.fresh 0 0 nd nn).jb=true from by unfold Ga.fresh;rw[Ga.Uz];rfl]
def ry:Ct prog 10 [] [] (λr H'=>r= .bool true/\H'=[]):=by
 have kn:Ct prog 12 [.agg (List.toArray [.int .i64 1,.int .i64 1,.int .i64 1,.int .i64 1]),.int .i64 0,.int .i64 0,.int .i64 0] [] (λr H'=>∃b h',r= .tuple #[.pointer (some ⟨b,0,none⟩),.int .i64 0]/\vf (ua.new 1 1 1 1 0 0 0) b h'/\H'=[h']):=
  sy (Ec:=1) (rn:=1) (nn:=1) (cl:=1) (dc:=0) (rg:=0) (nd:=0) (by decide) (by decide) (by decide) (by decide) (by decide) (by decide) (by decide)
 have Pq:gf (ua.new 1 1 1 1 0 0 0) 2:=gf.new (by decide) (by decide) (by decide);have Qi:=(Pq.handle (by decide) HQ).1;rw[LF] at Qi;have Io:=Qi.flush.1;rw[oJ] at Io;refine ce func10 λg R=>?_;repeat' first|refine Za ?_|refine gS (λ_=>?_) λ_=>?_|refine Uc λ_=>?_|refine al λ_=>?_|refine jf [.int .i64 1,.int .i64 1,.int .i64 1,.int .i64 1] ?_
 refine ck kn ?_;rintro _ _ ⟨b,h0,rfl,hm0,rfl⟩;simp only[can];have kh:=kj hm0 Pq.toWe (by decide) (by rw[Pq.rg];decide) (by rw[Pq.dc];decide) HQ;rw[LF] at kh;have w6:=hm0;obtain⟨lb,hb,sb,vw,hl,hw,v,hh,rfl,at_⟩:=hm0;obtain⟨cb,d,w,u,hv,X,rfl,Ue⟩:=ua.Qv at_.lg;generalize hn0:ua.new 1 1 1 1 0 0 0=n0 at*;refine WX.f0 [za b n0 lb hb sb vw,Pa n0 lb cb d w,ja cb n0.c u,hv,X,hw,Fa hb n0.rg v,hh,Ja sb n0.dc n0.rc,R] ?_;repeat' first|refine ga ?_|refine gS (λ_=>?_) λ_=>?_|refine Uc λ_=>?_|refine al λ_=>?_|refine jf (t:=35) fF.enc ?_|refine jf (t:=52) HQ.enc ?_|refine xg Ki.z.enc fF.enc ?_|refine Pg fF.enc ?_
 rename_i b3;refine WX.f0 [Rp b3 fF,Ti b n0 lb hb sb vw (Pa n0 lb cb d w++(ja cb n0.c u++(hv++X))) hw v hh,R] ?_;refine ck kh ?_;rintro r1 _ ⟨h1,h2,hs1,xe,rfl⟩;simp only[can];have xe:vf (YB nJ [⟨fF,1,1,1⟩]) b h2:=xe;have kw:=MF xe;have kf:=Ov xe Qi.toWe;rw[oJ] at kf;repeat' first|refine ga ?_|refine gS (λ_=>?_) λ_=>?_|refine Uc λ_=>?_|refine al λ_=>?_|refine cq kw ?_
 refine ck kf ?_;rintro r2 _ ⟨h3,h4,Cc,WB,rfl⟩;simp only[can];have WB:vf (YB Lx []) b h4:=WB;have kw2:=MF WB;obtain⟨lb2,dy,NU,Qw,ny,Qr,v2,Er,rfl,O2⟩:=WB;obtain⟨tP,d2,w2,u2,NM,X2,rfl,wI⟩:=ua.Qv O2.lg;have ks:=Gg (YB Lx []).c tP u2;have Cc:ia 52 [o6] r2 h3:=Cc;have hs1:ia 52 [] r1 h1:=hs1;obtain⟨p1,c1,rfl⟩:=hs1.len;obtain⟨p3,c3,rfl⟩:=Cc.len;have mX:=Cc.rs;have hx3:[o6][0]? =some o6:=rfl;have had:Ab [.i,.i,.i,.i] fF.enc fF.enc=some true:=Ep rfl;repeat' first|refine ga ?_|refine gS (λ_=>?_) λ_=>?_|refine Uc λ_=>?_|refine al λ_=>?_
 refine wq ?_;repeat' first|refine ga ?_|refine gS (λ_=>?_) λ_=>?_|refine Uc λ_=>?_|refine al λ_=>?_|refine lF (us:=fF.enc) rfl mX ?_ (hk:=hx3) (ho:=rfl)|refine Pg fF.enc ?_|refine WX.aq rfl rfl had rfl ?_|refine cq kw2 ?_
 refine WX.f0 [h3,za b (YB Lx []) lb2 dy NU Qw,Pa (YB Lx []) lb2 tP d2 w2,ja tP (YB Lx []).c u2,NM,X2,Qr,Fa dy (YB Lx []).rg v2,Er,Ja NU (YB Lx []).dc (YB Lx []).rc,h1,Rp b3 fF,R] ?_;repeat' first|refine ga ?_|refine gS (λ_=>?_) λ_=>?_|refine Uc λ_=>?_|refine al λ_=>?_|refine cq ks ?_
 exact Wi []
def OV{Ec rn nn cl nd:Int}{bg:List Ir}{v:Value}{hs:Hp}(hx:Rs bg v hs)(hlen:bg.length<=250)(hb:∀a∈bg,-9223372036854775808<=a.n/\a.n<=9223372036854775807):
  Ct prog 23 [.agg (List.toArray [Ec,rn,nn,cl]),nd,v] [hs]
   (λr H'=>(r= .tuple #[.pointer none,.pointer none]/\H'=[hs])\/∃n b bd h hd,r= .tuple #[.pointer (some ⟨b,0,none⟩),.pointer (some ⟨bd,0,none⟩)]/\(gf n 20000/\XO Ec rn nn cl nd)/\n.Ec=Ec/\n.rn=rn/\n.nn=nn/\n.nd=nd/\vf n b h/\Cg n bd 3000000 hd/\H'=[h,hd,hs]):=by
 by_cases hok:XO Ec rn nn cl nd
 .obtain⟨h1,h2,h3,h4,h5⟩:=id hok;obtain⟨nn,rfl⟩:∃k:Nat,nn=(k:Int):=⟨nn.toNat,by omega⟩;have kn:=sy (dc:=0) (rg:=0) h1 h2 (show 1<=nn/\nn<=4 by omega) h4 (by omega) (by omega) h5;have kd:=Cz (dc:=0) (rg:=0) h1 h2 (show 1<=nn/\nn<=4 by omega) h4 (by omega) (by omega) h5;have Pq:gf (ua.new Ec rn nn cl 0 0 nd) 2:=gf.new h1 h2 (by omega);have PV:=ua.TG Ec rn nn cl nd;generalize ua.new Ec rn nn cl 0 0 nd=n0 at*
  obtain⟨q1,q2,q3,q4⟩:n0.Ec=Ec/\n0.rn=rn/\n0.nn=(nn:Int)/\n0.nd=nd:=by
   unfold ua.lay at PV;injection PV with a1 a2
   injection a2 with a2 a3
   injection a3 with a3 a4
   injection a4 with a4 a5
   exact⟨a1,a2,a3,a4⟩
  refine ce func23 λg R=>?_;repeat' first|refine Za ?_|refine gS (λ_=>?_) λ_=>?_|refine Uc λ_=>?_|refine al λ_=>?_|refine Pg [Ec,rn,.int .i64 (nn:Int),cl] ?_
  rename_i b3;refine ck kn ?_;rintro _ _ ⟨b,h0,rfl,hm0,rfl⟩;repeat' first|refine Za ?_|refine gS (λ_=>?_) λ_=>?_|refine Uc λ_=>?_|refine al λ_=>?_|refine Pg [Ec,rn,.int .i64 (nn:Int),cl] ?_
  refine ck kd ?_;rintro _ _ ⟨bd,g0,rfl,wS,rfl⟩;repeat' first|refine Za ?_|refine gS (λ_=>?_) λ_=>?_|refine Uc λ_=>?_|refine al λ_=>?_
  refine W.lo (α:=Nat×ua×Hp×Hp) (λy=>y.1<=bg.length/\gf y.2.1 (2+40*y.1)/\y.2.1.Ec=Ec/\y.2.1.rn=rn/\y.2.1.nn=(nn:Int)/\y.2.1.nd=nd/\vf y.2.1 b y.2.2.1/\Cg y.2.1 bd (486+8000*y.1) y.2.2.2)
   (λy=>[(2,v),(8,.pointer (some ⟨b,0,none⟩)),(10,.pointer (some ⟨bd,0,none⟩)),(12,.int .i64 (y.1:Int))]) (λy=>[y.2.2.1,y.2.2.2,hs,R]) (λy=>bg.length - y.1) (0,n0,h0,g0) ⟨di _,Pq,q1,q2,q3,q4,hm0,wS⟩ ?_
  rintro⟨k,n,h,hd⟩ ⟨hk,Ko,q1,q2,q3,q4,hm,Fp⟩;simp only[] at hk Ko q1 q2 q3 q4 hm Fp⊢;by_cases hlt:k<bg.length
  .obtain⟨a,ha⟩:=Lh hlt;have kc:=jJ Ko (by omega) (by omega) (by omega) hm Fp a (hb a (mem_of_getElem? ha));repeat' first|refine ga ?_|refine gS (λ_=>?_) λ_=>?_|refine Uc λ_=>?_|refine al λ_=>?_|refine Vx hx ha ?_
   refine ck kc ?_;rintro _ _ ⟨rfl,n',h',hd',st,hm',tY,rfl⟩;repeat' first|refine Za ?_|refine gS (λ_=>?_) λ_=>?_|refine Uc λ_=>?_|refine al λ_=>?_
   exact D.round (k+1,n',h',hd') ⟨by simp only[];omega,st.ok.mono (by omega),st.Ec.trans q1,st.rn.trans q2,st.nn.trans q3,st.nd.trans q4,hm',(by
    have e:(486:Int)+8000*(k:Nat)+8000=486+8000*((k+1:Nat):Int):=by omega
    simp only[];rw[<-e];exact tY)⟩ (by simp only[];omega) (by repeat(first|exact Aa.nil|refine Aa.cons rfl ?_)) (Ia.qa inferInstance)
  .obtain rfl:k=bg.length:=by omega
   repeat' first|refine ga ?_|refine gS (λ_=>?_) λ_=>?_|refine Uc λ_=>?_|refine al λ_=>?_
   exact D.Vb [h,hd,hs] _ rfl rfl rfl (.inr ⟨n,b,bd,h,hd,rfl,⟨Ko.mono (by omega),hok⟩,q1,q2,q3,q4,hm,(by
    obtain⟨vo,gb,hb,sb,vw,hl,hw,v,hh,e,at_⟩:=Fp;exact⟨vo,gb,hb,sb,vw,hl,hw,v,hh,e,at_.mono (by omega)⟩),rfl⟩)
 .have kn:=Yr hok;have kd:=kq hok;refine ce func23 λg R=>?_;repeat' first|refine Za ?_|refine gS (λ_=>?_) λ_=>?_|refine Uc λ_=>?_|refine al λ_=>?_|refine Pg [Ec,rn,nn,cl] ?_|refine cq kn ?_|refine cq kd ?_
  exact D.Vb [hs] _ rfl rfl rfl (.inl ⟨rfl,rfl⟩)
def oN(a:Ir):Prop:=(-9223372036854775808<=a.n/\a.n<=9223372036854775807)/\a.m.key.size<=562949953421312/\a.m.val.size<=562949953421312/\a.m.en.key.size<=562949953421312/\a.m.en.val.size<=562949953421312
def ua.uY(n:ua):List Da:=if n.sure=false then[] else
 ((List.range n.Ec.toNat).map λ(x:Nat)=>if(x:Int)=n.dc then[] else n.Df (x:Int)++n.Ri 13 (x:Int) n.rg (Bc n.rg n.Kb)).flatten++
 ((List.range n.rn.toNat).map λ(r:Nat)=>if(r:Int)=n.rg then[] else n.Ri 14 n.dc (r:Int) (Bc n.rg n.Kb)).flatten
def ua.QV{n:ua}(hu:n.s.jb=true):n.tick=(n.pull,{n.out 10 n.Fc with ep:=n.ep}::(n.pull.Yd++(n.pull.Qm++(n.pull.Af++n.pull.uY)))):=by
 obtain⟨r1,r2,-,-,-,r6,r7,-⟩:=n.Sd;unfold ua.tick;rw[if_neg (by rw[hu];decide)];unfold ua.yz ua.uY;rw[r1,r2,r6,r7]
def yy{b:ByteArray}(h:b.data.toList.length<=reachBytes):b.size<=562949953421312:=by
 rw[show b.data.toList.length=b.size from Array.length_toList] at h;unfold reachBytes at h;omega
def nX(m:Da):Prop:=m.key.size<=562949953421312/\m.val.size<=562949953421312/\m.en.key.size<=562949953421312/\m.en.val.size<=562949953421312
section
variable{H:Type}{enc:TypeId×Value->H}{w:World}{cs:List Value}
def HS(h:Uf enc prog w 35 cs):∃a:Ki,cs=a.enc:=by
 have hl:=h.len (i:=0)
 match cs,hl with
 |[c0,c1,c2,c3],_=>
  obtain⟨n0,e0,_⟩:=(h.field 0).int;obtain⟨n1,e1,_⟩:=(h.field 1).int;obtain⟨n2,e2,_⟩:=(h.field 2).int;obtain⟨n3,e3,_⟩:=(h.field 3).int;cases e0;cases e1;cases e2;cases e3;exact⟨⟨n0,n1,n2,n3⟩,rfl⟩
set_option maxRecDepth 100000 in
theorem IS(h:Uf enc prog w 52 cs):∃m:Da,cs=m.enc/\nX m:=by
 have hl:cs.length=74:=h.len (i:=0);obtain⟨kind,e0,_⟩:=(h.field 0).int;have h1:Uf enc prog w 35 ((cs.drop 1).take 4):=h.field 1;obtain⟨fr,e1⟩:=HS h1;have h2:Uf enc prog w 35 ((cs.drop 5).take 4):=h.field 2;obtain⟨to,e2⟩:=HS h2;obtain⟨ep,e3,_⟩:=(h.field 3).int;obtain⟨ix,e4,_⟩:=(h.field 4).int;obtain⟨ct,e5,_⟩:=(h.field 5).int;obtain⟨op,e6,_⟩:=(h.field 6).int;obtain⟨tr,e7,_⟩:=(h.field 7).int;have h8:Uf enc prog w 40 ((cs.drop 14).take 13):=h.field 8;obtain⟨cf,e8⟩:=wY h8;have h9:Uf enc prog w 49 ((cs.drop 27).take 20):=h.field 9;obtain⟨en,e9,s3,s4⟩:=xY h9;obtain⟨has,JQ⟩:=(h.field 10).bool;obtain⟨key,I0,s1⟩:=(h.field 11).string;obtain⟨val,T7,s2⟩:=(h.field 12).string;obtain⟨dead,U7⟩:=(h.field 13).bool;obtain⟨snap,V7⟩:=(h.field 14).bool;have h15:Uf enc prog w 47 ((cs.drop 52).take 9):=h.field 15;obtain⟨dp,e15⟩:=VL h15;have yY:Uf enc prog w 47 ((cs.drop 61).take 9):=h.field 16;obtain⟨av,e16⟩:=VL yY;have h17:Uf enc prog w 50 ((cs.drop 70).take 3):=h.field 17;obtain⟨c0,c1,c2,e17⟩:=YG h17;obtain⟨code,Z2,_⟩:=(h.field 18).int;have e0:(cs.drop 0).take 1=[.int .i64 kind]:=e0;have e3:(cs.drop 9).take 1=[.int .i64 ep]:=e3;have e4:(cs.drop 10).take 1=[.int .i64 ix]:=e4;have e5:(cs.drop 11).take 1=[.int .i64 ct]:=e5;have e6:(cs.drop 12).take 1=[.int .i64 op]:=e6;have e7:(cs.drop 13).take 1=[.int .i64 tr]:=e7;have JQ:(cs.drop 47).take 1=[.bool has]:=JQ;have I0:(cs.drop 48).take 1=[.string key]:=I0;have T7:(cs.drop 49).take 1=[.string val]:=T7;have U7:(cs.drop 50).take 1=[.bool dead]:=U7;have V7:(cs.drop 51).take 1=[.bool snap]:=V7;have Z2:(cs.drop 73).take 1=[.int .i64 code]:=Z2;refine⟨⟨kind,fr,to,ep,ix,ct,op,tr,cf,en,has,key,val,dead,snap,dp,av,c0,c1,c2,code⟩,?_,yy s1,yy s2,yy s3,yy s4⟩;have a0:=yf cs 0 1;rw[e0] at a0;have a1:=yf cs 1 4;rw[e1] at a1;have a2:=yf cs 5 4;rw[e2] at a2;have a3:=yf cs 9 1;rw[e3] at a3;have a4:=yf cs 10 1;rw[e4] at a4;have a5:=yf cs 11 1;rw[e5] at a5;have a6:=yf cs 12 1;rw[e6] at a6;have a7:=yf cs 13 1;rw[e7] at a7;have a8:=yf cs 14 13;rw[e8] at a8;have a9:=yf cs 27 20;rw[e9] at a9;have a10:=yf cs 47 1;rw[JQ] at a10;have a11:=yf cs 48 1;rw[I0] at a11;have a12:=yf cs 49 1;rw[T7] at a12;have y6:=yf cs 50 1;rw[U7] at y6;have A6:=yf cs 51 1;rw[V7] at A6;have a15:=yf cs 52 9;rw[e15] at a15;have a16:=yf cs 61 9;rw[e16] at a16;have a17:=yf cs 70 3;rw[e17] at a17;have W7:=yf cs 73 1;rw[Z2] at W7;rw[show cs.drop (73+1)=[] from drop_eq_nil_of_le (by omega)] at W7;rw[drop_zero] at a0;rw[a0,show 0+1=1 from rfl,a1,show 1+4=5 from rfl,a2,show 5+4=9 from rfl,a3,show 9+1=10 from rfl,a4,show 10+1=11 from rfl,a5,show 11+1=12 from rfl,a6,show 12+1=13 from rfl,a7,show 13+1=14 from rfl,a8,show 14+13=27 from rfl,a9,show 27+20=47 from rfl,a10,show 47+1=48 from rfl,a11,show 48+1=49 from rfl,a12,show 49+1=50 from rfl,y6,show 50+1=51 from rfl,A6,show 51+1=52 from rfl,a15,show 52+9=61 from rfl,a16,show 61+9=70 from rfl,a17,show 70+3=73 from rfl,W7];rfl
end
def wN:JE prog 52 Da (λ_ m=>nX m):=Go.Sl.vJ λH enc w cs h=>IS h
structure JS where
 (a b c e:Int)
def JS.enc(l:JS):List Value:=[l.a,l.b,l.c,l.e]
instance:Qb JS:=⟨4,JS.enc,λ_=>rfl,λ_=>rfl,by decide⟩
def WL:JE prog 23 JS (λ_ _=>True):=Go.Sl.vJ λH enc w cs h=>by
 have hl:=h.len (i:=0)
 match cs,hl with
 |[c0,c1,c2,c3],_=>
  obtain⟨n0,e0,i0⟩:=(h.field 0).int;obtain⟨n1,e1,i1⟩:=(h.field 1).int;obtain⟨n2,e2,i2⟩:=(h.field 2).int;obtain⟨n3,e3,i3⟩:=(h.field 3).int;cases e0;cases e1;cases e2;cases e3;exact⟨⟨n0,n1,n2,n3⟩,rfl,trivial⟩
set_option maxRecDepth 100000 in
theorem XL:JE prog 54 Ir (λ_ a=>oN a):=Go.Sl.vJ λH enc w cs h=>by
 have hl:cs.length=76:=h.len (i:=0);obtain⟨k,e0,_⟩:=(h.field 0).int;obtain⟨n,e1,hn⟩:=(h.field 1).int;have h2:Uf enc prog w 52 ((cs.drop 2).take 74):=h.field 2;obtain⟨m,e2,hm⟩:=IS h2;have e0:(cs.drop 0).take 1=[.int .i64 k]:=e0;have e1:(cs.drop 1).take 1=[.int .i64 n]:=e1;refine⟨⟨k,n,m⟩,?_,⟨hn.1,hn.2⟩,hm⟩;have a0:=yf cs 0 1;rw[e0] at a0;have a1:=yf cs 1 1;rw[e1] at a1;have a2:=yf cs 2 74;rw[e2,show cs.drop (2+74)=[] from drop_eq_nil_of_le (by omega),append_nil] at a2;rw[drop_zero] at a0;rw[a0,show 0+1=1 from rfl,a1,show 1+1=2 from rfl,a2];rfl
def YL{n:Nat}(hl:n*prog.bytesOf 54<=reachBytes):n<=1099511627776:=by
 rw[show prog.bytesOf 54=632 by kernel_rfl] at hl;unfold reachBytes at hl;omega
section
variable(n:ua)(b lb hb sb:Nat)(vw:Value)
def Hs:Ct prog 39 [b] [za b n lb hb sb vw] (λr H'=>r= .agg (List.toArray n.kn.enc)/\H'=[za b n lb hb sb vw]):=by
 refine ce func39 λg R=>?_;repeat' first|refine Za ?_|refine gS (λ_=>?_) λ_=>?_|refine Uc λ_=>?_|refine al λ_=>?_|refine bn b 10 (n.cells lb hb sb vw) n.kn.enc ?_|refine xg V9.z.enc n.kn.enc ?_
 exact D.Gc [za b n lb hb sb vw] _ rfl (.Va rfl rfl .nil) ⟨rfl,rfl⟩
def uP:Ct prog 34 [b] [za b n lb hb sb vw] (λr H'=>r= .agg (List.toArray n.mr.enc)/\H'=[za b n lb hb sb vw]):=by
 refine ce func34 λg R=>?_;repeat' first|refine Za ?_|refine gS (λ_=>?_) λ_=>?_|refine Uc λ_=>?_|refine al λ_=>?_|refine bn b 20 (n.cells lb hb sb vw) n.mr.enc ?_|refine xg V3.z.enc n.mr.enc ?_
 exact D.Gc [za b n lb hb sb vw] _ rfl (.Va rfl rfl .nil) ⟨rfl,rfl⟩
def Is{p}{c:Nat}:Ct prog 40 [b] [za b n lb hb sb (.slice p n.ws.length c)] (λr H'=>r= .int .i64 (n.ws.length:Int)/\H'=[za b n lb hb sb (.slice p n.ws.length c)]):=by
 refine ce func40 λg R=>?_;repeat' first|refine Za ?_|refine gS (λ_=>?_) λ_=>?_|refine Uc λ_=>?_|refine al λ_=>?_
 exact Wi [za b n lb hb sb (.slice p n.ws.length c)]
def Rv{v:Value}{hh:Hp}(hs:Rs n.hd v hh):Ct prog 38 [b] [za b n lb hb sb vw,Fa hb n.rg v,hh] (λr H'=>r= .int .i64 (n.hd.length:Int)/\H'=[za b n lb hb sb vw,Fa hb n.rg v,hh]):=by
 have h1:=RV hs hb n.rg;refine ce func38 λg R=>?_;repeat' first|refine Za ?_|refine gS (λ_=>?_) λ_=>?_|refine Uc λ_=>?_|refine al λ_=>?_|refine cq h1 ?_
 exact Wi [za b n lb hb sb vw,Fa hb n.rg v,hh]
def UG(x:Int):Ct prog 43 [b,x] [za b n lb hb sb vw,Ja sb n.dc n.rc] (λr H'=>r= .int .i64 (if De n.dc x then n.rc.get x else 0)/\H'=[za b n lb hb sb vw,Ja sb n.dc n.rc]):=by
 have h1:=qJ sb n.dc x n.rc;refine ce func43 λg R=>?_;repeat' first|refine Za ?_|refine gS (λ_=>?_) λ_=>?_|refine Uc λ_=>?_|refine al λ_=>?_|refine cq h1 ?_
 exact Wi [za b n lb hb sb vw,Ja sb n.dc n.rc]
end
end Go.Proofs.YthebagfahkebiaaGreat
