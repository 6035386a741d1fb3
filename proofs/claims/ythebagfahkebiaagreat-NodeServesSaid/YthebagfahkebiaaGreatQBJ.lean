/- Texts of one road. -/
import Derived.Test.YthebagfahkebiaaGreatQBI
set_option linter.all false
set_option maxHeartbeats 8000000
set_option maxRecDepth 20000
namespace Go.Proofs.YthebagfahkebiaaGreat
open Go Go.Sl Go.Proofs.Tryz List
variable{s:Ea}{n:va}{N:Int}
def va.lay(n:va):Int×Int×Int×Int×Bool:=(n.fc,n.rn,n.nn,n.nd,n.s.Xa)
def Ea.lY(s:Ea)(key val:ByteArray)(dead:Bool)(deps:V9)(clock cl op:Int):(s.put key val dead deps clock cl op).2.Xa=s.Xa:=by cases s<;>rfl
def Ea.DV(s:Ea)(fr ep ix:Int)(e:ya):(s.take fr ep ix e).2.Xa=s.Xa:=by cases s<;>rfl
def Ea.mY(s:Ea)(e:ya):(s.inj e).2.Xa=s.Xa:=by cases s<;>rfl
def Ea.Ez(s:Ea)(x:Va):(s.enter x).2.Xa=s.Xa:=by cases s<;>rfl
def Ea.YR(s:Ea)(f ep du st:Int):(s.heard f ep du st).2.Xa=s.Xa:=by cases s<;>rfl
def Ea.VM(s:Ea):s.sync.Xa=s.Xa:=by cases s<;>rfl
def Ea.nY(h:Je s.ch)(e:ya):(s.inj e).2.ch.st=s.ch.st/\(s.inj e).2.ch.co=s.ch.co/\(s.inj e).2.ch.du=s.ch.du/\(s.inj e).2.ch.su=s.ch.su/\s.ch.lg<+:(s.inj e).2.ch.lg:=by
 cases s with
 |up l c t=>
  have h:Je c:=h;show(Yf l c e).2.1.st=c.st/\(Yf l c e).2.1.co=c.co/\(Yf l c e).2.1.du=c.du/\(Yf l c e).2.1.su=c.su/\c.lg<+:(Yf l c e).2.1.lg;unfold Yf;split
  .unfold CS.Xb;rw[h.push];repeat' split
   all_goals first|exact⟨rfl,rfl,rfl,rfl,prefix_refl _⟩|exact⟨rfl,rfl,rfl,rfl,prefix_append ..⟩
  .exact⟨rfl,rfl,rfl,rfl,prefix_refl _⟩
 |dn l c q=>exact⟨rfl,rfl,rfl,rfl,prefix_refl _⟩
namespace va
def Qr:∀(k:Nat) {n:va} {M:Int},Vh n M->Je n.c->M+k<=1099511627776->(Md k n).s.Xa=n.s.Xa/\(Md k n).c.st=n.c.st/\(Md k n).c.co=n.c.co/\(Md k n).c.du=n.c.du/\(Md k n).c.su=n.c.su/\n.c.lg<+:(Md k n).c.lg
 |0,n,M,_,_,_=>⟨rfl,rfl,rfl,rfl,rfl,prefix_refl _⟩
 |k+1,n,M,h,hc,hM=>by
  unfold Md;split
  .obtain⟨a1,a2,a3,a4,a5⟩:=Ea.nY hc (n.hd.getD (Be n.Wb n.hd).toNat ya.z);obtain⟨b1,b2,b3,b4,b5,b6⟩:=Qr k (h.ji (by omega) (Be n.Wb n.hd).toNat) (Ea.Uy h.ok hc _) (by omega);exact⟨b1.trans (Ea.mY ..),b2.trans a1,b3.trans a2,b4.trans a3,b5.trans a4,a5.trans b6⟩
  .exact⟨rfl,rfl,rfl,rfl,rfl,prefix_refl _⟩
def Aq(h:ef n N)(hN:N+16<=1099511627776):n.pull.s.Xa=n.s.Xa/\n.pull.c.st=n.c.st/\n.pull.c.co=n.c.co/\n.pull.c.du=n.c.du/\n.pull.c.su=n.c.su/\n.c.lg<+:n.pull.c.lg:=by
 unfold va.pull;split
 .have:=h.toVh.uf.hl;exact Qr _ h.toVh.uf h.cs (by omega)
 .exact⟨rfl,rfl,rfl,rfl,rfl,prefix_refl _⟩
def QI(h:Ob n.s.c0 s.c0)(hu:s.Xa=n.s.Xa):va.lay {n with s:=s}=n.lay:=by
 show(n.fc,n.rn,n.nn,s.c0.nd,s.Xa)=(n.fc,n.rn,n.nn,n.s.c0.nd,n.s.Xa);rw[h.2.2,hu]
def bu(h:ef n N)(hN:N+16<=1099511627776):n.pull.lay=n.lay:=by
 obtain⟨h1,h2,h3,-,-,-,-,h8⟩:=n.Dd;have h9:=(Aq h hN).1;unfold lay;rw[h1,h2,h3,h8,h9]
def EV(n:va)(m:Da):(n.put m).1.lay=n.lay:=by
 have hl:=QI (n:=n) (Ea.Sp n.s m.key m.val m.dead m.dp m.ct m.fr.nd m.op) (Ea.lY ..);unfold va.put;split
 .rfl
 .simp only[];split
  .exact hl
  .split<;>exact hl
def RI(h:ef n N)(hN:N+40<=1099511627776)(hr:0<=n.rg/\n.rg<3)(m:Da):(n.Qa m).1.1.lay=n.lay:=by
 unfold Qa;simp only[];split
 .exact n.EV m
 split
 .rfl
 split
 .split
  .exact QI (Ea.Am ..) (Ea.DV ..)
  .rfl
 split
 .exact QI (Ea.Ck ..) (Ea.YR ..)
 split
 .exact QI (n:=n) (Ea.xh n.s m.cf) (Ea.Ez ..)
 split
 .have h1:=h.pull (by omega);refine(bu (h1.yd m.en) (by omega)).trans (Eq.trans ?_ (bu h (by omega)));rw[Ih];rfl
 split
 .split<;>rfl
 split
 .rename_i hc;exact(bu (h.bz hr hc.2.2.2 _) (by omega)).trans rfl
 .rfl
end va
abbrev CL(hd:List ya):Prop:=hd.Pairwise λx y=> ¬(x.dc=y.dc/\x.rg=y.rg/\x.sq=y.sq)
def va.SI:∀(k:Nat) {n:va},CL n.hd->CL (va.Md k n).hd
 |0,_,h=>h
 |k+1,n,h=>by
  unfold va.Md;split
  .exact va.SI k (h.sublist (eraseIdx_sublist ..))
  .exact h
def va.eu(h:CL n.hd):CL n.pull.hd:=by
 unfold va.pull;split
 .exact va.SI _ (h.filter _)
 .exact h
def va.Fz(h:CL n.hd)(e:ya):CL (n.yd e).hd:=by
 unfold va.yd;split
 .rename_i hc;refine pairwise_append.2 ⟨h,pairwise_singleton ..,λx hx y hy hxy=>?_⟩;rw[mem_singleton.1 hy] at hxy;exact any_eq_false.1 hc.2.2.1 x hx (Fi hxy)
 .exact h
def va.DL(h:CL n.hd)(m:Da):CL (n.Qa m).1.1.hd:=by
 unfold va.Qa;simp only[];split
 .rw[(va.St (n:=n) m).1];exact h
 split
 .exact h
 split
 .split<;>exact h
 split
 .exact h
 split
 .exact h
 split
 .exact va.eu (va.Fz (va.eu h) _)
 split
 .split<;>exact h
 split
 .exact va.eu (n:={n with kn:=_}) h
 .exact h
structure mg(n:va)(N:Int):Prop extends ef n N where
 dc:n.dc=0
 rg:n.rg=0
 wt:∀w∈n.ws,n.c.st<w.ix
 dn:n.s.Xa=false->n.lost=n
 ds:CL n.hd
def va.EL(h:ef n N)(hN:N+40<=1099511627776)(m:Da):(n.Qa m).1.1.dc=n.dc/\(n.Qa m).1.1.rg=n.rg:=by
 have hi:∀{s:Ea},Ob n.s.c0 s.c0->∀ws,va.dc {n with s:=s,ws:=ws}=n.dc/\va.rg {n with s:=s,ws:=ws}=n.rg:=λk _=>⟨k.1,k.2.1⟩;unfold Qa;simp only[];split
 .obtain⟨-,h2,h3,-⟩:=va.St (n:=n) m;exact⟨h3,h2⟩
 split
 .exact⟨rfl,rfl⟩
 split
 .split
  .exact hi (Ea.Am ..) n.ws
  .exact⟨rfl,rfl⟩
 split
 .exact hi (Ea.Ck ..) n.ws
 split
 .exact hi (Ea.xh ..) _
 split
 .obtain⟨-,-,-,-,-,h6,h7,-⟩:=(n.pull.yd m.en).Dd;obtain⟨-,-,-,-,-,g6,g7,-⟩:=n.Dd;refine⟨h6.trans (Eq.trans ?_ g6),h7.trans (Eq.trans ?_ g7)⟩<;>(rw[va.Ih];rfl)
 split
 .split<;>exact⟨rfl,rfl⟩
 split
 .obtain⟨-,-,-,-,-,h6,h7,-⟩:=va.Dd {n with kn:=Ej n.kn m.fr.rg ⟨m.c0,m.c1,m.c2⟩};exact⟨h6,h7⟩
 .exact⟨rfl,rfl⟩
section
variable{n:va}{N:Int}(h:mg n N)
include h
theorem mg.mono{M:Int}(hM:N<=M):mg n M:={h with toef:=h.toef.mono hM}
theorem mg.handle(hN:N+40<=1099511627776)(m:Da):mg (n.handle m).1 (N+40)/\(n.handle m).1.lay=n.lay:=by
 have hr:0<=n.rg/\n.rg<3:=by rw[h.rg];decide
 have h1:=h.toef.Qa hN hr m;have h2:=va.RI h.toef hN hr m;obtain⟨h3,h4⟩:=va.EL h.toef hN m;unfold va.handle
 cases hu:n.s.Xa with
 |false=>rw[if_pos rfl];exact⟨h.mono (by omega),rfl⟩
 |true=>
  rw[if_neg (by decide)];simp only[];refine⟨{toef:=h1.Ra,dc:=h3.trans h.dc,rg:=h4.trans h.rg,wt:=λw hw=>?_,dn:=λhd=>?_,ds:=va.DL h.ds m},h2⟩
  .have:=(mem_filter.1 hw).2;have:=of_decide_eq_false (by simpa using this:decide (w.ix<=(n.Qa m).1.1.c.st)=false);show(n.Qa m).1.1.c.st<w.ix;omega
  .have e:(n.Qa m).1.1.s.Xa=n.s.Xa:=congrArg (λx:Int×Int×Int×Int×Bool=>x.2.2.2.2) h2;have hd:(n.Qa m).1.1.s.Xa=false:=hd;rw[e,hu] at hd;cases hd
theorem mg.tick(hN:N+16<=1099511627776):mg n.tick.1 (N+40)/\n.tick.1.lay=n.lay:=by
 obtain⟨p1,p2,-⟩:=va.Aq h.toef hN;obtain⟨-,-,-,r4,-,r6,r7,-⟩:=n.Dd;unfold va.tick
 cases hu:n.s.Xa with
 |false=>rw[if_pos rfl];exact⟨h.mono (by omega),rfl⟩
 |true=>
  rw[if_neg (by decide)];exact⟨{toef:=(h.toef.pull hN).mono (by omega),ds:=va.eu h.ds,dc:=r6.trans h.dc,rg:=r7.trans h.rg,wt:=(by intro w hw;rw[show(n.pull,n.ez).1=n.pull from rfl] at hw⊢;rw[p2];rw[r4] at hw;exact h.wt w hw),dn:=(by intro hd;have hd:n.pull.s.Xa=false:=hd;rw[p1,hu] at hd;cases hd)},va.bu h.toef hN⟩
theorem mg.flush:mg n.flush.1 N/\n.flush.1.lay=n.lay:=by
 have hid:=Ea.Bm n.s
 have o2:Je n.s.sync.ch:=by
  have:=h.cs;revert this;unfold va.c
  cases hs:n.s with
  |up l c t=>intro k;exact k.sync (by have:=h.ob;unfold va.c at this;rw[hs] at this;exact this)
  |dn l c q=>intro k;exact k
 have h1:=h.toef.iL hid h.ok.sync o2;unfold va.flush
 cases hu:n.s.Xa with
 |false=>rw[if_pos rfl];exact⟨h,rfl⟩
 |true=>
  rw[if_neg (by decide)];simp only[];refine⟨{toef:=h1.Ra,dc:=hid.1.trans h.dc,rg:=hid.2.1.trans h.rg,wt:=λw hw=>?_,dn:=λhd=>?_,ds:=h.ds},va.QI hid (Ea.VM ..)⟩
  .have:=(mem_filter.1 hw).2;have:=of_decide_eq_false (by simpa using this:decide (w.ix<=(va.c {n with s:=n.s.sync}).st)=false);show(va.c {n with s:=n.s.sync}).st<w.ix;omega
  .have hd:n.s.sync.Xa=false:=hd;rw[Ea.VM,hu] at hd;cases hd
theorem mg.collect:mg n.collect N/\n.collect.lay=n.lay:=by
 unfold va.collect
 cases hu:n.s.Xa with
 |false=>rw[if_pos rfl];exact⟨h,rfl⟩
 |true=>
  rw[if_neg (by decide)];exact⟨{h with dn:=λhd=>by rw[show({n with mr:=_}:va).s.Xa=n.s.Xa from rfl,hu] at hd;cases hd},rfl⟩
theorem mg.Pb(keep:Int):mg (n.Pb keep) N/\(n.Pb keep).fc=n.fc/\(n.Pb keep).rn=n.rn/\(n.Pb keep).nn=n.nn/\(n.Pb keep).nd=n.nd:=by
 unfold va.Pb
 cases hu:n.s.Xa with
 |false=>rw[if_pos rfl];exact⟨h,rfl,rfl,rfl,rfl⟩
 |true=>
  rw[if_neg (by decide)];have hid:=Ea.Tp n.s keep
  have hcs:Je (n.s.Pb keep).ch:=by
   have:=h.cs;revert this hu;unfold va.c
   cases n.s with
   |up l c t=>intro _ _;exact Je.new ..
   |dn l c q=>intro hu;cases hu
  refine⟨⟨⟨⟨h.ok.Pb keep,Gi _,λe he=>(nomatch he),λk hk=>?_⟩,hcs,Gi _,λx hx=>(nomatch hx),h.nn,h.dd,h.rr⟩,hid.1.trans h.dc,hid.2.1.trans h.rg,λx hx=>(nomatch hx),λ_=>rfl,.nil⟩,rfl,rfl,rfl,hid.2.2⟩;show V9.z.at (k*3+(n.s.Pb keep).c0.rg.toNat)=0;have h0:n.s.c0.rg=0:=h.rg;rw[hid.2.1,h0];exact V9.FV (by show k*3+0<9;omega)
theorem qi.cs{s s':Ea}{M:Int}(ok:s.ok M)(k:qi s s')(hc:Je s.ch):Je s'.ch/\Ob s.c0 s'.c0/\s'.Xa=true:=by
 have _:=h
 cases s with
 |up l c t=>cases k;exact⟨hc,Ob.refl _,rfl⟩
 |dn l c q=>
  obtain⟨l',t',rfl,ux,hf,h1,h2,h3,-,h4⟩:=k;have hr:=(LI.KG (show LI l c M from ok) ux hf h1 h2 h3 h4).2.1;have hk:Lb c:=LI.ok (show LI l c M from ok);have jg:=hk.len;refine⟨?_,FI c _,rfl⟩;show Je (c.again (Ta l'));rw[hr];exact Je.restore (by rw[Fe];omega) λe he=>hk.es e (mem_of_mem_take he)
theorem mg.start{s':Ea}(ux:s'.ok N)(k:qi n.s s'):mg {n with s:=s'} N/\Ob n.s.c0 s'.c0:=by
 obtain⟨h1,h2,h3⟩:=qi.cs h h.ok k h.cs;refine⟨{toef:=h.toef.iL h2 ux h1,dc:=h2.1.trans h.dc,rg:=h2.2.1.trans h.rg,wt:=λw hw=>?_,dn:=λhd=>?_,ds:=h.ds},h2⟩
 .cases hu:n.s.Xa with
  |true=>
   have hs:s'=n.s:=by
    revert k hu
    cases n.s with
    |up l c t=>intro k _;exact k
    |dn l c q=>intro _ hu;cases hu
   show s'.ch.st<w.ix
   rw[hs];exact h.wt w hw
  |false=>
   have hw:w∈n.ws:=hw;rw[<-h.dn hu] at hw;exact nomatch hw
 .have hd:s'.Xa=false:=hd;rw[h3] at hd;cases hd
end
def va.oY(n:va)(a:MG):Da:=
 if a.k=7 then{a.m with kind:=7,fr:=n.at_ (Ed n.c.co n.nd),ep:=n.ep,ix:=n.c.len+1}
 else if a.k=8 then{a.m with kind:=8,fr:=n.at_ (Wc n.c.co n.nd),ep:=n.ep,ct:=n.c.du,ix:=n.c.du}
 else{a.m with ep:=n.ep}
section
variable{n:va}{N T:Int}(ok:mg n N){b bd:Nat}{h hd:Hp}(Gz:Mm n bd T hd)
include ok Gz
theorem YO(a:MG):Ct prog 14 [.agg (List.toArray a.enc),bd] [hd] (λr H'=>r= .agg (List.toArray (n.oY a).enc)/\H'=[hd]):=by
 obtain⟨vo,gb,hb,sb,vw,hl,hw,v,hh,rfl,at_⟩:=Gz;have hm0:=at_.lg;obtain⟨cb,d,w,tn,u,hv,X,rfl,Mf⟩:=va.YK at_.lg;obtain⟨pu,cu,rfl⟩:=Mf.rs.len;have iB:n.c.nd=n.nd:=(Ea.Uq n.s).1;have hlen:n.c.len=(n.c.lg.length:Int):=rfl;have jg:=ok.ob.len;have k1:=tq ok.ob.co n.nd;have k2:=fo ok.ob.co n.nd;obtain⟨a1,dX⟩:∃x,Ed n.c.co n.nd=x:=⟨_,rfl⟩;obtain⟨a2,ha2⟩:∃x,Wc n.c.co n.nd=x:=⟨_,rfl⟩;unfold va.oY;rw[dX,ha2];rw[dX,<-iB] at k1;rw[ha2,<-iB] at k2;refine ce func14 λg R=>?_;simp only[can];refine W.f0 [Ba bd n gb hb sb vw vo,qb n gb cb d w tn,ta cb n.c (.slice pu n.c.lg.length cu),hv,X,hw,Ka hb n.rg v,hh,Sa sb n.dc n.rc,R] ?_;repeat' first|refine ga ?_|refine Ud λ_=>?_|refine al λ_=>?_|refine WX.Fa (i:=2) (cs:=a.enc) (vs:=a.m.enc) rfl rfl rfl rfl ?_|refine nh Da.z.enc a.m.enc ?_
 rename_i b2 b4 b6;refine Wh (Da.enc a.m) (Da.enc {a.m with ep:=n.ep}) ?_;by_cases q7:a.k=7
 .rw[if_pos q7];try refine ga ?_
  refine Wh (Da.enc {a.m with ep:=n.ep}) (Da.enc {a.m with kind:=7,ep:=n.ep}) ?_;repeat' first|refine ga ?_|refine Xm bd 4 (n.jc gb hb sb vw vo) n.self.enc ?_
  refine WX.Yc (vs:=n.self.enc) (b:=b6) (i:=1) (cs:=Da.enc {a.m with kind:=7,ep:=n.ep}) rfl rfl rfl rfl rfl rfl ?_;rw[Da.XK];try refine ga ?_
  refine Ns (ml [8,1]) [ta cb n.c (.slice pu n.c.lg.length cu)] ?_;repeat' first|refine ga ?_|refine Of (n.c.cells (.slice pu n.c.lg.length cu)) (Yb n.c.co).enc ?_|refine cq k1 ?_
  refine Wh (Da.enc {a.m with kind:=7,ep:=n.ep,fr:=n.self}) (Da.enc {a.m with kind:=7,ep:=n.ep,fr:=n.at_ a1}) ?_;try refine ga ?_
  refine Wh (Da.enc {a.m with kind:=7,ep:=n.ep,fr:=n.at_ a1}) (Da.enc {a.m with kind:=7,fr:=n.at_ a1,ep:=n.ep,ix:=n.c.len+1}) ?_;repeat' first|refine ga ?_|refine yj (Da.enc {a.m with kind:=7,fr:=n.at_ a1,ep:=n.ep,ix:=n.c.len+1}) ?_|refine nh Da.z.enc (Da.enc {a.m with kind:=7,fr:=n.at_ a1,ep:=n.ep,ix:=n.c.len+1}) ?_
  refine D.Oe [Jc b4 {a.m with kind:=7,fr:=n.at_ a1,ep:=n.ep,ix:=n.c.len+1},Ba bd n gb hb sb vw vo,qb n gb cb d w tn,ta cb n.c (.slice pu n.c.lg.length cu),hv,X,hw,Ka hb n.rg v,hh,Sa sb n.dc n.rc,R] (H2:=[Jc b4 {a.m with kind:=7,fr:=n.at_ a1,ep:=n.ep,ix:=n.c.len+1},vh bd n gb hb sb vw vo (qb n gb cb d w tn++(ta cb n.c (.slice pu n.c.lg.length cu)++(hv++X))) hw v hh,R]) (by simp) ?_;exact D.Dc [vh bd n gb hb sb vw vo (qb n gb cb d w tn++(ta cb n.c (.slice pu n.c.lg.length cu)++(hv++X))) hw v hh] _ rfl (.Ua rfl rfl .nil) ⟨rfl,rfl⟩
 rw[if_neg q7];by_cases q8:a.k=8
 .rw[if_pos q8];try refine ga ?_
  refine Wh (Da.enc {a.m with ep:=n.ep}) (Da.enc {a.m with kind:=8,ep:=n.ep}) ?_;repeat' first|refine ga ?_|refine Xm bd 4 (n.jc gb hb sb vw vo) n.self.enc ?_
  refine WX.Yc (vs:=n.self.enc) (b:=b6) (i:=1) (cs:=Da.enc {a.m with kind:=8,ep:=n.ep}) rfl rfl rfl rfl rfl rfl ?_;rw[Da.XK];try refine ga ?_
  refine Ns (ml [8,1]) [ta cb n.c (.slice pu n.c.lg.length cu)] ?_;repeat' first|refine ga ?_|refine Of (n.c.cells (.slice pu n.c.lg.length cu)) (Yb n.c.co).enc ?_|refine cq k2 ?_
  refine Wh (Da.enc {a.m with kind:=8,ep:=n.ep,fr:=n.self}) (Da.enc {a.m with kind:=8,ep:=n.ep,fr:=n.at_ a2}) ?_;try refine ga ?_
  refine Wh (Da.enc {a.m with kind:=8,ep:=n.ep,fr:=n.at_ a2}) (Da.enc {a.m with kind:=8,fr:=n.at_ a2,ep:=n.ep,ct:=n.c.du}) ?_;try refine ga ?_
  refine Wh (Da.enc {a.m with kind:=8,fr:=n.at_ a2,ep:=n.ep,ct:=n.c.du}) (Da.enc {a.m with kind:=8,fr:=n.at_ a2,ep:=n.ep,ct:=n.c.du,ix:=n.c.du}) ?_;repeat' first|refine ga ?_|refine yj (Da.enc {a.m with kind:=8,fr:=n.at_ a2,ep:=n.ep,ct:=n.c.du,ix:=n.c.du}) ?_|refine nh Da.z.enc (Da.enc {a.m with kind:=8,fr:=n.at_ a2,ep:=n.ep,ct:=n.c.du,ix:=n.c.du}) ?_
  refine D.Oe [Jc b4 {a.m with kind:=8,fr:=n.at_ a2,ep:=n.ep,ct:=n.c.du,ix:=n.c.du},Ba bd n gb hb sb vw vo,qb n gb cb d w tn,ta cb n.c (.slice pu n.c.lg.length cu),hv,X,hw,Ka hb n.rg v,hh,Sa sb n.dc n.rc,R] (H2:=[Jc b4 {a.m with kind:=8,fr:=n.at_ a2,ep:=n.ep,ct:=n.c.du,ix:=n.c.du},vh bd n gb hb sb vw vo (qb n gb cb d w tn++(ta cb n.c (.slice pu n.c.lg.length cu)++(hv++X))) hw v hh,R]) (by simp) ?_;exact D.Dc [vh bd n gb hb sb vw vo (qb n gb cb d w tn++(ta cb n.c (.slice pu n.c.lg.length cu)++(hv++X))) hw v hh] _ rfl (.Ua rfl rfl .nil) ⟨rfl,rfl⟩
 rw[if_neg q8];repeat' first|refine ga ?_|refine yj (Da.enc {a.m with ep:=n.ep}) ?_|refine nh Da.z.enc (Da.enc {a.m with ep:=n.ep}) ?_
 refine D.Oe [Jc b4 {a.m with ep:=n.ep},Ba bd n gb hb sb vw vo,qb n gb cb d w tn,ta cb n.c (.slice pu n.c.lg.length cu),hv,X,hw,Ka hb n.rg v,hh,Sa sb n.dc n.rc,R] (H2:=[Jc b4 {a.m with ep:=n.ep},vh bd n gb hb sb vw vo (qb n gb cb d w tn++(ta cb n.c (.slice pu n.c.lg.length cu)++(hv++X))) hw v hh,R]) (by simp) ?_;exact D.Dc [vh bd n gb hb sb vw vo (qb n gb cb d w tn++(ta cb n.c (.slice pu n.c.lg.length cu)++(hv++X))) hw v hh] _ rfl (.Ua rfl rfl .nil) ⟨rfl,rfl⟩
end
variable{n:va}{N:Int}
namespace va
def Iz(h:mg n N)(hN:N+40<=1099511627776)(m:Da):(n.handle m).2.length<=1000:=by
 have hr:0<=n.rg/\n.rg<3:=by rw[h.rg];decide
 have h1:=eL h.nn.2 m;have h2:=zq (n:=(n.Qa m).1.1) (h.toef.Qa hN hr m).wl n.c.du n.c.st n.c.ak;have h3:=(n.Qa m).1.1.Ra.Cg;unfold handle;split
 .exact Gi _
 .simp only[Cb];split<;>(try simp only[jd])<;>omega
def Rr{f:Nat->List Da}{c:Nat}(h:∀k,(f k).length<=c):∀k,((List.range k).map f).flatten.length<=c*k
 |0=>Gi _
 |k+1=>by
  rw[range_succ,Ae,flatten_append,Cb,Nat.mul_succ];have h1:=Rr h k;have h2:=h k;simp only[map_cons,map_nil,flatten_cons,flatten_nil,append_nil];omega
def TI(h:ef n N)(hN:N+16<=1099511627776):n.tick.2.length<=100000:=by
 have bg:=h.pull hN;have mh:∀kind x r C,(n.pull.Jh kind x r C).length<=100:=λkind x r C=>by unfold va.Jh;rw[We,length_range];have:=bg.nn;omega
 have hsh:∀x,(n.pull.Qf x).length<=100:=λx=>gv bg.nn.2 x
 have h1:=Rr (c:=200) (f:=λ(x:Nat)=>if(x:Int)=n.dc then[] else n.pull.Qf (x:Int)++n.pull.Jh 13 (x:Int) n.rg (ic n.rg n.pull.Ab)) (λk=>by
  have a:=hsh (k:Int);have b:=mh 13 (k:Int) n.rg (ic n.rg n.pull.Ab)
  (try simp only[]);split
  .exact Gi _
  .rw[Cb];omega) n.fc.toNat
 have h2:=Rr (c:=100) (f:=λ(r:Nat)=>if(r:Int)=n.rg then[] else n.pull.Jh 14 n.dc (r:Int) (ic n.rg n.pull.Ab)) (λk=>by
  (try simp only[]);split
  .exact Gi _
  .exact mh ..) n.rn.toNat
 have g1:=n.pull.Kg;have g2:=n.pull.Pj;have g3:=n.pull.Cg;have d1:n.fc.toNat<=100:=by have:=h.dd;omega
 have d2:n.rn.toNat<=100:=by have:=h.rr;omega
 unfold tick;split
 .exact Gi _
 .show n.ez.length<=100000;unfold ez;simp only[Gb,Cb];split
  .simp only[jd];omega
  .rw[Cb];omega
def ZO(h:ef n N):n.flush.2.length<=1000:=by
 have h1:=zq (n:={n with s:=n.s.sync}) h.wl n.c.du n.c.st n.c.ak;unfold flush;split
 .exact Gi _
 .simp only[];omega
end va
structure UI(n n':va)(N:Int):Prop where
 ok:mg n' N
 fc:n'.fc=n.fc
 rn:n'.rn=n.rn
 nn:n'.nn=n.nn
 nd:n'.nd=n.nd
def UI.of{n':va}(ok:mg n' N)(h:n'.lay=n.lay):UI n n' N:=by
 unfold va.lay at h;injection h with h1 h2
 injection h2 with h2 h3
 injection h3 with h3 h4
 injection h4 with h4 h5
 exact⟨ok,h1,h2,h3,h4⟩
abbrev GV(b:Nat)(a:MG):Hp:=[(b,.cells (List.toArray a.enc) 54 (0,0))]
section
variable{n:va}{N T:Int}(ok:mg n N)(hN:N+40<=1099511627776)(Mi:0<=T)(hT:T+8000<=68719476736){b bd:Nat}{h hd:Hp}(hm:qg n b h)(Gz:Mm n bd T hd)
include ok hN Mi hT hm Gz
theorem Jz(a:MG)(ha: -9223372036854775808<=a.n/\a.n<=9223372036854775807):Ct prog 37 [b,bd,.agg (List.toArray a.enc)] [h,hd]
  (λr H'=>r= .bool true/\∃n' h' hd',UI n n' (N+40)/\qg n' b h'/\Mm n' bd (T+8000) hd'/\H'=[h',hd']):=by
 have hr:0<=n.rg/\n.rg<3:=by rw[ok.rg];decide
 have hdc:0<=n.dc/\n.dc<3:=by rw[ok.dc];decide
 have hmono:∀{n':va} {x:Hp},Mm n' bd T x->Mm n' bd (T+8000) x:=λ⟨vo,gb,hb,sb,vw,hl,hw,v,hh,e,at_⟩=>⟨vo,gb,hb,sb,vw,hl,hw,v,hh,e,at_.mono (by omega)⟩;have kh:=λm=>Kk hm ok.toef hN hr hdc m;have KE:=λm=>AI Gz ok.toef hN Mi hT hr hdc m;refine ce func37 λg R=>?_;repeat' first|refine vb ?_|refine Ud λ_=>?_
 rename_i b5;by_cases q1:a.k=1
 .have kl:=va.Iz ok hN a.m;obtain⟨k1,k2⟩:=ok.handle hN a.m;have kh:=kh a.m;have KE:=KE a.m;generalize n.handle a.m=r at kl k1 k2 kh KE;obtain⟨n1,ms⟩:=r;try refine ga ?_
  refine W.h0 [GV b5 a,h,hd,R] ?_;refine Ns (ml [3,1,3,2]) [GV b5 a] ?_;repeat' first|refine ga ?_|refine Xm b5 2 a.enc a.m.enc ?_
  refine ck kh ?_;rintro v1 _ ⟨h1,h2,hs1,Ji,rfl⟩;repeat' first|refine vb ?_|refine Xm b5 2 a.enc a.m.enc ?_
  refine ck KE ?_;rintro v2 _ ⟨h3,h4,Fc,XM,rfl⟩;refine vb ?_;refine cq (Sx hs1.rs Fc.rs (by omega)) ?_;try refine ga ?_
  exact Wa [h2,h4] rfl rfl ⟨rfl,_,_,_,UI.of k1 k2,Ji,XM,rfl⟩
 by_cases q2:a.k=2
 .have kl:=va.TI ok.toef (by omega);obtain⟨k1,k2⟩:=ok.tick (by omega);have kh:=Kz hm ok.toef (by omega);have KE:=FO Gz ok.toef (by omega) Mi hT;generalize n.tick=r at kl k1 k2 kh KE;obtain⟨n1,ms⟩:=r;try refine ga ?_
  refine ck kh ?_;rintro v1 _ ⟨h1,h2,hs1,Ji,rfl⟩;refine vb ?_;refine ck KE ?_;rintro v2 _ ⟨h3,h4,Fc,XM,rfl⟩;simp only[can];refine cq (Sx hs1.rs Fc.rs (by omega)) ?_;try refine ga ?_
  exact Wa [h2,h4] rfl rfl ⟨rfl,_,_,_,UI.of k1 k2,Ji,XM,rfl⟩
 by_cases q3:a.k=3
 .have kl:=va.ZO ok.toef;obtain⟨k1,k2⟩:=ok.flush;have k1:=k1.mono (M:=N+40) (by omega);have kh:=Bv hm ok.toef;have KE:=gL Gz ok.toef Mi hT;generalize n.flush=r at kl k1 k2 kh KE;obtain⟨n1,ms⟩:=r;try refine ga ?_
  refine ck kh ?_;rintro v1 _ ⟨h1,h2,hs1,Ji,rfl⟩;refine vb ?_;refine ck KE ?_;rintro v2 _ ⟨h3,h4,Fc,XM,rfl⟩;simp only[can];refine cq (Sx hs1.rs Fc.rs (by omega)) ?_;try refine ga ?_
  exact Wa [h2,h4] rfl rfl ⟨rfl,_,_,_,UI.of k1 k2,Ji,XM,rfl⟩
 by_cases q4:a.k=4
 .obtain⟨k1,k2,k3,k4,k5⟩:=ok.Pb a.n;have kh:=CF hm ok.toef ok.dn ha.1 ha.2;have KE:=nL Gz ok.toef Mi hT ha.1 ha.2;try refine ga ?_
  refine ck kh ?_;rintro _ _ ⟨rfl,h1,Ji,rfl⟩;refine vb ?_;refine ck KE ?_;rintro _ _ ⟨rfl,h2,hm2,rfl⟩;refine vb ?_;exact Wa [h1,h2] rfl rfl ⟨rfl,_,_,_,⟨k1.mono (by omega),k2,k3,k4,k5⟩,Ji,hmono hm2,rfl⟩
 by_cases q5:a.k=5
 .obtain⟨s',ux,hst,g1,g2⟩:=Ir ok.ok;obtain⟨k1,hid⟩:=ok.start ux hst;have KE:=pL Gz ok.toef Mi hT hid g2;obtain⟨lb,hb,sb,vw,hl,hw,v,hh,rfl,at_⟩:=hm;have kh:=g1 at_.lg;obtain⟨n1,yc⟩:∃n1:va,n1={n with s:=s'}:=⟨_,rfl⟩;have e1:za b n lb hb sb vw=za b n1 lb hb sb vw:=by rw[yc];exact(n.Mg hid ..).symm
  have p1:n1.hd=n.hd/\n1.rg=n.rg/\n1.dc=n.dc/\n1.rc=n.rc/\n1.ws=n.ws/\n1.s=s'/\n1.fc=n.fc/\n1.rn=n.rn/\n1.nn=n.nn/\n1.nd=n.nd:=by rw[yc];exact⟨rfl,hid.2.1,hid.1,rfl,rfl,rfl,rfl,rfl,rfl,hid.2.2⟩
  obtain⟨p1,p2,p3,p4,p5,p6,p7,p8,p9,p10⟩:=p1;rw[<-yc] at k1 KE;rw[<-p6] at kh;refine W.f0 [GV b5 a,za b n lb hb sb vw,hl,hw,La hb n.rg v,hh,Ma sb n.dc n.rc,hd,R] ?_;try refine ga ?_
  refine ck kh ?_;rintro _ _ ⟨rfl,l1,rfl,Pf⟩;refine vb ?_;refine ck KE ?_;rintro _ _ ⟨rfl,h2,hm2,rfl⟩;refine vb ?_;rw[e1];refine D.Oe [za b n1 lb hb sb vw,l1,hw,La hb n.rg v,hh,Ma sb n.dc n.rc,h2,R] (H2:=[za b n1 lb hb sb vw++(l1++(hw++(La hb n.rg v++(hh++Ma sb n.dc n.rc)))),h2,R]) (by simp) ?_;exact Wa [za b n1 lb hb sb vw++(l1++(hw++(La hb n.rg v++(hh++Ma sb n.dc n.rc)))),h2] rfl rfl ⟨rfl,_,_,_,⟨k1.mono (by omega),p7,p8,p9,p10⟩,qg.of p1 p2 p3 p4 Pf (by rw[p5];exact at_.ws) at_.hd,hmono hm2,rfl⟩
 by_cases q6:a.k=6
 .obtain⟨k1,k2⟩:=ok.collect;have kh:=Ew hm ok.toef;have KE:=EG Gz ok.toef;try refine ga ?_
  refine ck kh ?_;rintro _ _ ⟨rfl,h1,Ji,rfl⟩;refine vb ?_;refine ck KE ?_;rintro _ _ ⟨rfl,h2,hm2,rfl⟩;refine vb ?_;exact Wa [h1,h2] rfl rfl ⟨rfl,_,_,_,UI.of (k1.mono (by omega)) k2,Ji,hmono hm2,rfl⟩
 have kt:=YO ok Gz a;generalize n.oY a=m at kt;have kl:=va.Iz ok hN m;obtain⟨k1,k2⟩:=ok.handle hN m;have kh:=kh m;have KE:=KE m;by_cases q7:a.k=7\/a.k=8\/a.k=9
 .generalize n.handle m=r at kl k1 k2 kh KE;obtain⟨n1,ms⟩:=r;refine W.h0 [GV b5 a,h,hd,R] ?_;rcases q7 with q7|q7|q7
  all_goals
   have q8:a.k=7\/ ¬a.k=7:=Classical.em _;have q9:a.k=8\/ ¬a.k=8:=Classical.em _;rcases q8 with q8|q8<;>rcases q9 with q9|q9
  all_goals try(exfalso;omega)
  all_goals
   repeat' first|refine ga ?_|refine al λ_=>?_|refine yj a.enc ?_|refine cq kt ?_|refine nh Da.z.enc m.enc ?_
   rename_i b7;refine Ns (ml [2,1,2,2]) [Jc b7 m] ?_;repeat' first|refine ga ?_|refine yj m.enc ?_
   refine ck kh ?_;rintro v1 _ ⟨h1,h2,hs1,Ji,rfl⟩;repeat' first|refine vb ?_|refine yj m.enc ?_
   refine ck KE ?_;rintro v2 _ ⟨h3,h4,Fc,XM,rfl⟩;refine vb ?_;refine cq (Sx hs1.rs Fc.rs (by omega)) ?_;try refine ga ?_
   exact Wa [h2,h4] rfl rfl ⟨rfl,_,_,_,UI.of k1 k2,Ji,XM,rfl⟩
 .have q8: ¬a.k=7:=λx=>q7 (.inl x);have q9: ¬a.k=8:=λx=>q7 (.inr (.inl x));have q10: ¬a.k=9:=λx=>q7 (.inr (.inr x));try refine ga ?_
  exact Wa [h,hd] rfl rfl ⟨rfl,n,h,hd,⟨ok.mono (by omega),rfl,rfl,rfl,rfl⟩,hm,hmono Gz,rfl⟩
end
variable{n:Int}{k:Nat}
def DF{rs:List Rec}(hg:∀r∈rs,r.code=0):(bytes rs).length<=300*rs.length:=by
 induction rs with
 |nil=>exact Gi _
 |cons r t ih=>
  have h1:=(Rec.good (hg r (zf ..))).yh;have h2:=ih λx hx=>hg x (Rn _ hx);rw[qe,Cb,Gb];omega
def ZR{rs:List Rec}(hg:∀r∈rs,r.code=0)(hl:rs.length<=10){m:Int}(m0:0<=m)(m1:m<=2):Ce [⟨n,rs,k⟩] m=true:=by
 have h:=DF hg;unfold Ce;rw[decide_eq_true_iff,Qe];simp only[map_cons,map_nil,sum_cons,sum_nil,Gb,jd];omega
def aS{rs:List Rec}{r:Rec}(hg:∀r∈rs,r.code=0)(hl:rs.length<=10)(hc:r.code=0):(Bb [⟨n,rs,k⟩] r).1=[⟨n,rs++[r],k⟩]:=by
 have h:=DF hg;have hle:=(Rec.good hc).yh;unfold Bb;rw[if_neg (by simpa using hc)];simp only[List.getLast?_singleton,dropLast_singleton];rw[if_neg (by omega),if_neg (by rw[Qe];simp only[map_cons,map_nil,sum_cons,sum_nil];omega)];rfl
def qj:Va:=(Ic 1).cfg
def E0:ByteArray:=⟨#[107]⟩
def F0:ByteArray:=⟨#[118]⟩
def Lz:CS:=⟨0,0,0,some (Ic 1),1,0,[],0,0,0,0,true⟩
def NG:ya:=⟨0,0,1,1,0,0,E0,F0,false,V9.z,0,1⟩
def bS:CS:=⟨0,0,0,some (Ic 1),1,0,[NG],0,0,0,0,true⟩
def pY:CS:=⟨0,0,0,some (Ic 1),1,0,[NG],1,1,0,0,true⟩
def cS:(CS.new 0 0 0).enter qj=((true,0),Lz):=by kernel_rfl
def HV:Lz.Xf E0 F0 false V9.z 0 0 1=((1,0),bS):=by kernel_rfl
def IV:bS.sync=pY:=by kernel_rfl
def G6:Ea:= .up [] (CS.new 0 0 0) 0
def ME(rs:List Rec)(k:Nat):List Lf:=[⟨1,rs,k⟩]
def aP:Nd qj:=vv (dS (by decide) (by decide))
def VI:(de qj 0).code=0:=tv aP (Int.le_refl 0) (by decide)
def Q2:Xc NG:=by decide+kernel
def fS:G6.enter qj=((true,0),.up (ME [Nc,de qj 0] 2) Lz 0):=by
 have hr:Ce [] 2=true:=by decide
 have h:Kc [] (CS.new 0 0 0) qj=((true,0),Lz,ME [Nc,de qj 0] 2):=by
  unfold Kc;rw[if_pos hr,cS,if_pos rfl];show((true,(0:Int)),Lz,Xe (Bb (Qj []).1 (de qj 0)).1)=_;rw[ov Ge.nil hr (by decide) (by decide)];show((true,(0:Int)),Lz,Xe (Bb [⟨1,[Nc],1⟩] (de qj 0)).1)=_;rw[vz VI];rfl
 show((Kc [] (CS.new 0 0 0) qj).1,Ea.up (Kc [] (CS.new 0 0 0) qj).2.2 (Kc [] (CS.new 0 0 0) qj).2.1 0)=_;rw[h]
def R2:∀r∈[Nc,de qj 0],r.code=0:=by
 intro r hr;rcases mem_cons.1 hr with rfl|hr
 .exact Ph
 .rw[mem_singleton.1 hr];exact VI
def qY{rs:List Rec}(hg:∀r∈rs,r.code=0)(hl:rs.length<=10){c c':CS}{key val:ByteArray}{op:Int}{r:Int×Int}{e:ya}(hp:c.Xf key val false V9.z 0 0 op=(r,c'))(he:c'.lg=c.lg++[e])(hr:Xc e):
  (Ea.up (ME rs k) c 0).put key val false V9.z 0 0 op=(r,.up (ME (rs++[Im e]) k) c' 0):=by
 have hrm:Ce (ME rs k) 1=true:=ZR hg hl (by decide) (by decide)
 have h:Vc (ME rs k) c key val false V9.z 0 0 op=(r,c',ME (rs++[Im e]) k):=by
  unfold Vc;rw[if_pos hrm,hp];simp only[];rw[Mr _ c c' e he];unfold ME;rw[aS hg hl (aF hr)]
 show((Vc (ME rs k) c key val false V9.z 0 0 op).1,Ea.up (Vc (ME rs k) c key val false V9.z 0 0 op).2.2 (Vc (ME rs k) c key val false V9.z 0 0 op).2.1 0)=_;rw[h]
def iS:(G6.enter qj).2.put E0 F0 false V9.z 0 0 1=((1,0),.up (ME [Nc,de qj 0,Im NG] 2) bS 0):=by
 rw[fS];exact qY R2 (by decide) HV rfl Q2
def S2:((G6.enter qj).2.put E0 F0 false V9.z 0 0 1).2.sync= .up (ME [Nc,de qj 0,Im NG] 3) pY 0:=by
 rw[iS];show Ea.up (Xe (ME [Nc,de qj 0,Im NG] 2)) bS.sync 0=_;rw[IV];rfl
def bC(s:Ea)(ws:List Wt):va:=⟨1,1,1,1,s,ws,[],V9.z,V3.z,V3.z⟩
def XE:Bl:=⟨3,0,0,0⟩
def uQ:Da:={Da.z with kind:=3,fr:=XE,ep:=1,op:=1,tr:=1,key:=E0,val:=F0}
def WI:Ea:= .up (ME [Nc,de qj 0,Im NG] 2) bS 0
def xx:Ea:= .up (ME [Nc,de qj 0,Im NG] 3) pY 0
def rY:va.new 1 1 1 1 0 0 0=bC (.up (ME [Nc,de qj 0] 2) Lz 0) []:=by
 show bC ((G6.enter qj).2) []=_;rw[fS]
def EF:(va.new 1 1 1 1 0 0 0).handle uQ=(bC WI [⟨XE,1,1,1⟩],[]):=by
 have hp:(Ea.up (ME [Nc,de qj 0] 2) Lz 0).put E0 F0 false V9.z 0 0 1=((1,0),WI):=by
  have h:=iS;rw[fS] at h;exact h
 rw[rY];unfold va.handle;rw[show(bC (.up (ME [Nc,de qj 0] 2) Lz 0) []).s.Xa=true from rfl,if_neg (by decide)]
 have h0:(bC (.up (ME [Nc,de qj 0] 2) Lz 0) []).Qa uQ=((bC WI [⟨XE,1,1,1⟩],[]),false):=by
  rw[va.kV rfl];unfold va.put;rw[if_neg (by decide+kernel)];show(_,false)=_;rw[show(bC (.up (ME [Nc,de qj 0] 2) Lz 0) []).s.put uQ.key uQ.val uQ.dead uQ.dp uQ.ct uQ.fr.nd uQ.op=((1,0),WI) from hp];rfl
 simp only[];rw[h0];rfl
def H6:Da:={Da.z with kind:=4,fr:=⟨1,0,0,0⟩,to:=XE,op:=1,tr:=1,has:=true,en:=NG}
def XI:(bC WI [⟨XE,1,1,1⟩]).flush=(bC xx [],[H6]):=by
 unfold va.flush;rw[show(bC WI [⟨XE,1,1,1⟩]).s.Xa=true from rfl,if_neg (by decide)]
 have hs:(bC WI [⟨XE,1,1,1⟩]).s.sync=xx:=by
  have h:=S2;rw[iS] at h;exact h
 rw[hs];show((bC xx [⟨XE,1,1,1⟩]).Ra,(bC xx [⟨XE,1,1,1⟩]).Gh 0 0 0)=_
 kernel_rfl
def mg.new{fc rn:Int}{nn:Nat}{cl nd:Int}(h1:1<=fc/\fc<=3)(h2:1<=rn/\rn<=3)(h3:1<=nn/\nn<=4):mg (va.new fc rn nn cl 0 0 nd) 2:=by
 have hid:=Ea.xh (.up [] (CS.new 0 0 nd) 0) (Ic nn).cfg;exact{ok:=Ea.ok.enter (s:= .up [] (CS.new 0 0 nd) 0) (N:=0) (LI.nil 0 0 nd) (by decide) _,hl:=Gi _,hd:=λe he=>(nomatch he),kn:=λk hk=>(by show V9.z.at (k*3+(Ea.fresh 0 0 nd nn).c0.rg.toNat)=0;rw[show(Ea.fresh 0 0 nd nn).c0.rg=0 from hid.2.1];exact V9.FV (by show k*3+0<9;omega)),cs:=Ea.YI (s:= .up [] (CS.new 0 0 nd) 0) (N:=0) (LI.nil 0 0 nd) (Je.new 0 0 nd) _,wl:=Gi _,wi:=λx hx=>(nomatch hx),nn:=(by show 0<=(nn:Int)/\(nn:Int)<=100;omega),dd:=(by show 0<=fc/\fc<=100;omega),rr:=(by show 0<=rn/\rn<=100;omega),dc:=hid.1,rg:=hid.2.1,wt:=λw hw=>(nomatch hw),ds:= .nil,dn:=λhd=>(by have hd:(Ea.fresh 0 0 nd nn).Xa=false:=hd;unfold Ea.fresh at hd;rw[Ea.Ez] at hd;cases hd)}
def va.OG(fc rn:Int)(nn:Nat)(cl nd:Int):(va.new fc rn nn cl 0 0 nd).lay=(fc,rn,(nn:Int),nd,true):=by
 have hid:=Ea.xh (.up [] (CS.new 0 0 nd) 0) (Ic nn).cfg;show(fc,rn,(nn:Int),(Ea.fresh 0 0 nd nn).c0.nd,(Ea.fresh 0 0 nd nn).Xa)=_;rw[show(Ea.fresh 0 0 nd nn).c0.nd=nd from hid.2.2,show(Ea.fresh 0 0 nd nn).Xa=true from by unfold Ea.fresh;rw[Ea.Ez];rfl]
def Tx:Ct prog 10 [] [] (λr H'=>r= .bool true/\H'=[]):=by
 have kn:Ct prog 12 [.agg (List.toArray [.int .i64 1,.int .i64 1,.int .i64 1,.int .i64 1]),.int .i64 0,.int .i64 0,.int .i64 0] [] (λr H'=>∃b h',r= .tuple #[.pointer (some ⟨b,0,none⟩),.int .i64 0]/\qg (va.new 1 1 1 1 0 0 0) b h'/\H'=[h']):=
  Ux (fc:=1) (rn:=1) (nn:=1) (cl:=1) (dc:=0) (rg:=0) (nd:=0) (by decide) (by decide) (by decide) (by decide) (by decide) (by decide) (by decide)
 have OE:mg (va.new 1 1 1 1 0 0 0) 2:=mg.new (by decide) (by decide) (by decide);have Bh:=(OE.handle (by decide) uQ).1;rw[EF] at Bh;have Oj:=Bh.flush.1;rw[XI] at Oj;refine ce func10 λg R=>?_;repeat' first|refine vb ?_|refine gS (λ_=>?_) λ_=>?_|refine Ud λ_=>?_|refine al λ_=>?_|refine Vf [.int .i64 1,.int .i64 1,.int .i64 1,.int .i64 1] ?_
 refine ck kn ?_;rintro _ _ ⟨b,h0,rfl,hm0,rfl⟩;simp only[can];have kh:=Kk hm0 OE.toef (by decide) (by rw[OE.rg];decide) (by rw[OE.dc];decide) uQ;rw[EF] at kh;have I6:=hm0;obtain⟨lb,hb,sb,vw,hl,hw,v,hh,rfl,at_⟩:=hm0;obtain⟨cb,d,w,u,hv,X,rfl,Mf⟩:=va.FF at_.lg;generalize hn0:va.new 1 1 1 1 0 0 0=n0 at*;refine WX.f0 [za b n0 lb hb sb vw,xb n0 lb cb d w,oa cb n0.c u,hv,X,hw,La hb n0.rg v,hh,Ma sb n0.dc n0.rc,R] ?_;repeat' first|refine ga ?_|refine gS (λ_=>?_) λ_=>?_|refine Ud λ_=>?_|refine al λ_=>?_|refine Vf (t:=35) XE.enc ?_|refine Vf (t:=52) uQ.enc ?_|refine nh Bl.z.enc XE.enc ?_|refine yj XE.enc ?_
 rename_i b3;refine WX.f0 [Fp b3 XE,yx b n0 lb hb sb vw (xb n0 lb cb d w++(oa cb n0.c u++(hv++X))) hw v hh,R] ?_;refine ck kh ?_;rintro r1 _ ⟨h1,h2,hs1,Ji,rfl⟩;simp only[can];have Ji:qg (bC WI [⟨XE,1,1,1⟩]) b h2:=Ji;have kw:=GF Ji;have kf:=Bv Ji Bh.toef;rw[XI] at kf;repeat' first|refine ga ?_|refine gS (λ_=>?_) λ_=>?_|refine Ud λ_=>?_|refine al λ_=>?_|refine cq kw ?_
 refine ck kf ?_;rintro r2 _ ⟨h3,h4,Fc,XM,rfl⟩;simp only[can];have XM:qg (bC xx []) b h4:=XM;have kw2:=GF XM;obtain⟨lb2,vK,sb2,sx,Vy,Gu,v2,Tt,rfl,at2⟩:=XM;obtain⟨S7,d2,w2,u2,IQ,X2,rfl,sO⟩:=va.FF at2.lg;have ks:=Ag (bC xx []).c S7 u2;have Fc:ia 52 [H6] r2 h3:=Fc;have hs1:ia 52 [] r1 h1:=hs1;obtain⟨p1,c1,rfl⟩:=hs1.len;obtain⟨p3,c3,rfl⟩:=Fc.len;have HU:=Fc.rs;have hx3:[H6][0]? =some H6:=rfl;have had:Db [.i,.i,.i,.i] XE.enc XE.enc=some true:=Zt rfl;repeat' first|refine ga ?_|refine gS (λ_=>?_) λ_=>?_|refine Ud λ_=>?_|refine al λ_=>?_
 refine wq ?_;repeat' first|refine ga ?_|refine gS (λ_=>?_) λ_=>?_|refine Ud λ_=>?_|refine al λ_=>?_|refine lF (us:=XE.enc) rfl HU ?_ (hk:=hx3) (ho:=rfl)|refine yj XE.enc ?_|refine WX.Vu rfl rfl had rfl ?_|refine cq kw2 ?_
 refine WX.f0 [h3,za b (bC xx []) lb2 vK sb2 sx,xb (bC xx []) lb2 S7 d2 w2,oa S7 (bC xx []).c u2,IQ,X2,Gu,La vK (bC xx []).rg v2,Tt,Ma sb2 (bC xx []).dc (bC xx []).rc,h1,Fp b3 XE,R] ?_;repeat' first|refine ga ?_|refine gS (λ_=>?_) λ_=>?_|refine Ud λ_=>?_|refine al λ_=>?_|refine cq ks ?_
 exact vj []
def JV{fc rn nn cl nd:Int}{Uf:List MG}{v:Value}{hs:Hp}(hx:Rs Uf v hs)(hlen:Uf.length<=250)(hb:∀a∈Uf,-9223372036854775808<=a.n/\a.n<=9223372036854775807):
  Ct prog 23 [.agg (List.toArray [fc,rn,nn,cl]),nd,v] [hs]
   (λr H'=>(r= .tuple #[.pointer none,.pointer none]/\H'=[hs])\/∃n b bd h hd,r= .tuple #[.pointer (some ⟨b,0,none⟩),.pointer (some ⟨bd,0,none⟩)]/\(mg n 20000/\GO fc rn nn cl nd)/\n.fc=fc/\n.rn=rn/\n.nn=nn/\n.nd=nd/\qg n b h/\Mm n bd 3000000 hd/\H'=[h,hd,hs]):=by
 by_cases hok:GO fc rn nn cl nd
 .obtain⟨h1,h2,h3,h4,h5⟩:=id hok;obtain⟨nn,rfl⟩:∃k:Nat,nn=(k:Int):=⟨nn.toNat,by omega⟩;have kn:=Ux (dc:=0) (rg:=0) h1 h2 (show 1<=nn/\nn<=4 by omega) h4 (by omega) (by omega) h5;have kd:=gz (dc:=0) (rg:=0) h1 h2 (show 1<=nn/\nn<=4 by omega) h4 (by omega) (by omega) h5;have OE:mg (va.new fc rn nn cl 0 0 nd) 2:=mg.new h1 h2 (by omega);have KV:=va.OG fc rn nn cl nd;generalize va.new fc rn nn cl 0 0 nd=n0 at*
  obtain⟨q1,q2,q3,q4⟩:n0.fc=fc/\n0.rn=rn/\n0.nn=(nn:Int)/\n0.nd=nd:=by
   unfold va.lay at KV;injection KV with a1 a2
   injection a2 with a2 a3
   injection a3 with a3 a4
   injection a4 with a4 a5
   exact⟨a1,a2,a3,a4⟩
  refine ce func23 λg R=>?_;repeat' first|refine vb ?_|refine gS (λ_=>?_) λ_=>?_|refine Ud λ_=>?_|refine al λ_=>?_|refine yj [fc,rn,.int .i64 (nn:Int),cl] ?_
  rename_i b3;refine ck kn ?_;rintro _ _ ⟨b,h0,rfl,hm0,rfl⟩;repeat' first|refine vb ?_|refine gS (λ_=>?_) λ_=>?_|refine Ud λ_=>?_|refine al λ_=>?_|refine yj [fc,rn,.int .i64 (nn:Int),cl] ?_
  refine ck kd ?_;rintro _ _ ⟨bd,g0,rfl,jS,rfl⟩;repeat' first|refine vb ?_|refine gS (λ_=>?_) λ_=>?_|refine Ud λ_=>?_|refine al λ_=>?_
  refine W.lo (α:=Nat×va×Hp×Hp) (λy=>y.1<=Uf.length/\mg y.2.1 (2+40*y.1)/\y.2.1.fc=fc/\y.2.1.rn=rn/\y.2.1.nn=(nn:Int)/\y.2.1.nd=nd/\qg y.2.1 b y.2.2.1/\Mm y.2.1 bd (486+8000*y.1) y.2.2.2)
   (λy=>[(2,v),(8,.pointer (some ⟨b,0,none⟩)),(10,.pointer (some ⟨bd,0,none⟩)),(12,.int .i64 (y.1:Int))]) (λy=>[y.2.2.1,y.2.2.2,hs,R]) (λy=>Uf.length - y.1) (0,n0,h0,g0) ⟨Gi _,OE,q1,q2,q3,q4,hm0,jS⟩ ?_
  rintro⟨k,n,h,hd⟩ ⟨hk,Sr,q1,q2,q3,q4,hm,Gz⟩;simp only[] at hk Sr q1 q2 q3 q4 hm Gz⊢;by_cases hlt:k<Uf.length
  .obtain⟨a,ha⟩:=Sh hlt;have kc:=Jz Sr (by omega) (by omega) (by omega) hm Gz a (hb a (mem_of_getElem? ha));repeat' first|refine ga ?_|refine gS (λ_=>?_) λ_=>?_|refine Ud λ_=>?_|refine al λ_=>?_|refine rG hx ha ?_
   refine ck kc ?_;rintro _ _ ⟨rfl,n',h',hd',st,hm',kS,rfl⟩;repeat' first|refine vb ?_|refine gS (λ_=>?_) λ_=>?_|refine Ud λ_=>?_|refine al λ_=>?_
   exact D.round (k+1,n',h',hd') ⟨by simp only[];omega,st.ok.mono (by omega),st.fc.trans q1,st.rn.trans q2,st.nn.trans q3,st.nd.trans q4,hm',(by
    have e:(486:Int)+8000*(k:Nat)+8000=486+8000*((k+1:Nat):Int):=by omega
    simp only[];rw[<-e];exact kS)⟩ (by simp only[];omega) (by repeat(first|exact Ca.nil|refine Ca.cons rfl ?_)) (Ga.qa inferInstance)
  .obtain rfl:k=Uf.length:=by omega
   repeat' first|refine ga ?_|refine gS (λ_=>?_) λ_=>?_|refine Ud λ_=>?_|refine al λ_=>?_
   exact D.Vb [h,hd,hs] _ rfl rfl rfl (.inr ⟨n,b,bd,h,hd,rfl,⟨Sr.mono (by omega),hok⟩,q1,q2,q3,q4,hm,(by
    obtain⟨vo,gb,hb,sb,vw,hl,hw,v,hh,e,at_⟩:=Gz;exact⟨vo,gb,hb,sb,vw,hl,hw,v,hh,e,at_.mono (by omega)⟩),rfl⟩)
 .have kn:=Jr hok;have kd:=Up hok;refine ce func23 λg R=>?_;repeat' first|refine vb ?_|refine gS (λ_=>?_) λ_=>?_|refine Ud λ_=>?_|refine al λ_=>?_|refine yj [fc,rn,nn,cl] ?_|refine cq kn ?_|refine cq kd ?_
  exact D.Vb [hs] _ rfl rfl rfl (.inl ⟨rfl,rfl⟩)
variable{k:Int}{l:List Da}
def YM(a:MG):Prop:=(-9223372036854775808<=a.n/\a.n<=9223372036854775807)/\a.m.key.size<=562949953421312/\a.m.val.size<=562949953421312/\a.m.en.key.size<=562949953421312/\a.m.en.val.size<=562949953421312
def va.zx(n:va):List Da:=if n.sure=false then[] else
 ((List.range n.fc.toNat).map λ(x:Nat)=>if(x:Int)=n.dc then[] else n.Qf (x:Int)++n.Jh 13 (x:Int) n.rg (ic n.rg n.Ab)).flatten++
 ((List.range n.rn.toNat).map λ(r:Nat)=>if(r:Int)=n.rg then[] else n.Jh 14 n.dc (r:Int) (ic n.rg n.Ab)).flatten
def va.LV{n:va}(hu:n.s.Xa=true):n.tick=(n.pull,{n.out 10 n.Cc with ep:=n.ep}::(n.pull.Jd++(n.pull.Cj++(n.pull.ve++n.pull.zx)))):=by
 obtain⟨r1,r2,-,-,-,r6,r7,-⟩:=n.Dd;unfold va.tick;rw[if_neg (by rw[hu];decide)];unfold va.ez va.zx;rw[r1,r2,r6,r7]
def va.Tr(n:va)(x:Int):∀y∈n.Qf x,y.kind=12:=by
 intro y hy;unfold va.Qf at hy;split at hy
 .exact nomatch hy
 .obtain⟨i,-,rfl⟩:=mem_map.1 hy;rfl
def va.Cv(n:va)(k x r:Int)(c:V3):∀y∈n.Jh k x r c,y.kind=k:=by
 intro y hy;obtain⟨i,-,rfl⟩:=mem_map.1 hy;rfl
def jf(k:Int)(l:List Da):Nat:=l.countP λy=>decide (y.kind=k)
def zh(k:Int)(a b:List Da):jf k (a++b)=jf k a+jf k b:=countP_append
def oS(h:∀y∈l,y.kind=k):jf k l=l.length:=countP_eq_length.2 λy hy=>Fi (h y hy)
def Rh(h:∀y∈l,y.kind≠k):jf k l=0:=countP_eq_zero.2 λy hy=>by simpa using h y hy
def HF{i:Nat}{y:Da}(h:l[i]? =some y):jf k (l.take (i+1))=jf k (l.take i)+if y.kind=k then 1 else 0:=by
 unfold jf;rw[take_add_one,h,countP_append];show _+List.countP _ [y]=_;rw[countP_singleton];by_cases c:y.kind=k
 .rw[if_pos (Fi c),if_pos c]
 .rw[if_neg (by simpa using c),if_neg c]
def va.bP(n:va):∀y∈n.Jd,y.kind=8/\y.ct=n.c.du/\y.ix=n.c.st/\y.to.nd=Ed n.c.co n.nd:=by
 intro y hy;unfold va.Jd at hy;split at hy
 .rw[mem_singleton.1 hy];exact⟨rfl,rfl,rfl,rfl⟩
 .exact nomatch hy
def va.dP(n:va):∀y∈n.Cj,y.kind=7:=by
 intro y hy;unfold va.Cj at hy;split at hy
 .rw[mem_singleton.1 hy];rfl
 .exact nomatch hy
def va.PG(n:va):∀y∈n.ve,y.kind=11:=by
 intro y hy;unfold va.ve at hy;split at hy
 .rw[mem_singleton.1 hy];rfl
 .exact nomatch hy
def Zx{b:ByteArray}(h:b.data.toList.length<=reachBytes):b.size<=562949953421312:=by
 rw[show b.data.toList.length=b.size from Array.length_toList] at h;unfold reachBytes at h;omega
def jX(m:Da):Prop:=m.key.size<=562949953421312/\m.val.size<=562949953421312/\m.en.key.size<=562949953421312/\m.en.val.size<=562949953421312
section
variable{H:Type}{enc:TypeId×Value->H}{w:World}{cs:List Value}
def zS(h:Rf enc prog w 35 cs):∃a:Bl,cs=a.enc:=by
 have hl:=h.len (i:=0)
 match cs,hl with
 |[c0,c1,c2,c3],_=>
  obtain⟨n0,e0,_⟩:=(h.field 0).int;obtain⟨n1,e1,_⟩:=(h.field 1).int;obtain⟨n2,e2,_⟩:=(h.field 2).int;obtain⟨n3,e3,_⟩:=(h.field 3).int;cases e0;cases e1;cases e2;cases e3;exact⟨⟨n0,n1,n2,n3⟩,rfl⟩
set_option maxRecDepth 100000 in
theorem AS(h:Rf enc prog w 52 cs):∃m:Da,cs=m.enc/\jX m:=by
 have hl:cs.length=74:=h.len (i:=0);obtain⟨kind,e0,_⟩:=(h.field 0).int;have h1:Rf enc prog w 35 ((cs.drop 1).take 4):=h.field 1;obtain⟨fr,e1⟩:=zS h1;have h2:Rf enc prog w 35 ((cs.drop 5).take 4):=h.field 2;obtain⟨to,e2⟩:=zS h2;obtain⟨ep,e3,_⟩:=(h.field 3).int;obtain⟨ix,e4,_⟩:=(h.field 4).int;obtain⟨ct,e5,_⟩:=(h.field 5).int;obtain⟨op,e6,_⟩:=(h.field 6).int;obtain⟨tr,e7,_⟩:=(h.field 7).int;have h8:Rf enc prog w 40 ((cs.drop 14).take 13):=h.field 8;obtain⟨cf,e8⟩:=vY h8;have h9:Rf enc prog w 49 ((cs.drop 27).take 20):=h.field 9;obtain⟨en,e9,s3,s4⟩:=wY h9;obtain⟨has,xQ⟩:=(h.field 10).bool;obtain⟨key,I0,s1⟩:=(h.field 11).string;obtain⟨val,Y2,s2⟩:=(h.field 12).string;obtain⟨dead,sY⟩:=(h.field 13).bool;obtain⟨snap,uY⟩:=(h.field 14).bool;have h15:Rf enc prog w 47 ((cs.drop 52).take 9):=h.field 15;obtain⟨dp,e15⟩:=OL h15;have nP:Rf enc prog w 47 ((cs.drop 61).take 9):=h.field 16;obtain⟨av,e16⟩:=OL nP;have h17:Rf enc prog w 50 ((cs.drop 70).take 3):=h.field 17;obtain⟨c0,c1,c2,e17⟩:=eH h17;obtain⟨code,E3,_⟩:=(h.field 18).int;have e0:(cs.drop 0).take 1=[.int .i64 kind]:=e0;have e3:(cs.drop 9).take 1=[.int .i64 ep]:=e3;have e4:(cs.drop 10).take 1=[.int .i64 ix]:=e4;have e5:(cs.drop 11).take 1=[.int .i64 ct]:=e5;have e6:(cs.drop 12).take 1=[.int .i64 op]:=e6;have e7:(cs.drop 13).take 1=[.int .i64 tr]:=e7;have xQ:(cs.drop 47).take 1=[.bool has]:=xQ;have I0:(cs.drop 48).take 1=[.string key]:=I0;have Y2:(cs.drop 49).take 1=[.string val]:=Y2;have sY:(cs.drop 50).take 1=[.bool dead]:=sY;have uY:(cs.drop 51).take 1=[.bool snap]:=uY;have E3:(cs.drop 73).take 1=[.int .i64 code]:=E3;refine⟨⟨kind,fr,to,ep,ix,ct,op,tr,cf,en,has,key,val,dead,snap,dp,av,c0,c1,c2,code⟩,?_,Zx s1,Zx s2,Zx s3,Zx s4⟩;have a0:=lf cs 0 1;rw[e0] at a0;have a1:=lf cs 1 4;rw[e1] at a1;have a2:=lf cs 5 4;rw[e2] at a2;have a3:=lf cs 9 1;rw[e3] at a3;have a4:=lf cs 10 1;rw[e4] at a4;have a5:=lf cs 11 1;rw[e5] at a5;have a6:=lf cs 12 1;rw[e6] at a6;have a7:=lf cs 13 1;rw[e7] at a7;have a8:=lf cs 14 13;rw[e8] at a8;have a9:=lf cs 27 20;rw[e9] at a9;have a10:=lf cs 47 1;rw[xQ] at a10;have a11:=lf cs 48 1;rw[I0] at a11;have a12:=lf cs 49 1;rw[Y2] at a12;have K6:=lf cs 50 1;rw[sY] at K6;have L6:=lf cs 51 1;rw[uY] at L6;have a15:=lf cs 52 9;rw[e15] at a15;have a16:=lf cs 61 9;rw[e16] at a16;have a17:=lf cs 70 3;rw[e17] at a17;have o8:=lf cs 73 1;rw[E3] at o8;rw[show cs.drop (73+1)=[] from drop_eq_nil_of_le (by omega)] at o8;rw[drop_zero] at a0;rw[a0,show 0+1=1 from rfl,a1,show 1+4=5 from rfl,a2,show 5+4=9 from rfl,a3,show 9+1=10 from rfl,a4,show 10+1=11 from rfl,a5,show 11+1=12 from rfl,a6,show 12+1=13 from rfl,a7,show 13+1=14 from rfl,a8,show 14+13=27 from rfl,a9,show 27+20=47 from rfl,a10,show 47+1=48 from rfl,a11,show 48+1=49 from rfl,a12,show 49+1=50 from rfl,K6,show 50+1=51 from rfl,L6,show 51+1=52 from rfl,a15,show 52+9=61 from rfl,a16,show 61+9=70 from rfl,a17,show 70+3=73 from rfl,o8];rfl
end
def iN:PE prog 52 Da (λ_ m=>jX m):=Go.Sl.gJ λH enc w cs h=>AS h
structure BS where
 (a b c e:Int)
def BS.enc(l:BS):List Value:=[l.a,l.b,l.c,l.e]
instance:Nb BS:=⟨4,BS.enc,λ_=>rfl,λ_=>rfl,by decide⟩
def FL:PE prog 23 BS (λ_ _=>True):=Go.Sl.gJ λH enc w cs h=>by
 have hl:=h.len (i:=0)
 match cs,hl with
 |[c0,c1,c2,c3],_=>
  obtain⟨n0,e0,i0⟩:=(h.field 0).int;obtain⟨n1,e1,i1⟩:=(h.field 1).int;obtain⟨n2,e2,i2⟩:=(h.field 2).int;obtain⟨n3,e3,i3⟩:=(h.field 3).int;cases e0;cases e1;cases e2;cases e3;exact⟨⟨n0,n1,n2,n3⟩,rfl,trivial⟩
set_option maxRecDepth 100000 in
theorem GL:PE prog 54 MG (λ_ a=>YM a):=Go.Sl.gJ λH enc w cs h=>by
 have hl:cs.length=76:=h.len (i:=0);obtain⟨k,e0,_⟩:=(h.field 0).int;obtain⟨n,e1,hn⟩:=(h.field 1).int;have h2:Rf enc prog w 52 ((cs.drop 2).take 74):=h.field 2;obtain⟨m,e2,hm⟩:=AS h2;have e0:(cs.drop 0).take 1=[.int .i64 k]:=e0;have e1:(cs.drop 1).take 1=[.int .i64 n]:=e1;refine⟨⟨k,n,m⟩,?_,⟨hn.1,hn.2⟩,hm⟩;have a0:=lf cs 0 1;rw[e0] at a0;have a1:=lf cs 1 1;rw[e1] at a1;have a2:=lf cs 2 74;rw[e2,show cs.drop (2+74)=[] from drop_eq_nil_of_le (by omega),append_nil] at a2;rw[drop_zero] at a0;rw[a0,show 0+1=1 from rfl,a1,show 1+1=2 from rfl,a2];rfl
def HL{n:Nat}(hl:n*prog.bytesOf 54<=reachBytes):n<=1099511627776:=by
 rw[show prog.bytesOf 54=632 by kernel_rfl] at hl;unfold reachBytes at hl;omega
section
variable(n:va)(b lb hb sb:Nat)(vw:Value)
def Wr:Ct prog 39 [b] [za b n lb hb sb vw] (λr H'=>r= .agg (List.toArray n.kn.enc)/\H'=[za b n lb hb sb vw]):=by
 refine ce func39 λg R=>?_;repeat' first|refine vb ?_|refine gS (λ_=>?_) λ_=>?_|refine Ud λ_=>?_|refine al λ_=>?_|refine Xm b 10 (n.cells lb hb sb vw) n.kn.enc ?_|refine nh V9.z.enc n.kn.enc ?_
 exact D.Dc [za b n lb hb sb vw] _ rfl (.Ua rfl rfl .nil) ⟨rfl,rfl⟩
def eP:Ct prog 34 [b] [za b n lb hb sb vw] (λr H'=>r= .agg (List.toArray n.mr.enc)/\H'=[za b n lb hb sb vw]):=by
 refine ce func34 λg R=>?_;repeat' first|refine vb ?_|refine gS (λ_=>?_) λ_=>?_|refine Ud λ_=>?_|refine al λ_=>?_|refine Xm b 20 (n.cells lb hb sb vw) n.mr.enc ?_|refine nh V3.z.enc n.mr.enc ?_
 exact D.Dc [za b n lb hb sb vw] _ rfl (.Ua rfl rfl .nil) ⟨rfl,rfl⟩
def zo{p}{c:Nat}:Ct prog 40 [b] [za b n lb hb sb (.slice p n.ws.length c)] (λr H'=>r= .int .i64 (n.ws.length:Int)/\H'=[za b n lb hb sb (.slice p n.ws.length c)]):=by
 refine ce func40 λg R=>?_;repeat' first|refine vb ?_|refine gS (λ_=>?_) λ_=>?_|refine Ud λ_=>?_|refine al λ_=>?_
 exact vj [za b n lb hb sb (.slice p n.ws.length c)]
def Jv{v:Value}{hh:Hp}(hs:Rs n.hd v hh):Ct prog 38 [b] [za b n lb hb sb vw,La hb n.rg v,hh] (λr H'=>r= .int .i64 (n.hd.length:Int)/\H'=[za b n lb hb sb vw,La hb n.rg v,hh]):=by
 have h1:=MV hs hb n.rg;refine ce func38 λg R=>?_;repeat' first|refine vb ?_|refine gS (λ_=>?_) λ_=>?_|refine Ud λ_=>?_|refine al λ_=>?_|refine cq h1 ?_
 exact vj [za b n lb hb sb vw,La hb n.rg v,hh]
def bH(x:Int):Ct prog 43 [b,x] [za b n lb hb sb vw,Ma sb n.dc n.rc] (λr H'=>r= .int .i64 (if Xd n.dc x then n.rc.get x else 0)/\H'=[za b n lb hb sb vw,Ma sb n.dc n.rc]):=by
 have h1:=Fw sb n.dc x n.rc;refine ce func43 λg R=>?_;repeat' first|refine vb ?_|refine gS (λ_=>?_) λ_=>?_|refine Ud λ_=>?_|refine al λ_=>?_|refine cq h1 ?_
 exact vj [za b n lb hb sb vw,Ma sb n.dc n.rc]
end
end Go.Proofs.YthebagfahkebiaaGreat
