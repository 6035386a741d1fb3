/- Texts of one road. -/
import Derived.Test.YthebagfahkebiaaGreatQBF
import Derived.Test.YthebagfahkebiaaGreatQBG
set_option linter.all false
set_option maxHeartbeats 8000000
set_option maxRecDepth 20000
namespace Go.Proofs.YthebagfahkebiaaGreat
open Go Go.Sl Go.Proofs.Tryz List
variable{n n1:va}{b:Nat}{T:Int}{vw vo:Value}{hl hw hh:Hp}
abbrev vh(b:Nat)(n:va)(gb hb sb:Nat)(vw vo:Value)(hl hw:Hp)(v:Value)(hh:Hp):Hp:=Ba b n gb hb sb vw vo++(hl++(hw++(Ka hb n.rg v++(hh++Sa sb n.dc n.rc))))
structure Nq(n:va)(gb:Nat)(T:Int)(vw:Value)(hl hw:Hp)(v:Value)(hh:Hp):Prop where
 lg:Zf n.s gb T hl
 ws:ia 212 n.ws vw hw
 hd:ia 49 n.hd v hh
def Yo(n:va)(b:Nat)(T:Int)(vo:Value)(h:Hp):Prop:=∃gb hb sb vw hl hw v hh,h=vh b n gb hb sb vw vo hl hw v hh/\Nq n gb T vw hl hw v hh
def Mm(n:va)(b:Nat)(T:Int)(h:Hp):Prop:=∃vo,Yo n b T vo h
def Nq.is{gb hb sb:Nat}{v:Value}(h:Nq n gb T vw hl hw v hh):Yo n b T vo (vh b n gb hb sb vw vo hl hw v hh):=⟨gb,hb,sb,vw,hl,hw,v,hh,rfl,h⟩
def Nq.mono{n:va}{gb:Nat}{T T':Int}{vw:Value}{hl hw:Hp}{v:Value}{hh:Hp}(h:Nq n gb T vw hl hw v hh)(hT:T<=T'):Nq n gb T' vw hl hw v hh:=⟨h.lg.mono hT,h.ws,h.hd⟩
def Yo.of{gb hb sb:Nat}{T':Int}{v:Value}(p1:n1.hd=n.hd)(p2:n1.rg=n.rg)(p3:n1.dc=n.dc)(p4:n1.rc=n.rc)(hm:Zf n1.s gb T hl)(hT:T<=T')(yq:ia 212 n1.ws vw hw)(hd:ia 49 n.hd v hh):
  Yo n1 b T' vo (Ba b n1 gb hb sb vw vo++(hl++(hw++(Ka hb n.rg v++(hh++Sa sb n.dc n.rc))))):=by
 rw[<-p2,<-p3,<-p4];exact Nq.is ⟨hm.mono hT,yq,by rw[p1];exact hd⟩
def va.Z1{h:Hp}(hm:Zf n.s b T h):∃cb d w tn v hv X,h=qb n b cb d w tn++(ta cb n.c v++(hv++X))/\ia 49 n.c.lg v hv/\∀f ep du st,Zf (n.s.heard f ep du st).2 b T (qb n b cb d w tn++(ta cb (n.c.heard f ep du st).2 v++(hv++X))):=by
 obtain⟨cb,d,w,v,hv,seg,t,tn,hd,rfl,at_⟩:=hm;exact⟨cb,d,w,tn,v,hv,_,rfl,at_.sl,λf ep du st=>Zf.heard at_ f ep du st⟩
def Ea.jV(s:Ea)(fr ep ix:Int)(e:ya):(s.take fr ep ix e).2.ch.co=s.ch.co:=by
 cases s with
 |up l c t=>
  show(Kd l c fr ep ix e).2.1.co=c.co;unfold Kd;split
  .show(c.take fr ep ix e).2.co=c.co;unfold CS.take;split
   .exact(Ja _).2.2.2.1
   .rfl
  .rfl
 |dn l c q=>rfl
def va.ZX{m:Da}(hc:n1.c.co=n.c.co)(h1:n1.dc=n.dc)(h2:n1.rg=n.rg)(h3:n1.nd=n.nd)(c:n.ki m=true)(e0:0<=m.fr.nd)(e:m.fr.nd=Ed n.c.co n.nd):n1.Jd=[n1.Zy m.fr]:=by
 obtain⟨c1,c2,c3⟩:=of_decide_eq_true c
 have hf:m.fr=n1.at_ (Ed n1.c.co n1.nd):=by
  unfold va.at_;rw[hc,h3,h1,h2,<-c2,<-c3,<-e,<-c1]
 unfold va.Jd;rw[<-hf,hc,h3,if_pos (by omega)]
section
variable{n:va}{b:Nat}{h:Hp}{T:Int}(hm:Mm n b T h){N:Int}(ok:ef n N)(hN:N+40<=1099511627776)(Mi:0<=T)(hT:T+8000<=68719476736)(hr:0<=n.rg/\n.rg<3)(hdc:0<=n.dc/\n.dc<3)
include hm ok hN Mi hT hr hdc
theorem AI(m:Da):Ct prog 20 [b,.agg (List.toArray m.enc)] [h] (λr H'=>∃h1 h',ia 52 (n.handle m).2 r h1/\Mm (n.handle m).1 b (T+8000) h'/\H'=[h1,h']):=by
 have bL:=ok.Qa hN hr m;obtain⟨Nh,gb,hb,sb,vw,hl,hw,v,hh,rfl,at_⟩:=hm;have hm0:=at_.lg;obtain⟨cb,d,w,tn,u,hv,X,rfl,Mf,G7⟩:=va.Z1 at_.lg;have BI:=at_.mono (T':=T+8000) (by omega);unfold va.handle
 cases hu:n.s.Xa with
 |false=>
  rw[if_pos rfl];have Bk:qb n gb cb d w tn=yb gb cb d w false tn:=by rw[<-hu]
  refine ce func20 λg R=>?_;simp only[can];refine W.f0 [Ba b n gb hb sb vw Nh,qb n gb cb d w tn,ta cb n.c u,hv,X,hw,Ka hb n.rg v,hh,Sa sb n.dc n.rc,R] ?_;repeat' first|refine ga ?_|refine Ud λ_=>?_
  refine Wh (n.jc gb hb sb vw Nh) (n.jc gb hb sb vw (.slice none 0 0)) ?_;rw[Bk];try refine ga ?_
  rw[<-Bk];refine D.Oe [Ba b n gb hb sb vw (.slice none 0 0),qb n gb cb d w tn,ta cb n.c u,hv,X,hw,Ka hb n.rg v,hh,Sa sb n.dc n.rc,R] (H2:=[[],vh b n gb hb sb vw (.slice none 0 0) (qb n gb cb d w tn++(ta cb n.c u++(hv++X))) hw v hh,R]) (by simp) ?_
  exact Wa [[],vh b n gb hb sb vw (.slice none 0 0) (qb n gb cb d w tn++(ta cb n.c u++(hv++X))) hw v hh] rfl rfl ⟨_,_,ia.nil _,⟨_,BI.is⟩,rfl⟩
 |true=>
  rw[if_neg (by decide)];have Bk:qb n gb cb d w tn=yb gb cb d w true tn:=by rw[<-hu]
  refine ce func20 λg R=>?_;simp only[can];refine W.f0 [Ba b n gb hb sb vw Nh,qb n gb cb d w tn,ta cb n.c u,hv,X,hw,Ka hb n.rg v,hh,Sa sb n.dc n.rc,R] ?_;repeat' first|refine ga ?_|refine Ud λ_=>?_
  refine Wh (n.jc gb hb sb vw Nh) (n.jc gb hb sb vw (.slice none 0 0)) ?_;rw[Bk];try refine ga ?_
  rw[<-Bk];rename_i b3;obtain⟨ch,hch⟩:∃ch:Bool,n.ki m=ch:=⟨_,rfl⟩;obtain⟨ew,PM⟩:∃ew:Bool,n.ni m=ew:=⟨_,rfl⟩;obtain⟨bs,CI⟩:∃bs:Bool,n.wh m=bs:=⟨_,rfl⟩;refine W.gi (α:=Unit) (λ_=>True) (λ_=>[(0,b),(3,b3),(5,cb),(6,n.c.du),(7,n.c.st),(8,n.c.ak),(9,.bool (decide (m.fr.k=1))),(10,.bool ch)]) (λ_=>[Jc b3 m,Ba b n gb hb sb vw (.slice none 0 0),qb n gb cb d w tn,ta cb n.c u,hv,X,hw,Ka hb n.rg v,hh,Sa sb n.dc n.rc,R]) ?_ ?_
  .by_cases k1:m.fr.k=1<;>by_cases k2:m.fr.dc=n.dc
   all_goals
    refine ij ?_;refine D.as 10 (.bool ch) rfl (by rw[<-hch];unfold va.ki;simp[k1,k2]) ?_;exact D.aQ () trivial
  rintro⟨⟩ -;try simp only[]
  refine W.seq ?_;refine W.gi (α:=Unit) (λ_=>True) (λ_=>[(0,b),(3,b3),(5,cb),(6,n.c.du),(7,n.c.st),(8,n.c.ak),(9,.bool (decide (m.fr.k=1))),(10,.bool ch),(11,.bool false)]) (λ_=>[Jc b3 m,Ba b n gb hb sb vw (.slice none 0 0),qb n gb cb d w tn,ta cb n.c u,hv,X,hw,Ka hb n.rg v,hh,Sa sb n.dc n.rc,R]) ?_ ?_
  .try refine ga ?_
   exact D.aQ () trivial
  rintro⟨⟩ -;try simp only[]
  refine W.seq ?_;refine W.gi (α:=Bool×Value×Hp×Hp) (λy=>y.1=(n.Qa m).2/\ia 52 (n.Qa m).1.2 y.2.1 y.2.2.1/\Yo (n.Qa m).1.1 b (T+8000) y.2.1 y.2.2.2) (λy=>[(0,b),(6,n.c.du),(7,n.c.st),(8,n.c.ak),(11,.bool y.1)]) (λy=>[y.2.2.1,y.2.2.2,R]) ?_ ?_
  .by_cases q3:m.kind=3
   .have hz:=va.kV (n:=n) q3;have kp:=rR n ok (by omega) Mi (by omega) hu b gb hb sb (ia.nil 52) (by simp only[jd];omega) m hm0 at_.ws;obtain⟨p1,p2,p3,p4⟩:=va.St (n:=n) m;rw[hz];generalize n.put m=r at kp p1 p2 p3 p4⊢;obtain⟨n1,ms⟩:=r;simp only[na] at kp p1 p2 p3 p4⊢;repeat' first|refine ga ?_|refine yj m.enc ?_
    refine WX.Ke ?_;refine ck kp ?_;rintro _ _ ⟨rfl,v1,h1,A2,hw1,l1,hs1,Pf,IE,rfl⟩;refine vb ?_;refine D.Oe [h1,Ba b n1 gb hb sb A2 v1,l1,hw1,Ka hb n.rg v,hh,Sa sb n.dc n.rc,R] (H2:=[h1,Ba b n1 gb hb sb A2 v1++((l1)++(hw1++(Ka hb n.rg v++(hh++Sa sb n.dc n.rc)))),R]) (by simp) ?_;exact D.aQ (false,v1,h1,_) ⟨rfl,hs1,Yo.of (hb:=hb) (sb:=sb) p1 p2 p3 p4 Pf (by omega) IE at_.hd⟩
   by_cases q5:m.kind=5
   .have hz:=va.aY (n:=n) q5;have kg:=tR n b gb hb sb cb d w tn vw (.slice none 0 0) u ok.ob ok.cs Mf.rs (ia.nil 52) (by simp only[jd];omega) m;rw[nil_append] at kg;repeat' first|refine ga ?_|refine yj m.enc ?_
    refine WX.Ke ?_;refine ck kg ?_;rintro _ _ ⟨rfl,v1,h1,hs1,rfl⟩;refine vb ?_;refine D.Oe [h1,Ba b n gb hb sb vw v1,qb n gb cb d w tn,ta cb n.c u,hv,X,hw,Ka hb n.rg v,hh,Sa sb n.dc n.rc,R] (H2:=[h1,vh b n gb hb sb vw v1 (qb n gb cb d w tn++(ta cb n.c u++(hv++X))) hw v hh,R]) (by simp) ?_;exact D.aQ (false,v1,h1,_) ⟨by rw[hz],by rw[hz];exact hs1,by rw[hz];exact BI.is (hb:=hb) (sb:=sb)⟩
   by_cases q7:m.kind=7
   .cases ch with
    |false=>
     have hz:=va.Dp (n:=n) (m:=m) (by omega) (by omega) (λh=>by rw[hch] at h;cases h.2) (λh=>absurd h.1 (by omega)) (λh=>absurd h.1 (by omega)) (λh=>absurd h.1 (by omega)) (λh=>absurd h.1 (by omega)) (λh=>absurd h.1 (by omega));try refine ga ?_
     refine ij ?_;refine ij ?_;refine ij ?_;refine ij ?_;refine D.Oe [Ba b n gb hb sb vw (.slice none 0 0),qb n gb cb d w tn,ta cb n.c u,hv,X,hw,Ka hb n.rg v,hh,Sa sb n.dc n.rc,R] (H2:=[[],vh b n gb hb sb vw (.slice none 0 0) (qb n gb cb d w tn++(ta cb n.c u++(hv++X))) hw v hh,R]) (by simp) ?_
     exact D.aQ (false,.slice none 0 0,[],_) ⟨by rw[hz],by rw[hz];exact ia.nil _,by rw[hz];exact BI.is (hb:=hb) (sb:=sb)⟩
    |true=>
     have hz:=va.lV (n:=n) q7 hch;have k3:=tq ok.ob.co n.nd;have iB:n.c.nd=n.nd:=(Ea.Uq n.s).1;by_cases c:m.ep=n.ep/\0<=m.fr.nd/\m.fr.nd=Ed n.c.co n.nd
     .obtain⟨c1,c2,c3⟩:=c;rw[if_pos ⟨c1,c2,c3⟩] at hz;have kt:=DO ok.ok hm0 Mi (by omega) m.fr.nd m.ep m.ix m.en;rw[Ea.oR ok.cs] at kt;have oQ:=Ea.jV n.s m.fr.nd m.ep m.ix m.en;have CO:=ok.ok.take (by omega) m.fr.nd m.ep m.ix m.en;obtain⟨n1,yc⟩:∃n1:va,n1={n with s:=(n.s.take m.fr.nd m.ep m.ix m.en).2}:=⟨_,rfl⟩;have hid:=Ea.Am n.s m.fr.nd m.ep m.ix m.en;have e1:Ba b n gb hb sb vw (.slice none 0 0)=Ba b n1 gb hb sb vw (.slice none 0 0):=by rw[yc];exact(n.cg hid ..).symm
      have p1:n1.hd=n.hd/\n1.rg=n.rg/\n1.dc=n.dc/\n1.rc=n.rc/\n1.ws=n.ws/\n1.s=(n.s.take m.fr.nd m.ep m.ix m.en).2:=by rw[yc];exact⟨rfl,hid.2.1,hid.1,rfl,rfl,rfl⟩
      obtain⟨p1,p2,p3,p4,p5,p6⟩:=p1;rw[<-yc] at hz;rw[hz];rw[<-p6] at kt oQ CO hid;have x6:=va.ZX (n:=n) (n1:=n1) (m:=m) oQ p3 p2 hid.2.2 hch c2 c3;rw[<-x6];obtain⟨a1,dX⟩:∃a,Ed n.c.co n.nd=a:=⟨_,rfl⟩;rw[dX] at k3 c3;rw[<-iB] at k3;have MK:a1=m.fr.nd:=c3.symm;try refine ga ?_
      refine wq ?_;repeat' first|refine ga ?_|refine Of (n.c.cells u) (Yb n.c.co).enc ?_|refine cq k3 ?_
      refine Ns (ml [13]) [Jc b3 m,Ba b n gb hb sb vw (.slice none 0 0)] ?_;repeat' first|refine ga ?_|refine Xm b3 27 m.enc m.en.enc ?_
      refine ck kt ?_;rintro _ _ ⟨rfl,l1,rfl,Pf⟩;have Ji:=Pf;obtain⟨Ya,d',w',uj,u',Lc,X',rfl,Nj⟩:=va.YK Pf;have k4:=Xu n1 b gb hb sb vw (ia.nil 52) (by simp only[jd];omega) (cb:=Ya) (d:=d') (w:=w') (tn:=uj) (v:=u') CO.ch;rw[nil_append] at k4;rw[e1];refine WX.f0 [qb n1 gb Ya d' w' uj,ta Ya n1.c u',Lc,X',Jc b3 m,Ba b n1 gb hb sb vw (.slice none 0 0),hw,Ka hb n.rg v,hh,Sa sb n.dc n.rc,R] ?_;try refine ga ?_
      refine WX.Ke ?_;refine ck k4 ?_;rintro _ _ ⟨rfl,v3,h3,Fc,rfl⟩;refine vb ?_;refine D.Oe [h3,Ba b n1 gb hb sb vw v3,qb n1 gb Ya d' w' uj,ta Ya n1.c u',Lc,X',hw,Ka hb n.rg v,hh,Sa sb n.dc n.rc,R] (H2:=[h3,Ba b n1 gb hb sb vw v3++((qb n1 gb Ya d' w' uj++(ta Ya n1.c u'++(Lc++X')))++(hw++(Ka hb n.rg v++(hh++Sa sb n.dc n.rc)))),R]) (by simp) ?_;exact D.aQ (false,v3,h3,_) ⟨rfl,Fc,Yo.of (hb:=hb) (sb:=sb) p1 p2 p3 p4 Ji (by omega) (by rw[p5];exact at_.ws) at_.hd⟩
     .rw[if_neg c] at hz;obtain⟨a1,dX⟩:∃a,Ed n.c.co n.nd=a:=⟨_,rfl⟩;rw[dX] at k3 c;rw[<-iB] at k3;by_cases c1:m.ep=n.ep<;>by_cases c2:0<=m.fr.nd<;>by_cases c3:a1=m.fr.nd
      .exact absurd ⟨c1,c2,c3.symm⟩ c
      all_goals
       try refine ga ?_
       refine wq ?_;repeat' first|refine ga ?_|refine Of (n.c.cells u) (Yb n.c.co).enc ?_|refine cq k3 ?_
       refine D.Oe [Ba b n gb hb sb vw (.slice none 0 0),qb n gb cb d w tn,ta cb n.c u,hv,X,hw,Ka hb n.rg v,hh,Sa sb n.dc n.rc,R] (H2:=[[],vh b n gb hb sb vw (.slice none 0 0) (qb n gb cb d w tn++(ta cb n.c u++(hv++X))) hw v hh,R]) (by simp) ?_;exact D.aQ (false,.slice none 0 0,[],_) ⟨by rw[hz],by rw[hz];exact ia.nil _,by rw[hz];exact BI.is (hb:=hb) (sb:=sb)⟩
   by_cases q8:m.kind=8
   .cases ch with
    |false=>
     have hz:=va.Dp (n:=n) (m:=m) (by omega) (by omega) (λh=>absurd h.1 (by omega)) (λh=>by rw[hch] at h;cases h.2) (λh=>absurd h.1 (by omega)) (λh=>absurd h.1 (by omega)) (λh=>absurd h.1 (by omega)) (λh=>absurd h.1 (by omega));try refine ga ?_
     refine ij ?_;refine ij ?_;refine ij ?_;refine ij ?_;refine D.Oe [Ba b n gb hb sb vw (.slice none 0 0),qb n gb cb d w tn,ta cb n.c u,hv,X,hw,Ka hb n.rg v,hh,Sa sb n.dc n.rc,R] (H2:=[[],vh b n gb hb sb vw (.slice none 0 0) (qb n gb cb d w tn++(ta cb n.c u++(hv++X))) hw v hh,R]) (by simp) ?_
     exact D.aQ (false,.slice none 0 0,[],_) ⟨by rw[hz],by rw[hz];exact ia.nil _,by rw[hz];exact BI.is (hb:=hb) (sb:=sb)⟩
    |true=>
     have hz:=va.mV (n:=n) q8 hch;rw[Ea.vR] at hz;have hx:=G7 m.fr.nd m.ep m.ct m.ix;have kh:=QK ok.ob cb u m.fr.nd m.ep m.ct m.ix;obtain⟨n1,yc⟩:∃n1:va,n1={n with s:=(n.s.heard m.fr.nd m.ep m.ct m.ix).2}:=⟨_,rfl⟩;have hid:=Ea.Ck n.s m.fr.nd m.ep m.ct m.ix;have e1:Ba b n gb hb sb vw (.slice none 0 0)=Ba b n1 gb hb sb vw (.slice none 0 0):=by rw[yc];exact(n.cg hid ..).symm
     have p1:n1.hd=n.hd/\n1.rg=n.rg/\n1.dc=n.dc/\n1.rc=n.rc/\n1.ws=n.ws/\n1.s=(n.s.heard m.fr.nd m.ep m.ct m.ix).2:=by rw[yc];exact⟨rfl,hid.2.1,hid.1,rfl,rfl,rfl⟩
     obtain⟨p1,p2,p3,p4,p5,p6⟩:=p1;rw[<-yc] at hz;rw[<-p6] at hx;rw[hz];try refine ga ?_
     refine ck kh ?_;rintro _ _ ⟨rfl,rfl⟩;simp only[can];have hx2:n.c.heard m.fr.nd m.ep m.ct m.ix=n.s.ch.heard m.fr.nd m.ep m.ct m.ix:=rfl;rw[hx2] at hx⊢;generalize n.s.ch.heard m.fr.nd m.ep m.ct m.ix=c2 at hx⊢;rw[e1];try refine ga ?_
     refine D.Oe [Ba b n1 gb hb sb vw (.slice none 0 0),qb n gb cb d w tn,ta cb c2.2 u,hv,X,hw,Ka hb n.rg v,hh,Sa sb n.dc n.rc,R] (H2:=[[],Ba b n1 gb hb sb vw (.slice none 0 0)++((qb n gb cb d w tn++(ta cb c2.2 u++(hv++X)))++(hw++(Ka hb n.rg v++(hh++Sa sb n.dc n.rc)))),R]) (by simp) ?_;exact D.aQ (c2.1,.slice none 0 0,[],_) ⟨rfl,ia.nil _,Yo.of (hb:=hb) (sb:=sb) p1 p2 p3 p4 hx (by omega) (by rw[p5];exact at_.ws) at_.hd⟩
   by_cases q9:m.kind=9
   .have D2:=Gr n b gb hb sb vw (.slice none 0 0);have qx:=wR m.fr n.Cc;by_cases c:m.fr=n.Cc
    .have hz:=va.nV (n:=n) q9 c;rw[Fi c] at qx;have A6:=az ok.ok hm0 Mi (by omega) m.cf;rw[(Ea.xq n.s m.cf).1,(Ea.xq n.s m.cf).2] at A6;have hid:=Ea.xh n.s m.cf;rw[hz];try refine ga ?_
     refine wq ?_;repeat' first|refine ga ?_|refine Xm b3 1 m.enc m.fr.enc ?_|refine cq D2 ?_|refine WX.Vu rfl rfl qx rfl ?_
     refine Ns (ml [6,1,5]) [Jc b3 m,Ba b n gb hb sb vw (.slice none 0 0)] ?_;repeat' first|refine ga ?_|refine Xm b3 14 m.enc m.cf.enc ?_
     refine ck A6 ?_;rintro _ _ ⟨rfl,l1,rfl,Pf⟩;simp only[can];generalize(n.s.Yu m.cf).1.1=rs0;generalize n.s.enter m.cf=r at hid Pf⊢;obtain⟨⟨rs,er⟩,s1⟩:=r;simp only[] at hid Pf⊢;by_cases c2:er=0
     .rw[if_pos c2];obtain⟨n1,yc⟩:∃n1:va,n1={n with s:=s1,ws:=[]}:=⟨_,rfl⟩;have e1:Ba b n1 gb hb sb (.slice none 0 0) (.slice none 0 0)=Ba b n gb hb sb (.slice none 0 0) (.slice none 0 0):=by rw[yc];exact n.cg hid ..
      have p1:n1.hd=n.hd/\n1.rg=n.rg/\n1.dc=n.dc/\n1.rc=n.rc/\n1.ws=[]/\n1.s=s1:=by rw[yc];exact⟨rfl,hid.2.1,hid.1,rfl,rfl,rfl⟩
      obtain⟨p1,p2,p3,p4,p5,p6⟩:=p1;rw[<-yc];try refine ga ?_
      refine Wh (n.jc gb hb sb vw (.slice none 0 0)) (n.jc gb hb sb (.slice none 0 0) (.slice none 0 0)) ?_;try refine ga ?_
      refine D.hp (H':=[l1,Jc b3 m,Ba b n gb hb sb (.slice none 0 0) (.slice none 0 0),hw,Ka hb n.rg v,hh,Sa sb n.dc n.rc,R]) rfl ?_;rw[<-e1];refine D.Oe [Ba b n1 gb hb sb (.slice none 0 0) (.slice none 0 0),l1,Ka hb n.rg v,hh,Sa sb n.dc n.rc,R] (H2:=[[],Ba b n1 gb hb sb (.slice none 0 0) (.slice none 0 0)++((l1)++([]++(Ka hb n.rg v++(hh++Sa sb n.dc n.rc)))),R]) (by simp) ?_;exact D.aQ (false,.slice none 0 0,[],_) ⟨rfl,ia.nil _,Yo.of (hb:=hb) (sb:=sb) p1 p2 p3 p4 (T:=T+486) (by rw[p6];exact Pf) (by omega) (by rw[p5];exact ia.nil _) at_.hd⟩
     .rw[if_neg c2];obtain⟨n1,yc⟩:∃n1:va,n1={n with s:=s1,ws:=n.ws}:=⟨_,rfl⟩;have e1:Ba b n gb hb sb vw (.slice none 0 0)=Ba b n1 gb hb sb vw (.slice none 0 0):=by rw[yc];exact(n.cg hid ..).symm
      have p1:n1.hd=n.hd/\n1.rg=n.rg/\n1.dc=n.dc/\n1.rc=n.rc/\n1.ws=n.ws/\n1.s=s1:=by rw[yc];exact⟨rfl,hid.2.1,hid.1,rfl,rfl,rfl⟩
      obtain⟨p1,p2,p3,p4,p5,p6⟩:=p1;rw[<-yc,e1];try refine ga ?_
      refine D.Oe [Ba b n1 gb hb sb vw (.slice none 0 0),l1,hw,Ka hb n.rg v,hh,Sa sb n.dc n.rc,R] (H2:=[[],Ba b n1 gb hb sb vw (.slice none 0 0)++((l1)++(hw++(Ka hb n.rg v++(hh++Sa sb n.dc n.rc)))),R]) (by simp) ?_;exact D.aQ (false,.slice none 0 0,[],_) ⟨rfl,ia.nil _,Yo.of (hb:=hb) (sb:=sb) p1 p2 p3 p4 (T:=T+486) (by rw[p6];exact Pf) (by omega) (by rw[p5];exact at_.ws) at_.hd⟩
    .have hz:=va.Dp (n:=n) (m:=m) (by omega) (by omega) (λh=>absurd h.1 (by omega)) (λh=>absurd h.1 (by omega)) (λh=>c h.2) (λh=>absurd h.1 (by omega)) (λh=>absurd h.1 (by omega)) (λh=>absurd h.1 (by omega));rw[gj c] at qx;try refine ga ?_
     refine wq ?_;repeat' first|refine ga ?_|refine Xm b3 1 m.enc m.fr.enc ?_|refine cq D2 ?_|refine WX.Vu rfl rfl qx rfl ?_
     refine ij ?_;refine ij ?_;refine ij ?_;refine D.Oe [Ba b n gb hb sb vw (.slice none 0 0),qb n gb cb d w tn,ta cb n.c u,hv,X,hw,Ka hb n.rg v,hh,Sa sb n.dc n.rc,R] (H2:=[[],vh b n gb hb sb vw (.slice none 0 0) (qb n gb cb d w tn++(ta cb n.c u++(hv++X))) hw v hh,R]) (by simp) ?_;exact D.aQ (false,.slice none 0 0,[],_) ⟨by rw[hz],by rw[hz];exact ia.nil _,by rw[hz];exact BI.is (hb:=hb) (sb:=sb)⟩
   by_cases sQ:m.kind=12
   .cases ew with
    |false=>
     have hz:=va.Dp (n:=n) (m:=m) (by omega) (by omega) (λh=>absurd h.1 (by omega)) (λh=>absurd h.1 (by omega)) (λh=>absurd h.1 (by omega)) (λh=>by rw[PM] at h;cases h.2.1) (λh=>absurd h.1 (by omega)) (λh=>absurd h.1 (by omega));by_cases k1:m.fr.k=1<;>by_cases k2:m.fr.dc=n.dc<;>by_cases k3:m.fr.rg=n.rg;all_goals try(exact absurd (show n.ni m=true from Fi ⟨k1,k2,k3⟩) (by rw[PM];decide))
     all_goals
      try refine ga ?_
      refine ij ?_;refine ij ?_;refine ij ?_;refine ij ?_;refine D.Oe [Ba b n gb hb sb vw (.slice none 0 0),qb n gb cb d w tn,ta cb n.c u,hv,X,hw,Ka hb n.rg v,hh,Sa sb n.dc n.rc,R] (H2:=[[],vh b n gb hb sb vw (.slice none 0 0) (qb n gb cb d w tn++(ta cb n.c u++(hv++X))) hw v hh,R]) (by simp) ?_
      exact D.aQ (false,.slice none 0 0,[],_) ⟨by rw[hz],by rw[hz];exact ia.nil _,by rw[hz];exact BI.is (hb:=hb) (sb:=sb)⟩
    |true=>
     obtain⟨g1,g2,g3⟩:=of_decide_eq_true PM;have oV:=uk ok.ob.co cb u;by_cases c:n.c.head
     .have hz:=va.QM (n:=n) sQ PM c;rw[Fi c] at oV;have E2:=Wy n b gb hb sb vw (.slice none 0 0) N T ok.toVh ok.cs (by omega) Mi (by omega) hm0 at_.hd;have Bh:=ok.pull (by omega);obtain⟨r1,r2,r3,r4,r5,r6,r7,r8⟩:=n.Dd;rw[hz];generalize n.pull=m1 at E2 Bh r1 r2 r3 r4 r5 r6 r7 r8⊢;rw[va.Ih];try refine ga ?_
      refine ij ?_;refine wq ?_;repeat' first|refine ga ?_|refine cq oV ?_
      refine ck E2 ?_;rintro _ _ ⟨rfl,l1,v1,h1,rfl,Pf,Bn⟩;refine vb ?_;refine Ns (ml [7,3]) [Jc b3 m,Ba b m1 gb hb sb vw (.slice none 0 0)] ?_;repeat' first|refine ga ?_|refine Xm b3 27 m.enc m.en.enc ?_
      refine Kp [m.en] (λv2 h2 Oa=>?_);try refine ga ?_
      refine WX.Ke ?_;refine Ys (zb:=by simp only[Gb,jd];omega) (show ia 49 ([]:List ya) (.slice none 0 0) [] from ia.nil _) Oa.rs (λv6 h6 Zo=>?_);rw[nil_append] at Zo;try refine ga ?_
      have H7:=xR Bn Zo.rs hb m1.rg Bh.hl (by simp only[Gb,jd];omega);refine ck H7 ?_;rintro _ _ ⟨k3,v3,h3,rfl,rfl,cL⟩;refine vb ?_;have cL:ia 49 (Lg m1.rg m1.hd m.en) v3 h3:=cL;have Oj:=Bh.yd m.en;rw[va.Ih] at Oj;obtain⟨m2,hm2⟩:∃m2:va,m2={m1 with hd:=Lg m1.rg m1.hd m.en}:=⟨_,rfl⟩;rw[<-hm2] at Oj⊢;have e1:Ba b m1 gb hb sb vw (.slice none 0 0)=Ba b m2 gb hb sb vw (.slice none 0 0):=by rw[hm2];rfl
      have e2:m1.rg=m2.rg:=by rw[hm2];rfl
      have e3:m1.dc=m2.dc/\m1.rc=m2.rc/\m1.ws=m2.ws/\m2.hd=Lg m1.rg m1.hd m.en:=by rw[hm2];exact⟨rfl,rfl,rfl,rfl⟩
      obtain⟨e3,e4,e5,e6⟩:=e3;rw[<-e6] at cL;have Vy:Zf m2.s gb (T+3888) l1:=by rw[hm2];exact Pf
      have F2:=Wy m2 b gb hb sb vw (.slice none 0 0) (N+16) (T+3888) Oj.toVh Oj.cs (by omega) (by omega) (by omega) Vy cL;obtain⟨s1,s2,s3,s4,s5,s6,s7,s8⟩:=m2.Dd;rw[<-r6,<-r5,e1,e2,e3,e4];generalize m2.pull=m3 at F2 s1 s2 s3 s4 s5 s6 s7 s8⊢;refine ck F2 ?_;rintro _ _ ⟨rfl,l3,v5,h5,rfl,yR,bY⟩;refine vb ?_;rw[<-s6,<-s5];refine D.Oe [Ba b m3 gb hb sb vw (.slice none 0 0),l3,hw,Ka hb m3.rg v5,h5,Sa sb m3.dc m3.rc,R] (H2:=[[],Ba b m3 gb hb sb vw (.slice none 0 0)++(l3++(hw++(Ka hb m3.rg v5++(h5++Sa sb m3.dc m3.rc)))),R]) (by simp) ?_;exact D.aQ (false,.slice none 0 0,[],_) ⟨rfl,ia.nil _,Nq.is (n:=m3) (gb:=gb) (hb:=hb) (sb:=sb) ⟨yR.mono (by omega),by rw[s4,<-e5,r4];exact at_.ws,bY⟩⟩
     .have hz:=va.Dp (n:=n) (m:=m) (by omega) (by omega) (λh=>absurd h.1 (by omega)) (λh=>absurd h.1 (by omega)) (λh=>absurd h.1 (by omega)) (λh=>c h.2.2) (λh=>absurd h.1 (by omega)) (λh=>absurd h.1 (by omega));rw[gj c] at oV;try refine ga ?_
      refine ij ?_;refine wq ?_;repeat' first|refine ga ?_|refine cq oV ?_
      refine D.Oe [Ba b n gb hb sb vw (.slice none 0 0),qb n gb cb d w tn,ta cb n.c u,hv,X,hw,Ka hb n.rg v,hh,Sa sb n.dc n.rc,R] (H2:=[[],vh b n gb hb sb vw (.slice none 0 0) (qb n gb cb d w tn++(ta cb n.c u++(hv++X))) hw v hh,R]) (by simp) ?_;exact D.aQ (false,.slice none 0 0,[],_) ⟨by rw[hz],by rw[hz];exact ia.nil _,by rw[hz];exact BI.is (hb:=hb) (sb:=sb)⟩
   by_cases cY:m.kind=13
   .cases ew with
    |false=>
     have hz:=va.Dp (n:=n) (m:=m) (by omega) (by omega) (λh=>absurd h.1 (by omega)) (λh=>absurd h.1 (by omega)) (λh=>absurd h.1 (by omega)) (λh=>absurd h.1 (by omega)) (λh=>by rw[PM] at h;cases h.2) (λh=>absurd h.1 (by omega));by_cases k1:m.fr.k=1<;>by_cases k2:m.fr.dc=n.dc<;>by_cases k3:m.fr.rg=n.rg;all_goals try(exact absurd (show n.ni m=true from Fi ⟨k1,k2,k3⟩) (by rw[PM];decide))
     all_goals
      try refine ga ?_
      refine ij ?_;refine ij ?_;refine ij ?_;refine ij ?_;refine D.Oe [Ba b n gb hb sb vw (.slice none 0 0),qb n gb cb d w tn,ta cb n.c u,hv,X,hw,Ka hb n.rg v,hh,Sa sb n.dc n.rc,R] (H2:=[[],vh b n gb hb sb vw (.slice none 0 0) (qb n gb cb d w tn++(ta cb n.c u++(hv++X))) hw v hh,R]) (by simp) ?_
      exact D.aQ (false,.slice none 0 0,[],_) ⟨by rw[hz],by rw[hz];exact ia.nil _,by rw[hz];exact BI.is (hb:=hb) (sb:=sb)⟩
    |true=>
     obtain⟨g1,g2,g3⟩:=of_decide_eq_true PM;have hz:=va.zR (n:=n) cY PM;have hg:=va.RM m hdc.1 hdc.2;obtain⟨k,hk⟩:∃k,V3.get ⟨m.c0,m.c1,m.c2⟩ n.dc=k:=⟨_,rfl⟩;rw[hk] at hz hg;have pV:=dL sb n.dc m.fr.dc k n.rc;have qV:=sk ok.ob.co cb u;rw[hz];by_cases c:Xd n.dc m.fr.dc/\n.rc.get m.fr.dc<k
     .rw[if_pos c,Fi c] at pV;rw[if_pos c];obtain⟨n1,yc⟩:∃n1:va,n1={n with rc:=n.rc.put m.fr.dc.toNat k}:=⟨_,rfl⟩;have e1:Ba b n gb hb sb vw (.slice none 0 0)=Ba b n1 gb hb sb vw (.slice none 0 0):=by rw[yc];rfl
      have e2:qb n gb cb d w tn=qb n1 gb cb d w tn/\ta cb n.c u=ta cb n1.c u/\n.rg=n1.rg/\n.dc=n1.dc/\n.rc.put m.fr.dc.toNat k=n1.rc:=by rw[yc];exact⟨rfl,rfl,rfl,rfl,rfl⟩
      obtain⟨e2,e3,e4,e5,e6⟩:=e2;rw[<-yc];have A0:Nq n1 gb (T+8000) vw (qb n1 gb cb d w tn++(ta cb n1.c u++(hv++X))) hw v hh:=by rw[yc];exact⟨BI.lg,at_.ws,at_.hd⟩
      have hsi:=tF n1 b gb hb sb cb d w tn vw (.slice none 0 0) u (by rw[yc];exact ok.ob) (by rw[yc];exact ok.cs) (show Rs n1.c.lg u hv by rw[yc];exact Mf.rs) (by rw[yc];exact ok.nn) (ia.nil 52) (by simp only[jd];omega) m.fr.dc;rw[nil_append] at hsi;obtain⟨su,hsu⟩:∃su,n.c.su=su:=⟨_,rfl⟩;have hs:n.sure=(decide n.c.last && su):=by unfold va.sure;rw[hsu]
      rw[hs];try refine ga ?_
      refine ij ?_;refine ij ?_;refine ij ?_;refine Ns (ml [15]) [Jc b3 m,Ba b n gb hb sb vw (.slice none 0 0)] ?_;repeat' first|refine ga ?_|refine lN m.enc _ rfl ?_ (hc:=hg)
      refine ck pV ?_;rintro _ _ ⟨rfl,rfl⟩;simp only[can];by_cases cl:n.c.last
      .rw[Fi cl] at qV⊢;repeat' first|refine ga ?_|refine cq qV ?_
       refine W.as 281 (.bool su) rfl (by rw[<-hsu]) ?_
       cases su with
       |false=>
        rw[if_neg (λh=>by cases h.2)];try refine ga ?_
        rw[e1,e2,e3,e4,e5,e6];refine D.Oe [Ba b n1 gb hb sb vw (.slice none 0 0),qb n1 gb cb d w tn,ta cb n1.c u,hv,X,hw,Ka hb n1.rg v,hh,Sa sb n1.dc n1.rc,R] (H2:=[[],vh b n1 gb hb sb vw (.slice none 0 0) (qb n1 gb cb d w tn++(ta cb n1.c u++(hv++X))) hw v hh,R]) (by simp) ?_
        exact D.aQ (false,.slice none 0 0,[],_) ⟨rfl,ia.nil _,A0.is (hb:=hb) (sb:=sb)⟩
       |true=>
        rw[if_pos ⟨c,rfl⟩];try refine ga ?_
        rw[e1,e2,e3,e4,e5,e6];refine WX.Ke ?_;refine ck hsi ?_;rintro _ _ ⟨rfl,v1,h1,hs1,rfl⟩;refine vb ?_;refine D.Oe [h1,Ba b n1 gb hb sb vw v1,qb n1 gb cb d w tn,ta cb n1.c u,hv,X,hw,Ka hb n1.rg v,hh,Sa sb n1.dc n1.rc,R] (H2:=[h1,vh b n1 gb hb sb vw v1 (qb n1 gb cb d w tn++(ta cb n1.c u++(hv++X))) hw v hh,R]) (by simp) ?_;exact D.aQ (false,v1,h1,_) ⟨rfl,hs1,A0.is (hb:=hb) (sb:=sb)⟩
      .rw[gj cl] at qV⊢;rw[Bool.false_and,if_neg (λh=>by cases h.2)];repeat' first|refine ga ?_|refine cq qV ?_
       rw[e1,e2,e3,e4,e5,e6];refine D.Oe [Ba b n1 gb hb sb vw (.slice none 0 0),qb n1 gb cb d w tn,ta cb n1.c u,hv,X,hw,Ka hb n1.rg v,hh,Sa sb n1.dc n1.rc,R] (H2:=[[],vh b n1 gb hb sb vw (.slice none 0 0) (qb n1 gb cb d w tn++(ta cb n1.c u++(hv++X))) hw v hh,R]) (by simp) ?_;exact D.aQ (false,.slice none 0 0,[],_) ⟨rfl,ia.nil _,A0.is (hb:=hb) (sb:=sb)⟩
     .rw[if_neg c,gj c] at pV;rw[if_neg c,if_neg (λh=>c h.1)];try refine ga ?_
      refine ij ?_;refine ij ?_;refine ij ?_;refine Ns (ml [15]) [Jc b3 m,Ba b n gb hb sb vw (.slice none 0 0)] ?_;repeat' first|refine ga ?_|refine lN m.enc _ rfl ?_ (hc:=hg)|refine cq pV ?_
      refine D.Oe [Ba b n gb hb sb vw (.slice none 0 0),qb n gb cb d w tn,ta cb n.c u,hv,X,hw,Ka hb n.rg v,hh,Sa sb n.dc n.rc,R] (H2:=[[],vh b n gb hb sb vw (.slice none 0 0) (qb n gb cb d w tn++(ta cb n.c u++(hv++X))) hw v hh,R]) (by simp) ?_;exact D.aQ (false,.slice none 0 0,[],_) ⟨rfl,ia.nil _,BI.is (hb:=hb) (sb:=sb)⟩
   by_cases CU:m.kind=14
   .cases bs with
    |false=>
     have hz:=va.Dp (n:=n) (m:=m) (by omega) (by omega) (λh=>absurd h.1 (by omega)) (λh=>absurd h.1 (by omega)) (λh=>absurd h.1 (by omega)) (λh=>absurd h.1 (by omega)) (λh=>absurd h.1 (by omega)) (λh=>by rw[CI] at h;cases h.2);by_cases k1:m.fr.k=1<;>by_cases k2:m.fr.dc=n.dc<;>by_cases k3:m.fr.rg=n.rg;all_goals try(exact absurd (show n.wh m=true from Fi ⟨k1,k2,k3⟩) (by rw[CI];decide))
     all_goals
      try refine ga ?_
      refine ij ?_;refine ij ?_;refine ij ?_;refine ij ?_;refine D.Oe [Ba b n gb hb sb vw (.slice none 0 0),qb n gb cb d w tn,ta cb n.c u,hv,X,hw,Ka hb n.rg v,hh,Sa sb n.dc n.rc,R] (H2:=[[],vh b n gb hb sb vw (.slice none 0 0) (qb n gb cb d w tn++(ta cb n.c u++(hv++X))) hw v hh,R]) (by simp) ?_
      exact D.aQ (false,.slice none 0 0,[],_) ⟨by rw[hz],by rw[hz];exact ia.nil _,by rw[hz];exact BI.is (hb:=hb) (sb:=sb)⟩
    |true=>
     obtain⟨g1,g2,g3⟩:=of_decide_eq_true CI;have hz:=va.SM (n:=n) CU CI;have G2:=NM n.kn m.fr.rg ⟨m.c0,m.c1,m.c2⟩;have Bh:=ok.bz hr g3 ⟨m.c0,m.c1,m.c2⟩;rw[hz];generalize Ej n.kn m.fr.rg ⟨m.c0,m.c1,m.c2⟩=kn at G2 Bh⊢;obtain⟨n1,yc⟩:∃n1:va,n1={n with kn:=kn}:=⟨_,rfl⟩;rw[<-yc] at Bh⊢;have e1:setAt (n.jc gb hb sb vw (.slice none 0 0)) 12 kn.enc=n1.jc gb hb sb vw (.slice none 0 0):=by rw[yc];rfl
     have Pf:Zf n1.s gb T (qb n gb cb d w tn++(ta cb n.c u++(hv++X))):=by rw[yc];exact hm0
     have Bn:ia 49 n1.hd v hh:=by rw[yc];exact at_.hd
     have e3:n.rg=n1.rg/\n.dc=n1.dc/\n.rc=n1.rc/\n.ws=n1.ws:=by rw[yc];exact⟨rfl,rfl,rfl,rfl⟩
     obtain⟨e3,e4,e5,e6⟩:=e3;have kp:=Wy n1 b gb hb sb vw (.slice none 0 0) N T Bh.toVh Bh.cs (by omega) Mi (by omega) Pf Bn;obtain⟨s1,s2,s3,s4,s5,s6,s7,s8⟩:=n1.Dd;generalize n1.pull=m3 at kp s1 s2 s3 s4 s5 s6 s7 s8⊢;try refine ga ?_
     refine ij ?_;refine ij ?_;refine ij ?_;refine ij ?_;refine Ns (ml [10,1]) [Jc b3 m,Ba b n gb hb sb vw (.slice none 0 0)] ?_;repeat' first|refine ga ?_|refine Xm b3 70 m.enc (V3.enc ⟨m.c0,m.c1,m.c2⟩) ?_|refine Xm b 12 (n.jc gb hb sb vw (.slice none 0 0)) n.kn.enc ?_|refine cq G2 ?_
     refine WX.Yc (vs:=kn.enc) (b:=b) (i:=12) (cs:=n.jc gb hb sb vw (.slice none 0 0)) rfl rfl rfl rfl rfl rfl ?_;rw[e1];try refine ga ?_
     rw[e3,e4,e5];refine ck kp ?_;rintro _ _ ⟨rfl,l3,v5,h5,rfl,yR,bY⟩;refine vb ?_;rw[<-s6,<-s5];refine D.Oe [Ba b m3 gb hb sb vw (.slice none 0 0),l3,hw,Ka hb m3.rg v5,h5,Sa sb m3.dc m3.rc,R] (H2:=[[],Ba b m3 gb hb sb vw (.slice none 0 0)++(l3++(hw++(Ka hb m3.rg v5++(h5++Sa sb m3.dc m3.rc)))),R]) (by simp) ?_;exact D.aQ (false,.slice none 0 0,[],_) ⟨rfl,ia.nil _,Nq.is (n:=m3) (gb:=gb) (hb:=hb) (sb:=sb) ⟨yR.mono (by omega),by rw[s4,<-e6];exact at_.ws,bY⟩⟩
   have hz:=va.Dp (n:=n) (m:=m) (by omega) (by omega) (λh=>absurd h.1 (by omega)) (λh=>absurd h.1 (by omega)) (λh=>absurd h.1 (by omega)) (λh=>absurd h.1 (by omega)) (λh=>absurd h.1 (by omega)) (λh=>absurd h.1 (by omega));try refine ga ?_
   refine ij ?_;refine ij ?_;refine ij ?_;refine ij ?_;refine D.Oe [Ba b n gb hb sb vw (.slice none 0 0),qb n gb cb d w tn,ta cb n.c u,hv,X,hw,Ka hb n.rg v,hh,Sa sb n.dc n.rc,R] (H2:=[[],vh b n gb hb sb vw (.slice none 0 0) (qb n gb cb d w tn++(ta cb n.c u++(hv++X))) hw v hh,R]) (by simp) ?_;exact D.aQ (false,.slice none 0 0,[],_) ⟨by rw[hz],by rw[hz];exact ia.nil _,by rw[hz];exact BI.is (hb:=hb) (sb:=sb)⟩
  rintro⟨he,v1,h1,hx⟩ ⟨e1,hs1,yc⟩;simp only[] at e1 hs1 yc⊢;have hml:=va.eL ok.nn.2 m;obtain⟨⟨⟨n1,ms⟩,he'⟩,hz⟩:∃z,n.Qa m=z:=⟨_,rfl⟩;rw[hz] at e1 hs1 yc bL hml⊢;simp only[] at e1 hs1 yc bL hml⊢;subst e1;obtain⟨FB,hb',sb',Vs,hl',Uh,v',Ni,rfl,DI⟩:=yc;have Ji:=DI.lg;obtain⟨Ya,d',w',uj,u',Lc,X',rfl,Nj⟩:=va.YK DI.lg;have o1:=bL.ob;have kt:=mR n1 b FB hb' sb' hs1 (by omega) (cb:=Ya) (d:=d') (w:=w') (tn:=uj) o1 bL.cs Nj.rs bL.wl bL.wi DI.ws n.c.du n.c.st n.c.ak;have htl:=va.zq bL.wl n.c.du n.c.st n.c.ak;refine W.f0 [h1,Ba b n1 FB hb' sb' Vs v1,qb n1 FB Ya d' w' uj,ta Ya n1.c u',Lc,X',Uh,Ka hb' n1.rg v',Ni,Sa sb' n1.dc n1.rc,R] ?_;try refine ga ?_
  refine ck kt ?_;rintro _ _ ⟨rfl,v2,h2,sx,Gu,Oa,fL,rfl⟩;simp only[can];have Vy:(ms++n1.Gh n.c.du n.c.st n.c.ak).length<=118:=by rw[Cb];omega
  rw[<-Oc];generalize ms++n1.Gh n.c.du n.c.st n.c.ak=ms2 at Oa Vy⊢;have ka:Ct prog 99 [b] [Ba b n1.Ra FB hb' sb' sx v2,h2,qb n1 FB Ya d' w' uj,ta Ya n1.c u'] (Py b n1.Ra FB hb' sb' sx (ms2++n1.Ra.ve) [qb n1 FB Ya d' w' uj,ta Ya n1.c u']):=Qt n1.Ra b FB hb' sb' sx Oa (by omega) o1
  cases he with
  |false=>
   rw[if_neg (by decide),append_nil];try refine ga ?_
   refine D.Oe [h2,Ba b n1.Ra FB hb' sb' sx v2,qb n1 FB Ya d' w' uj,ta Ya n1.c u',Lc,X',Gu,Ka hb' n1.rg v',Ni,Sa sb' n1.dc n1.rc,R] (H2:=[h2,Ba b n1.Ra FB hb' sb' sx v2++((qb n1 FB Ya d' w' uj++(ta Ya n1.c u'++(Lc++X')))++(Gu++(Ka hb' n1.rg v'++(Ni++Sa sb' n1.dc n1.rc)))),R]) (by simp) ?_
   exact Wa [h2,Ba b n1.Ra FB hb' sb' sx v2++((qb n1 FB Ya d' w' uj++(ta Ya n1.c u'++(Lc++X')))++(Gu++(Ka hb' n1.rg v'++(Ni++Sa sb' n1.dc n1.rc))))] rfl rfl ⟨_,_,Oa,⟨v2,Nq.is (n:=n1.Ra) (gb:=FB) (hb:=hb') (sb:=sb') ⟨Ji,fL,DI.hd⟩⟩,rfl⟩
  |true=>
   rw[if_pos rfl];try refine ga ?_
   refine ck ka ?_;rintro _ _ ⟨rfl,v6,h6,Zo,rfl⟩;refine vb ?_;refine D.Oe [h6,Ba b n1.Ra FB hb' sb' sx v6,qb n1 FB Ya d' w' uj,ta Ya n1.c u',Lc,X',Gu,Ka hb' n1.rg v',Ni,Sa sb' n1.dc n1.rc,R] (H2:=[h6,Ba b n1.Ra FB hb' sb' sx v6++((qb n1 FB Ya d' w' uj++(ta Ya n1.c u'++(Lc++X')))++(Gu++(Ka hb' n1.rg v'++(Ni++Sa sb' n1.dc n1.rc)))),R]) (by simp) ?_;exact Wa [h6,Ba b n1.Ra FB hb' sb' sx v6++((qb n1 FB Ya d' w' uj++(ta Ya n1.c u'++(Lc++X')))++(Gu++(Ka hb' n1.rg v'++(Ni++Sa sb' n1.dc n1.rc))))] rfl rfl ⟨_,_,Zo,⟨v6,Nq.is (n:=n1.Ra) (gb:=FB) (hb:=hb') (sb:=sb') ⟨Ji,fL,DI.hd⟩⟩,rfl⟩
end
end Go.Proofs.YthebagfahkebiaaGreat
