/- Texts of one road. -/
import Derived.Test.YthebagfahkebiaaGreatRBF
import Derived.Test.YthebagfahkebiaaGreatRBG
set_option linter.all false
set_option maxHeartbeats 8000000
set_option maxRecDepth 20000
namespace Go.Proofs.YthebagfahkebiaaGreat
open Go Go.Sl Go.Proofs.Tryz List
variable{n n1:ua}{b:Nat}{T:Int}{vw vo:Value}{hl hw hh:Hp}
abbrev Hh(b:Nat)(n:ua)(gb hb sb:Nat)(vw vo:Value)(hl hw:Hp)(v:Value)(hh:Hp):Hp:=Ca b n gb hb sb vw vo++(hl++(hw++(Oa hb n.rg v++(hh++Ta sb n.dc n.rc))))
structure Zq(n:ua)(gb:Nat)(T:Int)(vw:Value)(hl hw:Hp)(v:Value)(hh:Hp):Prop where
 lg:Tf n.s gb T hl
 ws:ia 212 n.ws vw hw
 hd:ia 49 n.hd v hh
def Dp(n:ua)(b:Nat)(T:Int)(vo:Value)(h:Hp):Prop:=∃gb hb sb vw hl hw v hh,h=Hh b n gb hb sb vw vo hl hw v hh/\Zq n gb T vw hl hw v hh
def Cg(n:ua)(b:Nat)(T:Int)(h:Hp):Prop:=∃vo,Dp n b T vo h
def Zq.is{gb hb sb:Nat}{v:Value}(h:Zq n gb T vw hl hw v hh):Dp n b T vo (Hh b n gb hb sb vw vo hl hw v hh):=⟨gb,hb,sb,vw,hl,hw,v,hh,rfl,h⟩
def Zq.mono{n:ua}{gb:Nat}{T T':Int}{vw:Value}{hl hw:Hp}{v:Value}{hh:Hp}(h:Zq n gb T vw hl hw v hh)(hT:T<=T'):Zq n gb T' vw hl hw v hh:=⟨h.lg.mono hT,h.ws,h.hd⟩
def Dp.of{gb hb sb:Nat}{T':Int}{v:Value}(p1:n1.hd=n.hd)(p2:n1.rg=n.rg)(p3:n1.dc=n.dc)(p4:n1.rc=n.rc)(hm:Tf n1.s gb T hl)(hT:T<=T')(Br:ia 212 n1.ws vw hw)(hd:ia 49 n.hd v hh):
  Dp n1 b T' vo (Ca b n1 gb hb sb vw vo++(hl++(hw++(Oa hb n.rg v++(hh++Ta sb n.dc n.rc))))):=by
 rw[<-p2,<-p3,<-p4];exact Zq.is ⟨hm.mono hT,Br,by rw[p1];exact hd⟩
def ua.S1{h:Hp}(hm:Tf n.s b T h):∃cb d w tn v hv X,h=vb n b cb d w tn++(ta cb n.c v++(hv++X))/\ia 49 n.c.lg v hv/\∀f ep du st,Tf (n.s.heard f ep du st).2 b T (vb n b cb d w tn++(ta cb (n.c.heard f ep du st).2 v++(hv++X))):=by
 obtain⟨cb,d,w,v,hv,seg,t,tn,hd,rfl,at_⟩:=hm;exact⟨cb,d,w,tn,v,hv,_,rfl,at_.sl,λf ep du st=>Tf.heard at_ f ep du st⟩
def Ga.sV(s:Ga)(fr ep ix:Int)(e:ya):(s.take fr ep ix e).2.ch.co=s.ch.co:=by
 cases s with
 |up l c t=>
  show(Gd l c fr ep ix e).2.1.co=c.co;unfold Gd;split
  .show(c.take fr ep ix e).2.co=c.co;unfold CS.take;split
   .exact(Na _).2.2.2.1
   .rfl
  .rfl
 |dn l c q=>rfl
def ua.cY{m:Da}(hc:n1.c.co=n.c.co)(h1:n1.dc=n.dc)(h2:n1.rg=n.rg)(h3:n1.nd=n.nd)(c:n.Bh m=true)(e0:0<=m.fr.nd)(e:m.fr.nd=Nd n.c.co n.nd):n1.Yd=[n1.Jx m.fr]:=by
 obtain⟨c1,c2,c3⟩:=of_decide_eq_true c
 have hf:m.fr=n1.at_ (Nd n1.c.co n1.nd):=by
  unfold ua.at_;rw[hc,h3,h1,h2,<-c2,<-c3,<-e,<-c1]
 unfold ua.Yd;rw[<-hf,hc,h3,if_pos (by omega)]
section
variable{n:ua}{b:Nat}{h:Hp}{T:Int}(hm:Cg n b T h){N:Int}(ok:We n N)(hN:N+40<=1099511627776)(Qh:0<=T)(hT:T+8000<=68719476736)(hr:0<=n.rg/\n.rg<3)(hdc:0<=n.dc/\n.dc<3)
include hm ok hN Qh hT hr hdc
theorem iq(m:Da):Ct prog 20 [b,.agg (List.toArray m.enc)] [h] (λr H'=>∃h1 h',ia 52 (n.handle m).2 r h1/\Cg (n.handle m).1 b (T+8000) h'/\H'=[h1,h']):=by
 have qL:=ok.Ka hN hr m;obtain⟨Wh,gb,hb,sb,vw,hl,hw,v,hh,rfl,at_⟩:=hm;have hm0:=at_.lg;obtain⟨cb,d,w,tn,u,hv,X,rfl,Ue,x7⟩:=ua.S1 at_.lg;have KI:=at_.mono (T':=T+8000) (by omega);unfold ua.handle
 cases hu:n.s.jb with
 |false=>
  rw[if_pos rfl];have Gl:vb n gb cb d w tn=Bb gb cb d w false tn:=by rw[<-hu]
  refine ce func20 λg R=>?_;simp only[can];refine W.f0 [Ca b n gb hb sb vw Wh,vb n gb cb d w tn,ta cb n.c u,hv,X,hw,Oa hb n.rg v,hh,Ta sb n.dc n.rc,R] ?_;repeat' first|refine ga ?_|refine Uc λ_=>?_
  refine ei (n.mc gb hb sb vw Wh) (n.mc gb hb sb vw (.slice none 0 0)) ?_;rw[Gl];try refine ga ?_
  rw[<-Gl];refine D.Vd [Ca b n gb hb sb vw (.slice none 0 0),vb n gb cb d w tn,ta cb n.c u,hv,X,hw,Oa hb n.rg v,hh,Ta sb n.dc n.rc,R] (H2:=[[],Hh b n gb hb sb vw (.slice none 0 0) (vb n gb cb d w tn++(ta cb n.c u++(hv++X))) hw v hh,R]) (by simp) ?_
  exact Xa [[],Hh b n gb hb sb vw (.slice none 0 0) (vb n gb cb d w tn++(ta cb n.c u++(hv++X))) hw v hh] rfl rfl ⟨_,_,ia.nil _,⟨_,KI.is⟩,rfl⟩
 |true=>
  rw[if_neg (by decide)];have Gl:vb n gb cb d w tn=Bb gb cb d w true tn:=by rw[<-hu]
  refine ce func20 λg R=>?_;simp only[can];refine W.f0 [Ca b n gb hb sb vw Wh,vb n gb cb d w tn,ta cb n.c u,hv,X,hw,Oa hb n.rg v,hh,Ta sb n.dc n.rc,R] ?_;repeat' first|refine ga ?_|refine Uc λ_=>?_
  refine ei (n.mc gb hb sb vw Wh) (n.mc gb hb sb vw (.slice none 0 0)) ?_;rw[Gl];try refine ga ?_
  rw[<-Gl];rename_i b3;obtain⟨ch,hch⟩:∃ch:Bool,n.Bh m=ch:=⟨_,rfl⟩;obtain⟨ew,bN⟩:∃ew:Bool,n.Dh m=ew:=⟨_,rfl⟩;obtain⟨bs,MI⟩:∃bs:Bool,n.Ig m=bs:=⟨_,rfl⟩;refine W.cj (α:=Unit) (λ_=>True) (λ_=>[(0,b),(3,b3),(5,cb),(6,n.c.du),(7,n.c.st),(8,n.c.ak),(9,.bool (decide (m.fr.k=1))),(10,.bool ch)]) (λ_=>[Yb b3 m,Ca b n gb hb sb vw (.slice none 0 0),vb n gb cb d w tn,ta cb n.c u,hv,X,hw,Oa hb n.rg v,hh,Ta sb n.dc n.rc,R]) ?_ ?_
  .by_cases k1:m.fr.k=1<;>by_cases k2:m.fr.dc=n.dc
   all_goals
    refine sj ?_;refine D.as 10 (.bool ch) rfl (by rw[<-hch];unfold ua.Bh;simp[k1,k2]) ?_;exact D.aQ () trivial
  rintro⟨⟩ -;try simp only[]
  refine W.seq ?_;refine W.cj (α:=Unit) (λ_=>True) (λ_=>[(0,b),(3,b3),(5,cb),(6,n.c.du),(7,n.c.st),(8,n.c.ak),(9,.bool (decide (m.fr.k=1))),(10,.bool ch),(11,.bool false)]) (λ_=>[Yb b3 m,Ca b n gb hb sb vw (.slice none 0 0),vb n gb cb d w tn,ta cb n.c u,hv,X,hw,Oa hb n.rg v,hh,Ta sb n.dc n.rc,R]) ?_ ?_
  .try refine ga ?_
   exact D.aQ () trivial
  rintro⟨⟩ -;try simp only[]
  refine W.seq ?_;refine W.cj (α:=Bool×Value×Hp×Hp) (λy=>y.1=(n.Ka m).2/\ia 52 (n.Ka m).1.2 y.2.1 y.2.2.1/\Dp (n.Ka m).1.1 b (T+8000) y.2.1 y.2.2.2) (λy=>[(0,b),(6,n.c.du),(7,n.c.st),(8,n.c.ak),(11,.bool y.1)]) (λy=>[y.2.2.1,y.2.2.2,R]) ?_ ?_
  .by_cases q3:m.kind=3
   .have hz:=ua.rL (n:=n) q3;have kp:=BR n ok (by omega) Qh (by omega) hu b gb hb sb (ia.nil 52) (by simp only[td];omega) m hm0 at_.ws;obtain⟨p1,p2,p3,p4⟩:=ua.lu (n:=n) m;rw[hz];generalize n.put m=r at kp p1 p2 p3 p4⊢;obtain⟨n1,ms⟩:=r;simp only[na] at kp p1 p2 p3 p4⊢;repeat' first|refine ga ?_|refine Pg m.enc ?_
    refine WX.Pe ?_;refine ck kp ?_;rintro _ _ ⟨rfl,v1,h1,U1,hw1,l1,hs1,cg,FE,rfl⟩;refine Za ?_;refine D.Vd [h1,Ca b n1 gb hb sb U1 v1,l1,hw1,Oa hb n.rg v,hh,Ta sb n.dc n.rc,R] (H2:=[h1,Ca b n1 gb hb sb U1 v1++((l1)++(hw1++(Oa hb n.rg v++(hh++Ta sb n.dc n.rc)))),R]) (by simp) ?_;exact D.aQ (false,v1,h1,_) ⟨rfl,hs1,Dp.of (hb:=hb) (sb:=sb) p1 p2 p3 p4 cg (by omega) FE at_.hd⟩
   by_cases q5:m.kind=5
   .have hz:=ua.TO (n:=n) q5;have kg:=DR n b gb hb sb cb d w tn vw (.slice none 0 0) u ok.xb ok.cs Ue.rs (ia.nil 52) (by simp only[td];omega) m;rw[nil_append] at kg;repeat' first|refine ga ?_|refine Pg m.enc ?_
    refine WX.Pe ?_;refine ck kg ?_;rintro _ _ ⟨rfl,v1,h1,hs1,rfl⟩;refine Za ?_;refine D.Vd [h1,Ca b n gb hb sb vw v1,vb n gb cb d w tn,ta cb n.c u,hv,X,hw,Oa hb n.rg v,hh,Ta sb n.dc n.rc,R] (H2:=[h1,Hh b n gb hb sb vw v1 (vb n gb cb d w tn++(ta cb n.c u++(hv++X))) hw v hh,R]) (by simp) ?_;exact D.aQ (false,v1,h1,_) ⟨by rw[hz],by rw[hz];exact hs1,by rw[hz];exact KI.is (hb:=hb) (sb:=sb)⟩
   by_cases q7:m.kind=7
   .cases ch with
    |false=>
     have hz:=ua.Ho (n:=n) (m:=m) (by omega) (by omega) (λh=>by rw[hch] at h;cases h.2) (λh=>absurd h.1 (by omega)) (λh=>absurd h.1 (by omega)) (λh=>absurd h.1 (by omega)) (λh=>absurd h.1 (by omega)) (λh=>absurd h.1 (by omega));try refine ga ?_
     refine sj ?_;refine sj ?_;refine sj ?_;refine sj ?_;refine D.Vd [Ca b n gb hb sb vw (.slice none 0 0),vb n gb cb d w tn,ta cb n.c u,hv,X,hw,Oa hb n.rg v,hh,Ta sb n.dc n.rc,R] (H2:=[[],Hh b n gb hb sb vw (.slice none 0 0) (vb n gb cb d w tn++(ta cb n.c u++(hv++X))) hw v hh,R]) (by simp) ?_
     exact D.aQ (false,.slice none 0 0,[],_) ⟨by rw[hz],by rw[hz];exact ia.nil _,by rw[hz];exact KI.is (hb:=hb) (sb:=sb)⟩
    |true=>
     have hz:=ua.GR (n:=n) q7 hch;have k3:=Hq ok.xb.co n.nd;have Ix:n.c.nd=n.nd:=(Ga.ur n.s).1;by_cases c:m.ep=n.ep/\0<=m.fr.nd/\m.fr.nd=Nd n.c.co n.nd
     .obtain⟨c1,c2,c3⟩:=c;rw[if_pos ⟨c1,c2,c3⟩] at hz;have kt:=UO ok.ok hm0 Qh (by omega) m.fr.nd m.ep m.ix m.en;rw[Ga.yR ok.cs] at kt;have AQ:=Ga.sV n.s m.fr.nd m.ep m.ix m.en;have SO:=ok.ok.take (by omega) m.fr.nd m.ep m.ix m.en;obtain⟨n1,ic⟩:∃n1:ua,n1={n with s:=(n.s.take m.fr.nd m.ep m.ix m.en).2}:=⟨_,rfl⟩;have hid:=Ga.Dm n.s m.fr.nd m.ep m.ix m.en;have e1:Ca b n gb hb sb vw (.slice none 0 0)=Ca b n1 gb hb sb vw (.slice none 0 0):=by rw[ic];exact(n.ig hid ..).symm
      have p1:n1.hd=n.hd/\n1.rg=n.rg/\n1.dc=n.dc/\n1.rc=n.rc/\n1.ws=n.ws/\n1.s=(n.s.take m.fr.nd m.ep m.ix m.en).2:=by rw[ic];exact⟨rfl,hid.2.1,hid.1,rfl,rfl,rfl⟩
      obtain⟨p1,p2,p3,p4,p5,p6⟩:=p1;rw[<-ic] at hz;rw[hz];rw[<-p6] at kt AQ SO hid;have V5:=ua.cY (n:=n) (n1:=n1) (m:=m) AQ p3 p2 hid.2.2 hch c2 c3;rw[<-V5];obtain⟨a1,JU⟩:∃a,Nd n.c.co n.nd=a:=⟨_,rfl⟩;rw[JU] at k3 c3;rw[<-Ix] at k3;have aL:a1=m.fr.nd:=c3.symm;try refine ga ?_
      refine wq ?_;repeat' first|refine ga ?_|refine Xf (n.c.cells u) (jc n.c.co).enc ?_|refine cq k3 ?_
      refine Wp (ml [13]) [Yb b3 m,Ca b n gb hb sb vw (.slice none 0 0)] ?_;repeat' first|refine ga ?_|refine bn b3 27 m.enc m.en.enc ?_
      refine ck kt ?_;rintro _ _ ⟨rfl,l1,rfl,cg⟩;have xe:=cg;obtain⟨ob,d',w',Aj,u',Rc,X',rfl,Hl⟩:=ua.HI cg;have k4:=Bv n1 b gb hb sb vw (ia.nil 52) (by simp only[td];omega) (cb:=ob) (d:=d') (w:=w') (tn:=Aj) (v:=u') SO.ch;rw[nil_append] at k4;rw[e1];refine WX.f0 [vb n1 gb ob d' w' Aj,ta ob n1.c u',Rc,X',Yb b3 m,Ca b n1 gb hb sb vw (.slice none 0 0),hw,Oa hb n.rg v,hh,Ta sb n.dc n.rc,R] ?_;try refine ga ?_
      refine WX.Pe ?_;refine ck k4 ?_;rintro _ _ ⟨rfl,v3,h3,Cc,rfl⟩;refine Za ?_;refine D.Vd [h3,Ca b n1 gb hb sb vw v3,vb n1 gb ob d' w' Aj,ta ob n1.c u',Rc,X',hw,Oa hb n.rg v,hh,Ta sb n.dc n.rc,R] (H2:=[h3,Ca b n1 gb hb sb vw v3++((vb n1 gb ob d' w' Aj++(ta ob n1.c u'++(Rc++X')))++(hw++(Oa hb n.rg v++(hh++Ta sb n.dc n.rc)))),R]) (by simp) ?_;exact D.aQ (false,v3,h3,_) ⟨rfl,Cc,Dp.of (hb:=hb) (sb:=sb) p1 p2 p3 p4 xe (by omega) (by rw[p5];exact at_.ws) at_.hd⟩
     .rw[if_neg c] at hz;obtain⟨a1,JU⟩:∃a,Nd n.c.co n.nd=a:=⟨_,rfl⟩;rw[JU] at k3 c;rw[<-Ix] at k3;by_cases c1:m.ep=n.ep<;>by_cases c2:0<=m.fr.nd<;>by_cases c3:a1=m.fr.nd
      .exact absurd ⟨c1,c2,c3.symm⟩ c
      all_goals
       try refine ga ?_
       refine wq ?_;repeat' first|refine ga ?_|refine Xf (n.c.cells u) (jc n.c.co).enc ?_|refine cq k3 ?_
       refine D.Vd [Ca b n gb hb sb vw (.slice none 0 0),vb n gb cb d w tn,ta cb n.c u,hv,X,hw,Oa hb n.rg v,hh,Ta sb n.dc n.rc,R] (H2:=[[],Hh b n gb hb sb vw (.slice none 0 0) (vb n gb cb d w tn++(ta cb n.c u++(hv++X))) hw v hh,R]) (by simp) ?_;exact D.aQ (false,.slice none 0 0,[],_) ⟨by rw[hz],by rw[hz];exact ia.nil _,by rw[hz];exact KI.is (hb:=hb) (sb:=sb)⟩
   by_cases q8:m.kind=8
   .cases ch with
    |false=>
     have hz:=ua.Ho (n:=n) (m:=m) (by omega) (by omega) (λh=>absurd h.1 (by omega)) (λh=>by rw[hch] at h;cases h.2) (λh=>absurd h.1 (by omega)) (λh=>absurd h.1 (by omega)) (λh=>absurd h.1 (by omega)) (λh=>absurd h.1 (by omega));try refine ga ?_
     refine sj ?_;refine sj ?_;refine sj ?_;refine sj ?_;refine D.Vd [Ca b n gb hb sb vw (.slice none 0 0),vb n gb cb d w tn,ta cb n.c u,hv,X,hw,Oa hb n.rg v,hh,Ta sb n.dc n.rc,R] (H2:=[[],Hh b n gb hb sb vw (.slice none 0 0) (vb n gb cb d w tn++(ta cb n.c u++(hv++X))) hw v hh,R]) (by simp) ?_
     exact D.aQ (false,.slice none 0 0,[],_) ⟨by rw[hz],by rw[hz];exact ia.nil _,by rw[hz];exact KI.is (hb:=hb) (sb:=sb)⟩
    |true=>
     have hz:=ua.HR (n:=n) q8 hch;rw[Ga.JR] at hz;have hx:=x7 m.fr.nd m.ep m.ct m.ix;have kh:=eL ok.xb cb u m.fr.nd m.ep m.ct m.ix;obtain⟨n1,ic⟩:∃n1:ua,n1={n with s:=(n.s.heard m.fr.nd m.ep m.ct m.ix).2}:=⟨_,rfl⟩;have hid:=Ga.Ek n.s m.fr.nd m.ep m.ct m.ix;have e1:Ca b n gb hb sb vw (.slice none 0 0)=Ca b n1 gb hb sb vw (.slice none 0 0):=by rw[ic];exact(n.ig hid ..).symm
     have p1:n1.hd=n.hd/\n1.rg=n.rg/\n1.dc=n.dc/\n1.rc=n.rc/\n1.ws=n.ws/\n1.s=(n.s.heard m.fr.nd m.ep m.ct m.ix).2:=by rw[ic];exact⟨rfl,hid.2.1,hid.1,rfl,rfl,rfl⟩
     obtain⟨p1,p2,p3,p4,p5,p6⟩:=p1;rw[<-ic] at hz;rw[<-p6] at hx;rw[hz];try refine ga ?_
     refine ck kh ?_;rintro _ _ ⟨rfl,rfl⟩;simp only[can];have hx2:n.c.heard m.fr.nd m.ep m.ct m.ix=n.s.ch.heard m.fr.nd m.ep m.ct m.ix:=rfl;rw[hx2] at hx⊢;generalize n.s.ch.heard m.fr.nd m.ep m.ct m.ix=c2 at hx⊢;rw[e1];try refine ga ?_
     refine D.Vd [Ca b n1 gb hb sb vw (.slice none 0 0),vb n gb cb d w tn,ta cb c2.2 u,hv,X,hw,Oa hb n.rg v,hh,Ta sb n.dc n.rc,R] (H2:=[[],Ca b n1 gb hb sb vw (.slice none 0 0)++((vb n gb cb d w tn++(ta cb c2.2 u++(hv++X)))++(hw++(Oa hb n.rg v++(hh++Ta sb n.dc n.rc)))),R]) (by simp) ?_;exact D.aQ (c2.1,.slice none 0 0,[],_) ⟨rfl,ia.nil _,Dp.of (hb:=hb) (sb:=sb) p1 p2 p3 p4 hx (by omega) (by rw[p5];exact at_.ws) at_.hd⟩
   by_cases q9:m.kind=9
   .have V1:=Wr n b gb hb sb vw (.slice none 0 0);have Jn:=sL m.fr n.Fc;by_cases c:m.fr=n.Fc
    .have hz:=ua.KR (n:=n) q9 c;rw[Mi c] at Jn;have W5:=vz ok.ok hm0 Qh (by omega) m.cf;rw[(Ga.Kq n.s m.cf).1,(Ga.Kq n.s m.cf).2] at W5;have hid:=Ga.Ih n.s m.cf;rw[hz];try refine ga ?_
     refine wq ?_;repeat' first|refine ga ?_|refine bn b3 1 m.enc m.fr.enc ?_|refine cq V1 ?_|refine WX.aq rfl rfl Jn rfl ?_
     refine Wp (ml [6,1,5]) [Yb b3 m,Ca b n gb hb sb vw (.slice none 0 0)] ?_;repeat' first|refine ga ?_|refine bn b3 14 m.enc m.cf.enc ?_
     refine ck W5 ?_;rintro _ _ ⟨rfl,l1,rfl,cg⟩;simp only[can];generalize(n.s.Dv m.cf).1.1=rs0;generalize n.s.enter m.cf=r at hid cg⊢;obtain⟨⟨rs,er⟩,s1⟩:=r;simp only[] at hid cg⊢;by_cases c2:er=0
     .rw[if_pos c2];obtain⟨n1,ic⟩:∃n1:ua,n1={n with s:=s1,ws:=[]}:=⟨_,rfl⟩;have e1:Ca b n1 gb hb sb (.slice none 0 0) (.slice none 0 0)=Ca b n gb hb sb (.slice none 0 0) (.slice none 0 0):=by rw[ic];exact n.ig hid ..
      have p1:n1.hd=n.hd/\n1.rg=n.rg/\n1.dc=n.dc/\n1.rc=n.rc/\n1.ws=[]/\n1.s=s1:=by rw[ic];exact⟨rfl,hid.2.1,hid.1,rfl,rfl,rfl⟩
      obtain⟨p1,p2,p3,p4,p5,p6⟩:=p1;rw[<-ic];try refine ga ?_
      refine ei (n.mc gb hb sb vw (.slice none 0 0)) (n.mc gb hb sb (.slice none 0 0) (.slice none 0 0)) ?_;try refine ga ?_
      refine D.hp (H':=[l1,Yb b3 m,Ca b n gb hb sb (.slice none 0 0) (.slice none 0 0),hw,Oa hb n.rg v,hh,Ta sb n.dc n.rc,R]) rfl ?_;rw[<-e1];refine D.Vd [Ca b n1 gb hb sb (.slice none 0 0) (.slice none 0 0),l1,Oa hb n.rg v,hh,Ta sb n.dc n.rc,R] (H2:=[[],Ca b n1 gb hb sb (.slice none 0 0) (.slice none 0 0)++((l1)++([]++(Oa hb n.rg v++(hh++Ta sb n.dc n.rc)))),R]) (by simp) ?_;exact D.aQ (false,.slice none 0 0,[],_) ⟨rfl,ia.nil _,Dp.of (hb:=hb) (sb:=sb) p1 p2 p3 p4 (T:=T+486) (by rw[p6];exact cg) (by omega) (by rw[p5];exact ia.nil _) at_.hd⟩
     .rw[if_neg c2];obtain⟨n1,ic⟩:∃n1:ua,n1={n with s:=s1,ws:=n.ws}:=⟨_,rfl⟩;have e1:Ca b n gb hb sb vw (.slice none 0 0)=Ca b n1 gb hb sb vw (.slice none 0 0):=by rw[ic];exact(n.ig hid ..).symm
      have p1:n1.hd=n.hd/\n1.rg=n.rg/\n1.dc=n.dc/\n1.rc=n.rc/\n1.ws=n.ws/\n1.s=s1:=by rw[ic];exact⟨rfl,hid.2.1,hid.1,rfl,rfl,rfl⟩
      obtain⟨p1,p2,p3,p4,p5,p6⟩:=p1;rw[<-ic,e1];try refine ga ?_
      refine D.Vd [Ca b n1 gb hb sb vw (.slice none 0 0),l1,hw,Oa hb n.rg v,hh,Ta sb n.dc n.rc,R] (H2:=[[],Ca b n1 gb hb sb vw (.slice none 0 0)++((l1)++(hw++(Oa hb n.rg v++(hh++Ta sb n.dc n.rc)))),R]) (by simp) ?_;exact D.aQ (false,.slice none 0 0,[],_) ⟨rfl,ia.nil _,Dp.of (hb:=hb) (sb:=sb) p1 p2 p3 p4 (T:=T+486) (by rw[p6];exact cg) (by omega) (by rw[p5];exact at_.ws) at_.hd⟩
    .have hz:=ua.Ho (n:=n) (m:=m) (by omega) (by omega) (λh=>absurd h.1 (by omega)) (λh=>absurd h.1 (by omega)) (λh=>c h.2) (λh=>absurd h.1 (by omega)) (λh=>absurd h.1 (by omega)) (λh=>absurd h.1 (by omega));rw[rj c] at Jn;try refine ga ?_
     refine wq ?_;repeat' first|refine ga ?_|refine bn b3 1 m.enc m.fr.enc ?_|refine cq V1 ?_|refine WX.aq rfl rfl Jn rfl ?_
     refine sj ?_;refine sj ?_;refine sj ?_;refine D.Vd [Ca b n gb hb sb vw (.slice none 0 0),vb n gb cb d w tn,ta cb n.c u,hv,X,hw,Oa hb n.rg v,hh,Ta sb n.dc n.rc,R] (H2:=[[],Hh b n gb hb sb vw (.slice none 0 0) (vb n gb cb d w tn++(ta cb n.c u++(hv++X))) hw v hh,R]) (by simp) ?_;exact D.aQ (false,.slice none 0 0,[],_) ⟨by rw[hz],by rw[hz];exact ia.nil _,by rw[hz];exact KI.is (hb:=hb) (sb:=sb)⟩
   by_cases Kx:m.kind=12
   .cases ew with
    |false=>
     have hz:=ua.Ho (n:=n) (m:=m) (by omega) (by omega) (λh=>absurd h.1 (by omega)) (λh=>absurd h.1 (by omega)) (λh=>absurd h.1 (by omega)) (λh=>by rw[bN] at h;cases h.2.1) (λh=>absurd h.1 (by omega)) (λh=>absurd h.1 (by omega));by_cases k1:m.fr.k=1<;>by_cases k2:m.fr.dc=n.dc<;>by_cases k3:m.fr.rg=n.rg;all_goals try(exact absurd (show n.Dh m=true from Mi ⟨k1,k2,k3⟩) (by rw[bN];decide))
     all_goals
      try refine ga ?_
      refine sj ?_;refine sj ?_;refine sj ?_;refine sj ?_;refine D.Vd [Ca b n gb hb sb vw (.slice none 0 0),vb n gb cb d w tn,ta cb n.c u,hv,X,hw,Oa hb n.rg v,hh,Ta sb n.dc n.rc,R] (H2:=[[],Hh b n gb hb sb vw (.slice none 0 0) (vb n gb cb d w tn++(ta cb n.c u++(hv++X))) hw v hh,R]) (by simp) ?_
      exact D.aQ (false,.slice none 0 0,[],_) ⟨by rw[hz],by rw[hz];exact ia.nil _,by rw[hz];exact KI.is (hb:=hb) (sb:=sb)⟩
    |true=>
     obtain⟨g1,g2,g3⟩:=of_decide_eq_true bN;have LK:=xk ok.xb.co cb u;by_cases c:n.c.head
     .have hz:=ua.NI (n:=n) Kx bN c;rw[Mi c] at LK;have W1:=rz n b gb hb sb vw (.slice none 0 0) N T ok.togi ok.cs (by omega) Qh (by omega) hm0 at_.hd;have Qi:=ok.pull (by omega);obtain⟨r1,r2,r3,r4,r5,r6,r7,r8⟩:=n.Sd;rw[hz];generalize n.pull=m1 at W1 Qi r1 r2 r3 r4 r5 r6 r7 r8⊢;rw[ua.Sh];try refine ga ?_
      refine sj ?_;refine wq ?_;repeat' first|refine ga ?_|refine cq LK ?_
      refine ck W1 ?_;rintro _ _ ⟨rfl,l1,v1,h1,rfl,cg,Bo⟩;refine Za ?_;refine Wp (ml [7,3]) [Yb b3 m,Ca b m1 gb hb sb vw (.slice none 0 0)] ?_;repeat' first|refine ga ?_|refine bn b3 27 m.enc m.en.enc ?_
      refine Up [m.en] (λv2 h2 Sa=>?_);try refine ga ?_
      refine WX.Pe ?_;refine Jt (zb:=by simp only[Ib,td];omega) (show ia 49 ([]:List ya) (.slice none 0 0) [] from ia.nil _) Sa.rs (λv6 h6 Nq=>?_);rw[nil_append] at Nq;try refine ga ?_
      have y7:=MR Bo Nq.rs hb m1.rg Qi.hl (by simp only[Ib,td];omega);refine ck y7 ?_;rintro _ _ ⟨k3,v3,h3,rfl,rfl,VO⟩;refine Za ?_;have VO:ia 49 (Vg m1.rg m1.hd m.en) v3 h3:=VO;have Io:=Qi.zd m.en;rw[ua.Sh] at Io;obtain⟨m2,hm2⟩:∃m2:ua,m2={m1 with hd:=Vg m1.rg m1.hd m.en}:=⟨_,rfl⟩;rw[<-hm2] at Io⊢;have e1:Ca b m1 gb hb sb vw (.slice none 0 0)=Ca b m2 gb hb sb vw (.slice none 0 0):=by rw[hm2];rfl
      have e2:m1.rg=m2.rg:=by rw[hm2];rfl
      have e3:m1.dc=m2.dc/\m1.rc=m2.rc/\m1.ws=m2.ws/\m2.hd=Vg m1.rg m1.hd m.en:=by rw[hm2];exact⟨rfl,rfl,rfl,rfl⟩
      obtain⟨e3,e4,e5,e6⟩:=e3;rw[<-e6] at VO;have ny:Tf m2.s gb (T+3888) l1:=by rw[hm2];exact cg
      have Y1:=rz m2 b gb hb sb vw (.slice none 0 0) (N+16) (T+3888) Io.togi Io.cs (by omega) (by omega) (by omega) ny VO;obtain⟨s1,s2,s3,s4,s5,s6,s7,s8⟩:=m2.Sd;rw[<-r6,<-r5,e1,e2,e3,e4];generalize m2.pull=m3 at Y1 s1 s2 s3 s4 s5 s6 s7 s8⊢;refine ck Y1 ?_;rintro _ _ ⟨rfl,l3,v5,h5,rfl,dY,eY⟩;refine Za ?_;rw[<-s6,<-s5];refine D.Vd [Ca b m3 gb hb sb vw (.slice none 0 0),l3,hw,Oa hb m3.rg v5,h5,Ta sb m3.dc m3.rc,R] (H2:=[[],Ca b m3 gb hb sb vw (.slice none 0 0)++(l3++(hw++(Oa hb m3.rg v5++(h5++Ta sb m3.dc m3.rc)))),R]) (by simp) ?_;exact D.aQ (false,.slice none 0 0,[],_) ⟨rfl,ia.nil _,Zq.is (n:=m3) (gb:=gb) (hb:=hb) (sb:=sb) ⟨dY.mono (by omega),by rw[s4,<-e5,r4];exact at_.ws,eY⟩⟩
     .have hz:=ua.Ho (n:=n) (m:=m) (by omega) (by omega) (λh=>absurd h.1 (by omega)) (λh=>absurd h.1 (by omega)) (λh=>absurd h.1 (by omega)) (λh=>c h.2.2) (λh=>absurd h.1 (by omega)) (λh=>absurd h.1 (by omega));rw[rj c] at LK;try refine ga ?_
      refine sj ?_;refine wq ?_;repeat' first|refine ga ?_|refine cq LK ?_
      refine D.Vd [Ca b n gb hb sb vw (.slice none 0 0),vb n gb cb d w tn,ta cb n.c u,hv,X,hw,Oa hb n.rg v,hh,Ta sb n.dc n.rc,R] (H2:=[[],Hh b n gb hb sb vw (.slice none 0 0) (vb n gb cb d w tn++(ta cb n.c u++(hv++X))) hw v hh,R]) (by simp) ?_;exact D.aQ (false,.slice none 0 0,[],_) ⟨by rw[hz],by rw[hz];exact ia.nil _,by rw[hz];exact KI.is (hb:=hb) (sb:=sb)⟩
   by_cases NR:m.kind=13
   .cases ew with
    |false=>
     have hz:=ua.Ho (n:=n) (m:=m) (by omega) (by omega) (λh=>absurd h.1 (by omega)) (λh=>absurd h.1 (by omega)) (λh=>absurd h.1 (by omega)) (λh=>absurd h.1 (by omega)) (λh=>by rw[bN] at h;cases h.2) (λh=>absurd h.1 (by omega));by_cases k1:m.fr.k=1<;>by_cases k2:m.fr.dc=n.dc<;>by_cases k3:m.fr.rg=n.rg;all_goals try(exact absurd (show n.Dh m=true from Mi ⟨k1,k2,k3⟩) (by rw[bN];decide))
     all_goals
      try refine ga ?_
      refine sj ?_;refine sj ?_;refine sj ?_;refine sj ?_;refine D.Vd [Ca b n gb hb sb vw (.slice none 0 0),vb n gb cb d w tn,ta cb n.c u,hv,X,hw,Oa hb n.rg v,hh,Ta sb n.dc n.rc,R] (H2:=[[],Hh b n gb hb sb vw (.slice none 0 0) (vb n gb cb d w tn++(ta cb n.c u++(hv++X))) hw v hh,R]) (by simp) ?_
      exact D.aQ (false,.slice none 0 0,[],_) ⟨by rw[hz],by rw[hz];exact ia.nil _,by rw[hz];exact KI.is (hb:=hb) (sb:=sb)⟩
    |true=>
     obtain⟨g1,g2,g3⟩:=of_decide_eq_true bN;have hz:=ua.dN (n:=n) NR bN;have hg:=ua.fN m hdc.1 hdc.2;obtain⟨k,hk⟩:∃k,V3.get ⟨m.c0,m.c1,m.c2⟩ n.dc=k:=⟨_,rfl⟩;rw[hk] at hz hg;have tV:=tL sb n.dc m.fr.dc k n.rc;have uV:=wk ok.xb.co cb u;rw[hz];by_cases c:De n.dc m.fr.dc/\n.rc.get m.fr.dc<k
     .rw[if_pos c,Mi c] at tV;rw[if_pos c];obtain⟨n1,ic⟩:∃n1:ua,n1={n with rc:=n.rc.put m.fr.dc.toNat k}:=⟨_,rfl⟩;have e1:Ca b n gb hb sb vw (.slice none 0 0)=Ca b n1 gb hb sb vw (.slice none 0 0):=by rw[ic];rfl
      have e2:vb n gb cb d w tn=vb n1 gb cb d w tn/\ta cb n.c u=ta cb n1.c u/\n.rg=n1.rg/\n.dc=n1.dc/\n.rc.put m.fr.dc.toNat k=n1.rc:=by rw[ic];exact⟨rfl,rfl,rfl,rfl,rfl⟩
      obtain⟨e2,e3,e4,e5,e6⟩:=e2;rw[<-ic];have B0:Zq n1 gb (T+8000) vw (vb n1 gb cb d w tn++(ta cb n1.c u++(hv++X))) hw v hh:=by rw[ic];exact⟨KI.lg,at_.ws,at_.hd⟩
      have hsi:=yF n1 b gb hb sb cb d w tn vw (.slice none 0 0) u (by rw[ic];exact ok.xb) (by rw[ic];exact ok.cs) (show Rs n1.c.lg u hv by rw[ic];exact Ue.rs) (by rw[ic];exact ok.nn) (ia.nil 52) (by simp only[td];omega) m.fr.dc;rw[nil_append] at hsi;obtain⟨su,hsu⟩:∃su,n.c.su=su:=⟨_,rfl⟩;have hs:n.sure=(decide n.c.last && su):=by unfold ua.sure;rw[hsu]
      rw[hs];try refine ga ?_
      refine sj ?_;refine sj ?_;refine sj ?_;refine Wp (ml [15]) [Yb b3 m,Ca b n gb hb sb vw (.slice none 0 0)] ?_;repeat' first|refine ga ?_|refine lN m.enc _ rfl ?_ (hc:=hg)
      refine ck tV ?_;rintro _ _ ⟨rfl,rfl⟩;simp only[can];by_cases cl:n.c.last
      .rw[Mi cl] at uV⊢;repeat' first|refine ga ?_|refine cq uV ?_
       refine W.as 281 (.bool su) rfl (by rw[<-hsu]) ?_
       cases su with
       |false=>
        rw[if_neg (λh=>by cases h.2)];try refine ga ?_
        rw[e1,e2,e3,e4,e5,e6];refine D.Vd [Ca b n1 gb hb sb vw (.slice none 0 0),vb n1 gb cb d w tn,ta cb n1.c u,hv,X,hw,Oa hb n1.rg v,hh,Ta sb n1.dc n1.rc,R] (H2:=[[],Hh b n1 gb hb sb vw (.slice none 0 0) (vb n1 gb cb d w tn++(ta cb n1.c u++(hv++X))) hw v hh,R]) (by simp) ?_
        exact D.aQ (false,.slice none 0 0,[],_) ⟨rfl,ia.nil _,B0.is (hb:=hb) (sb:=sb)⟩
       |true=>
        rw[if_pos ⟨c,rfl⟩];try refine ga ?_
        rw[e1,e2,e3,e4,e5,e6];refine WX.Pe ?_;refine ck hsi ?_;rintro _ _ ⟨rfl,v1,h1,hs1,rfl⟩;refine Za ?_;refine D.Vd [h1,Ca b n1 gb hb sb vw v1,vb n1 gb cb d w tn,ta cb n1.c u,hv,X,hw,Oa hb n1.rg v,hh,Ta sb n1.dc n1.rc,R] (H2:=[h1,Hh b n1 gb hb sb vw v1 (vb n1 gb cb d w tn++(ta cb n1.c u++(hv++X))) hw v hh,R]) (by simp) ?_;exact D.aQ (false,v1,h1,_) ⟨rfl,hs1,B0.is (hb:=hb) (sb:=sb)⟩
      .rw[rj cl] at uV⊢;rw[Bool.false_and,if_neg (λh=>by cases h.2)];repeat' first|refine ga ?_|refine cq uV ?_
       rw[e1,e2,e3,e4,e5,e6];refine D.Vd [Ca b n1 gb hb sb vw (.slice none 0 0),vb n1 gb cb d w tn,ta cb n1.c u,hv,X,hw,Oa hb n1.rg v,hh,Ta sb n1.dc n1.rc,R] (H2:=[[],Hh b n1 gb hb sb vw (.slice none 0 0) (vb n1 gb cb d w tn++(ta cb n1.c u++(hv++X))) hw v hh,R]) (by simp) ?_;exact D.aQ (false,.slice none 0 0,[],_) ⟨rfl,ia.nil _,B0.is (hb:=hb) (sb:=sb)⟩
     .rw[if_neg c,rj c] at tV;rw[if_neg c,if_neg (λh=>c h.1)];try refine ga ?_
      refine sj ?_;refine sj ?_;refine sj ?_;refine Wp (ml [15]) [Yb b3 m,Ca b n gb hb sb vw (.slice none 0 0)] ?_;repeat' first|refine ga ?_|refine lN m.enc _ rfl ?_ (hc:=hg)|refine cq tV ?_
      refine D.Vd [Ca b n gb hb sb vw (.slice none 0 0),vb n gb cb d w tn,ta cb n.c u,hv,X,hw,Oa hb n.rg v,hh,Ta sb n.dc n.rc,R] (H2:=[[],Hh b n gb hb sb vw (.slice none 0 0) (vb n gb cb d w tn++(ta cb n.c u++(hv++X))) hw v hh,R]) (by simp) ?_;exact D.aQ (false,.slice none 0 0,[],_) ⟨rfl,ia.nil _,KI.is (hb:=hb) (sb:=sb)⟩
   by_cases gN:m.kind=14
   .cases bs with
    |false=>
     have hz:=ua.Ho (n:=n) (m:=m) (by omega) (by omega) (λh=>absurd h.1 (by omega)) (λh=>absurd h.1 (by omega)) (λh=>absurd h.1 (by omega)) (λh=>absurd h.1 (by omega)) (λh=>absurd h.1 (by omega)) (λh=>by rw[MI] at h;cases h.2);by_cases k1:m.fr.k=1<;>by_cases k2:m.fr.dc=n.dc<;>by_cases k3:m.fr.rg=n.rg;all_goals try(exact absurd (show n.Ig m=true from Mi ⟨k1,k2,k3⟩) (by rw[MI];decide))
     all_goals
      try refine ga ?_
      refine sj ?_;refine sj ?_;refine sj ?_;refine sj ?_;refine D.Vd [Ca b n gb hb sb vw (.slice none 0 0),vb n gb cb d w tn,ta cb n.c u,hv,X,hw,Oa hb n.rg v,hh,Ta sb n.dc n.rc,R] (H2:=[[],Hh b n gb hb sb vw (.slice none 0 0) (vb n gb cb d w tn++(ta cb n.c u++(hv++X))) hw v hh,R]) (by simp) ?_
      exact D.aQ (false,.slice none 0 0,[],_) ⟨by rw[hz],by rw[hz];exact ia.nil _,by rw[hz];exact KI.is (hb:=hb) (sb:=sb)⟩
    |true=>
     obtain⟨g1,g2,g3⟩:=of_decide_eq_true MI;have hz:=ua.OI (n:=n) gN MI;have Z1:=ZM n.kn m.fr.rg ⟨m.c0,m.c1,m.c2⟩;have Qi:=ok.wz hr g3 ⟨m.c0,m.c1,m.c2⟩;rw[hz];generalize Gj n.kn m.fr.rg ⟨m.c0,m.c1,m.c2⟩=kn at Z1 Qi⊢;obtain⟨n1,ic⟩:∃n1:ua,n1={n with kn:=kn}:=⟨_,rfl⟩;rw[<-ic] at Qi⊢;have e1:setAt (n.mc gb hb sb vw (.slice none 0 0)) 12 kn.enc=n1.mc gb hb sb vw (.slice none 0 0):=by rw[ic];rfl
     have cg:Tf n1.s gb T (vb n gb cb d w tn++(ta cb n.c u++(hv++X))):=by rw[ic];exact hm0
     have Bo:ia 49 n1.hd v hh:=by rw[ic];exact at_.hd
     have e3:n.rg=n1.rg/\n.dc=n1.dc/\n.rc=n1.rc/\n.ws=n1.ws:=by rw[ic];exact⟨rfl,rfl,rfl,rfl⟩
     obtain⟨e3,e4,e5,e6⟩:=e3;have kp:=rz n1 b gb hb sb vw (.slice none 0 0) N T Qi.togi Qi.cs (by omega) Qh (by omega) cg Bo;obtain⟨s1,s2,s3,s4,s5,s6,s7,s8⟩:=n1.Sd;generalize n1.pull=m3 at kp s1 s2 s3 s4 s5 s6 s7 s8⊢;try refine ga ?_
     refine sj ?_;refine sj ?_;refine sj ?_;refine sj ?_;refine Wp (ml [10,1]) [Yb b3 m,Ca b n gb hb sb vw (.slice none 0 0)] ?_;repeat' first|refine ga ?_|refine bn b3 70 m.enc (V3.enc ⟨m.c0,m.c1,m.c2⟩) ?_|refine bn b 12 (n.mc gb hb sb vw (.slice none 0 0)) n.kn.enc ?_|refine cq Z1 ?_
     refine WX.qd (vs:=kn.enc) (b:=b) (i:=12) (cs:=n.mc gb hb sb vw (.slice none 0 0)) rfl rfl rfl rfl rfl rfl ?_;rw[e1];try refine ga ?_
     rw[e3,e4,e5];refine ck kp ?_;rintro _ _ ⟨rfl,l3,v5,h5,rfl,dY,eY⟩;refine Za ?_;rw[<-s6,<-s5];refine D.Vd [Ca b m3 gb hb sb vw (.slice none 0 0),l3,hw,Oa hb m3.rg v5,h5,Ta sb m3.dc m3.rc,R] (H2:=[[],Ca b m3 gb hb sb vw (.slice none 0 0)++(l3++(hw++(Oa hb m3.rg v5++(h5++Ta sb m3.dc m3.rc)))),R]) (by simp) ?_;exact D.aQ (false,.slice none 0 0,[],_) ⟨rfl,ia.nil _,Zq.is (n:=m3) (gb:=gb) (hb:=hb) (sb:=sb) ⟨dY.mono (by omega),by rw[s4,<-e6];exact at_.ws,eY⟩⟩
   have hz:=ua.Ho (n:=n) (m:=m) (by omega) (by omega) (λh=>absurd h.1 (by omega)) (λh=>absurd h.1 (by omega)) (λh=>absurd h.1 (by omega)) (λh=>absurd h.1 (by omega)) (λh=>absurd h.1 (by omega)) (λh=>absurd h.1 (by omega));try refine ga ?_
   refine sj ?_;refine sj ?_;refine sj ?_;refine sj ?_;refine D.Vd [Ca b n gb hb sb vw (.slice none 0 0),vb n gb cb d w tn,ta cb n.c u,hv,X,hw,Oa hb n.rg v,hh,Ta sb n.dc n.rc,R] (H2:=[[],Hh b n gb hb sb vw (.slice none 0 0) (vb n gb cb d w tn++(ta cb n.c u++(hv++X))) hw v hh,R]) (by simp) ?_;exact D.aQ (false,.slice none 0 0,[],_) ⟨by rw[hz],by rw[hz];exact ia.nil _,by rw[hz];exact KI.is (hb:=hb) (sb:=sb)⟩
  rintro⟨he,v1,h1,hx⟩ ⟨e1,hs1,ic⟩;simp only[] at e1 hs1 ic⊢;have hml:=ua.uL ok.nn.2 m;obtain⟨⟨⟨n1,ms⟩,he'⟩,hz⟩:∃z,n.Ka m=z:=⟨_,rfl⟩;rw[hz] at e1 hs1 ic qL hml⊢;simp only[] at e1 hs1 ic qL hml⊢;subst e1;obtain⟨DB,hb',sb',iy,hl',Oi,v',zj,rfl,vL⟩:=ic;have xe:=vL.lg;obtain⟨ob,d',w',Aj,u',Rc,X',rfl,Hl⟩:=ua.HI vL.lg;have o1:=qL.xb;have kt:=wR n1 b DB hb' sb' hs1 (by omega) (cb:=ob) (d:=d') (w:=w') (tn:=Aj) o1 qL.cs Hl.rs qL.wl qL.wi vL.ws n.c.du n.c.st n.c.ak;have htl:=ua.Oq qL.wl n.c.du n.c.st n.c.ak;refine W.f0 [h1,Ca b n1 DB hb' sb' iy v1,vb n1 DB ob d' w' Aj,ta ob n1.c u',Rc,X',Oi,Oa hb' n1.rg v',zj,Ta sb' n1.dc n1.rc,R] ?_;try refine ga ?_
  refine ck kt ?_;rintro _ _ ⟨rfl,v2,h2,Qw,Qr,Sa,wL,rfl⟩;simp only[can];have ny:(ms++n1.eg n.c.du n.c.st n.c.ak).length<=118:=by rw[Eb];omega
  rw[<-Sc];generalize ms++n1.eg n.c.du n.c.st n.c.ak=ms2 at Sa ny⊢;have ka:Ct prog 99 [b] [Ca b n1.Qa DB hb' sb' Qw v2,h2,vb n1 DB ob d' w' Aj,ta ob n1.c u'] (jz b n1.Qa DB hb' sb' Qw (ms2++n1.Qa.Af) [vb n1 DB ob d' w' Aj,ta ob n1.c u']):=iu n1.Qa b DB hb' sb' Qw Sa (by omega) o1
  cases he with
  |false=>
   rw[if_neg (by decide),append_nil];try refine ga ?_
   refine D.Vd [h2,Ca b n1.Qa DB hb' sb' Qw v2,vb n1 DB ob d' w' Aj,ta ob n1.c u',Rc,X',Qr,Oa hb' n1.rg v',zj,Ta sb' n1.dc n1.rc,R] (H2:=[h2,Ca b n1.Qa DB hb' sb' Qw v2++((vb n1 DB ob d' w' Aj++(ta ob n1.c u'++(Rc++X')))++(Qr++(Oa hb' n1.rg v'++(zj++Ta sb' n1.dc n1.rc)))),R]) (by simp) ?_
   exact Xa [h2,Ca b n1.Qa DB hb' sb' Qw v2++((vb n1 DB ob d' w' Aj++(ta ob n1.c u'++(Rc++X')))++(Qr++(Oa hb' n1.rg v'++(zj++Ta sb' n1.dc n1.rc))))] rfl rfl ⟨_,_,Sa,⟨v2,Zq.is (n:=n1.Qa) (gb:=DB) (hb:=hb') (sb:=sb') ⟨xe,wL,vL.hd⟩⟩,rfl⟩
  |true=>
   rw[if_pos rfl];try refine ga ?_
   refine ck ka ?_;rintro _ _ ⟨rfl,v6,h6,Nq,rfl⟩;refine Za ?_;refine D.Vd [h6,Ca b n1.Qa DB hb' sb' Qw v6,vb n1 DB ob d' w' Aj,ta ob n1.c u',Rc,X',Qr,Oa hb' n1.rg v',zj,Ta sb' n1.dc n1.rc,R] (H2:=[h6,Ca b n1.Qa DB hb' sb' Qw v6++((vb n1 DB ob d' w' Aj++(ta ob n1.c u'++(Rc++X')))++(Qr++(Oa hb' n1.rg v'++(zj++Ta sb' n1.dc n1.rc)))),R]) (by simp) ?_;exact Xa [h6,Ca b n1.Qa DB hb' sb' Qw v6++((vb n1 DB ob d' w' Aj++(ta ob n1.c u'++(Rc++X')))++(Qr++(Oa hb' n1.rg v'++(zj++Ta sb' n1.dc n1.rc))))] rfl rfl ⟨_,_,Nq,⟨v6,Zq.is (n:=n1.Qa) (gb:=DB) (hb:=hb') (sb:=sb') ⟨xe,wL,vL.hd⟩⟩,rfl⟩
end
end Go.Proofs.YthebagfahkebiaaGreat
