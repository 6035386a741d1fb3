/- Texts of one road. -/
import Derived.Test.YthebagfahkebiaaGreatRBE
set_option linter.all false
set_option maxHeartbeats 8000000
set_option maxRecDepth 20000
namespace Go.Proofs.YthebagfahkebiaaGreat
open Go Go.Sl Go.Proofs.Tryz List
def sL(a e:Ki):Ab [.i,.i,.i,.i] a.enc e.enc=some (decide (a=e)):=by
 obtain⟨b,h1,h2⟩:=Zh (ks:=[.i,.i,.i,.i]) (xs:=a.enc) (ys:=e.enc) rfl rfl;rw[h1];congr 1;by_cases h:a=e
 .rw[Mi h];exact h2.2 (by rw[h])
 .rw[rj h]
  cases hb:b with
  |false=>rfl
  |true=>
   have:=h2.1 hb;unfold Ki.enc at this;simp only[List.cons.injEq,Value.int.injEq,true_and,and_true] at this;obtain⟨a1,a2,a3,a4⟩:=this;exact absurd (by cases a;cases e;simp only[] at a1 a2 a3 a4;rw[a1,a2,a3,a4]) h
def vf.of{n n1:ua}{b lb hb sb:Nat}{vw:Value}{hl hw:Hp}{v:Value}{hh:Hp}(p1:n1.hd=n.hd)(p2:n1.rg=n.rg)(p3:n1.dc=n.dc)(p4:n1.rc=n.rc)(hm:Dg n1.s lb hl)(Br:ia 181 n1.ws vw hw)(hd:ia 49 n.hd v hh):
  vf n1 b (za b n1 lb hb sb vw++(hl++(hw++(Fa hb n.rg v++(hh++Ja sb n.dc n.rc))))):=by
 rw[<-p2,<-p3,<-p4];exact Qs.is ⟨hm,Br,by rw[p1];exact hd⟩
def ua.fN(m:Da){x:Int}(h0:0<=x)(h3:x<3):m.enc[0+70+x.toNat*1]? =some (.int .i64 (V3.get ⟨m.c0,m.c1,m.c2⟩ x)):=by
 obtain rfl|rfl|rfl:x=0\/x=1\/x=2:=by omega
 all_goals rfl
section
variable{n:ua}{b:Nat}{h:Hp}(hm:vf n b h){N:Int}(ok:We n N)(hN:N+40<=1099511627776)(hr:0<=n.rg/\n.rg<3)(hdc:0<=n.dc/\n.dc<3)
include hm ok hN hr hdc
theorem kj(m:Da):Ct prog 15 [b,.agg (List.toArray m.enc)] [h] (λr H'=>∃h1 h',ia 52 (n.handle m).2 r h1/\vf (n.handle m).1 b h'/\H'=[h1,h']):=by
 have qL:=ok.Ka hN hr m;obtain⟨lb,hb,sb,vw,hl,hw,v,hh,rfl,at_⟩:=hm;have hm0:=at_.lg;obtain⟨cb,d,w,u,hv,X,rfl,Ue,x7⟩:=ua.I8 at_.lg;have Uk:=Xv n lb cb d w;have hst:=aG n b lb hb sb cb d w vw u;unfold ua.handle
 cases hu:n.s.jb with
 |false=>
  rw[if_pos rfl];rw[hu] at Uk;refine ce func15 λg R=>?_;simp only[can];refine W.f0 [za b n lb hb sb vw,Pa n lb cb d w,ja cb n.c u,hv,X,hw,Fa hb n.rg v,hh,Ja sb n.dc n.rc,R] ?_;repeat' first|refine ga ?_|refine Uc λ_=>?_|refine cq Uk ?_
  exact Xa [[],Ti b n lb hb sb vw (Pa n lb cb d w++(ja cb n.c u++(hv++X))) hw v hh] rfl rfl ⟨_,_,ia.nil _,at_.is,rfl⟩
 |true=>
  rw[if_neg (by decide)];rw[hu] at Uk;refine ce func15 λg R=>?_;simp only[can];refine W.f0 [za b n lb hb sb vw,Pa n lb cb d w,ja cb n.c u,hv,X,hw,Fa hb n.rg v,hh,Ja sb n.dc n.rc,R] ?_;repeat' first|refine ga ?_|refine Uc λ_=>?_|refine al λ_=>?_|refine cq Uk ?_|refine cq hst ?_|refine xg [.int .i64 0,.int .i64 0,.int .i64 0] [n.c.du,n.c.st,n.c.ak] ?_|refine xg Ki.z.enc m.fr.enc ?_|refine WX.Ea (i:=1) (cs:=m.enc) (vs:=m.fr.enc) rfl rfl rfl rfl ?_
  rename_i b3 b5 b6;obtain⟨ch,hch⟩:∃ch:Bool,n.Bh m=ch:=⟨_,rfl⟩;obtain⟨ew,bN⟩:∃ew:Bool,n.Dh m=ew:=⟨_,rfl⟩;obtain⟨bs,MI⟩:∃bs:Bool,n.Ig m=bs:=⟨_,rfl⟩;refine W.cj (α:=Unit) (λ_=>True) (λ_=>[(0,b),(3,b3),(5,b5),(6,b6),(7,.bool (decide (m.fr.k=1))),(8,.bool ch)]) (λ_=>[Yb b3 m,Fe b5 n.c.du n.c.st n.c.ak,Rp b6 m.fr,za b n lb hb sb vw,Pa n lb cb d w,ja cb n.c u,hv,X,hw,Fa hb n.rg v,hh,Ja sb n.dc n.rc,R]) ?_ ?_
  .by_cases k1:m.fr.k=1<;>by_cases k2:m.fr.dc=n.dc
   all_goals
    refine sj ?_;refine D.as 8 (.bool ch) rfl (by rw[<-hch];unfold ua.Bh;simp[k1,k2]) ?_;exact D.aQ () trivial
  rintro⟨⟩ -;try simp only[]
  refine W.seq ?_;refine W.cj (α:=Unit) (λ_=>True) (λ_=>[(0,b),(3,b3),(5,b5),(6,b6),(7,.bool (decide (m.fr.k=1))),(8,.bool ch),(9,.bool ew)]) (λ_=>[Yb b3 m,Fe b5 n.c.du n.c.st n.c.ak,Rp b6 m.fr,za b n lb hb sb vw,Pa n lb cb d w,ja cb n.c u,hv,X,hw,Fa hb n.rg v,hh,Ja sb n.dc n.rc,R]) ?_ ?_
  .by_cases k1:m.fr.k=1<;>by_cases k2:m.fr.dc=n.dc
   all_goals
    refine sj ?_;refine D.as 9 (.bool ew) rfl (by rw[<-bN];unfold ua.Dh;simp[k1,k2]) ?_;exact D.aQ () trivial
  rintro⟨⟩ -;try simp only[]
  refine W.seq ?_;refine W.cj (α:=Unit) (λ_=>True) (λ_=>[(0,b),(3,b3),(5,b5),(6,b6),(8,.bool ch),(9,.bool ew),(10,.bool bs)]) (λ_=>[Yb b3 m,Fe b5 n.c.du n.c.st n.c.ak,Rp b6 m.fr,za b n lb hb sb vw,Pa n lb cb d w,ja cb n.c u,hv,X,hw,Fa hb n.rg v,hh,Ja sb n.dc n.rc,R]) ?_ ?_
  .by_cases k1:m.fr.k=1<;>by_cases k2:m.fr.dc=n.dc
   all_goals
    refine sj ?_;refine D.as 10 (.bool bs) rfl (by rw[<-MI];unfold ua.Ig;simp[k1,k2]) ?_;exact D.aQ () trivial
  rintro⟨⟩ -;try simp only[]
  refine W.seq ?_;refine W.cj (α:=Unit) (λ_=>True) (λ_=>[(0,b),(3,b3),(5,b5),(6,b6),(8,.bool ch),(9,.bool ew),(10,.bool bs),(11,.slice none 0 0),(12,.slice none 0 0)]) (λ_=>[Yb b3 m,Fe b5 n.c.du n.c.st n.c.ak,Rp b6 m.fr,za b n lb hb sb vw,Pa n lb cb d w,ja cb n.c u,hv,X,hw,Fa hb n.rg v,hh,Ja sb n.dc n.rc,R]) ?_ ?_
  .try refine ga ?_
   exact D.aQ () trivial
  rintro⟨⟩ -;try simp only[]
  refine W.seq ?_;refine W.cj (α:=Unit) (λ_=>True) (λ_=>[(0,b),(3,b3),(5,b5),(6,b6),(8,.bool ch),(9,.bool ew),(10,.bool bs),(11,.slice none 0 0),(12,.slice none 0 0),(13,.bool false)]) (λ_=>[Yb b3 m,Fe b5 n.c.du n.c.st n.c.ak,Rp b6 m.fr,za b n lb hb sb vw,Pa n lb cb d w,ja cb n.c u,hv,X,hw,Fa hb n.rg v,hh,Ja sb n.dc n.rc,R]) ?_ ?_
  .try refine ga ?_
   exact D.aQ () trivial
  rintro⟨⟩ -;try simp only[]
  refine W.seq ?_;refine W.cj (α:=Bool×Value×Hp×Hp) (λy=>y.1=(n.Ka m).2/\ia 52 (n.Ka m).1.2 y.2.1 y.2.2.1/\vf (n.Ka m).1.1 b y.2.2.2) (λy=>[(0,b),(5,b5),(11,y.2.1),(12,.slice none 0 0),(13,.bool y.1)]) (λy=>[y.2.2.1,Fe b5 n.c.du n.c.st n.c.ak,y.2.2.2,R]) ?_ ?_
  .by_cases q3:m.kind=3
   .have hz:=ua.rL (n:=n) q3;have kp:=lW n ok (by omega) b lb hb sb m hm0 at_.ws;obtain⟨p1,p2,p3,p4⟩:=ua.lu (n:=n) m;rw[hz];generalize n.put m=r at kp p1 p2 p3 p4⊢;obtain⟨n1,ms⟩:=r;simp only[] at kp p1 p2 p3 p4⊢;repeat' first|refine ga ?_|refine Pg m.enc ?_
    refine ck kp ?_;rintro r1 _ ⟨h1,U1,hw1,l1,hs1,cg,FE,rfl⟩;refine Za ?_;refine D.Vd [h1,Fe b5 n.c.du n.c.st n.c.ak,za b n1 lb hb sb U1,l1,hw1,Fa hb n.rg v,hh,Ja sb n.dc n.rc,R] (H2:=[h1,Fe b5 n.c.du n.c.st n.c.ak,za b n1 lb hb sb U1++(l1++(hw1++(Fa hb n.rg v++(hh++Ja sb n.dc n.rc)))),R]) (by simp) ?_;exact D.aQ (false,r1,h1,_) ⟨rfl,hs1,vf.of (hb:=hb) (sb:=sb) p1 p2 p3 p4 cg FE at_.hd⟩
   by_cases q5:m.kind=5
   .have hz:=ua.TO (n:=n) q5;have kg:=mW n b lb hb sb cb d w vw u ok.xb ok.cs Ue.rs m;repeat' first|refine ga ?_|refine Pg m.enc ?_
    refine ck kg ?_;rintro r1 _ ⟨h1,hs1,rfl⟩;refine Za ?_;refine D.Vd [h1,Fe b5 n.c.du n.c.st n.c.ak,za b n lb hb sb vw,Pa n lb cb d w,ja cb n.c u,hv,X,hw,Fa hb n.rg v,hh,Ja sb n.dc n.rc,R] (H2:=[h1,Fe b5 n.c.du n.c.st n.c.ak,Ti b n lb hb sb vw (Pa n lb cb d w++(ja cb n.c u++(hv++X))) hw v hh,R]) (by simp) ?_;exact D.aQ (false,r1,h1,_) ⟨by rw[hz],by rw[hz];exact hs1,by rw[hz];exact at_.is (hb:=hb) (sb:=sb)⟩
   by_cases q7:m.kind=7
   .cases ch with
    |false=>
     have hz:=ua.Ho (n:=n) (m:=m) (by omega) (by omega) (λh=>by rw[hch] at h;cases h.2) (λh=>absurd h.1 (by omega)) (λh=>absurd h.1 (by omega)) (λh=>absurd h.1 (by omega)) (λh=>absurd h.1 (by omega)) (λh=>absurd h.1 (by omega));try refine ga ?_
     refine sj ?_;refine D.Vd [Fe b5 n.c.du n.c.st n.c.ak,za b n lb hb sb vw,Pa n lb cb d w,ja cb n.c u,hv,X,hw,Fa hb n.rg v,hh,Ja sb n.dc n.rc,R] (H2:=[[],Fe b5 n.c.du n.c.st n.c.ak,Ti b n lb hb sb vw (Pa n lb cb d w++(ja cb n.c u++(hv++X))) hw v hh,R]) (by simp) ?_
     exact D.aQ (false,.slice none 0 0,[],_) ⟨by rw[hz],by rw[hz];exact ia.nil _,by rw[hz];exact at_.is (hb:=hb) (sb:=sb)⟩
    |true=>
     have hz:=ua.GR (n:=n) q7 hch;have k1:=Sg n.c cb u;have k2:=eo n.c cb u;have k3:=Ny ok.xb.co n.nd;by_cases c:m.ep=n.ep/\0<=m.fr.nd/\m.fr.nd=Nd n.c.co n.nd
     .obtain⟨c1,c2,c3⟩:=c;rw[if_pos ⟨c1,c2,c3⟩] at hz;have kt:=mP ok.ok hm0 m.fr.nd m.ep m.ix m.en;obtain⟨n1,ic⟩:∃n1:ua,n1={n with s:=(n.s.take m.fr.nd m.ep m.ix m.en).2}:=⟨_,rfl⟩;have hid:=Ga.Dm n.s m.fr.nd m.ep m.ix m.en;have e1:za b n lb hb sb vw=za b n1 lb hb sb vw:=by rw[ic];exact(n.ai hid ..).symm
      have p1:n1.hd=n.hd/\n1.rg=n.rg/\n1.dc=n.dc/\n1.rc=n.rc/\n1.ws=n.ws/\n1.s=(n.s.take m.fr.nd m.ep m.ix m.en).2:=by rw[ic];exact⟨rfl,hid.2.1,hid.1,rfl,rfl,rfl⟩
      obtain⟨p1,p2,p3,p4,p5,p6⟩:=p1;rw[<-ic] at hz;rw[hz];rw[<-p6] at kt;obtain⟨a1,JU⟩:∃a,Nd n.c.co n.nd=a:=⟨_,rfl⟩;rw[JU] at k3 c3;try refine ga ?_
      refine wq ?_;repeat' first|refine ga ?_|refine cq k1 ?_|refine cq k2 ?_|refine cq k3 ?_
      refine Wp (ml [12]) [Yb b3 m,Rp b6 m.fr,za b n lb hb sb vw] ?_;repeat' first|refine ga ?_|refine bn b3 27 m.enc m.en.enc ?_
      refine ck kt ?_;rintro _ _ ⟨rfl,l1,rfl,cg⟩;have xe:=cg;obtain⟨ob,d',w',u',Rc,X',rfl,Hl⟩:=ua.Qv cg;have k4:=ZF n1 b lb hb sb ob d' w' vw u' m.fr;rw[e1];refine WX.f0 [Pa n1 lb ob d' w',ja ob n1.c u',Rc,X',Yb b3 m,Fe b5 n.c.du n.c.st n.c.ak,Rp b6 m.fr,za b n1 lb hb sb vw,hw,Fa hb n.rg v,hh,Ja sb n.dc n.rc,R] ?_;repeat' first|refine ga ?_|refine Pg m.fr.enc ?_|refine cq k4 ?_
      refine Up [n1.Jx m.fr] (λv2 h2 Sa=>?_);refine WX.Pe ?_;refine Jt (zb:=by simp only[Ib,td];omega) (show ia 52 ([]:List Da) (.slice none 0 0) [] from ia.nil _) Sa.rs (λv3 h3 Cc=>?_);rw[nil_append] at Cc;try refine ga ?_
      refine D.Vd [h3,Fe b5 n.c.du n.c.st n.c.ak,za b n1 lb hb sb vw,Pa n1 lb ob d' w',ja ob n1.c u',Rc,X',hw,Fa hb n.rg v,hh,Ja sb n.dc n.rc,R] (H2:=[h3,Fe b5 n.c.du n.c.st n.c.ak,za b n1 lb hb sb vw++((Pa n1 lb ob d' w'++(ja ob n1.c u'++(Rc++X')))++(hw++(Fa hb n.rg v++(hh++Ja sb n.dc n.rc)))),R]) (by simp) ?_;exact D.aQ (false,v3,h3,_) ⟨rfl,Cc,vf.of (hb:=hb) (sb:=sb) p1 p2 p3 p4 xe (by rw[p5];exact at_.ws) at_.hd⟩
     .rw[if_neg c] at hz;by_cases c1:m.ep=n.ep<;>by_cases c2:0<=m.fr.nd<;>by_cases c3:m.fr.nd=Nd n.c.co n.nd
      .exact absurd ⟨c1,c2,c3⟩ c
      all_goals
       try refine ga ?_
       refine wq ?_;repeat' first|refine ga ?_|refine cq k1 ?_|refine cq k2 ?_|refine cq k3 ?_
       refine D.Vd [Fe b5 n.c.du n.c.st n.c.ak,za b n lb hb sb vw,Pa n lb cb d w,ja cb n.c u,hv,X,hw,Fa hb n.rg v,hh,Ja sb n.dc n.rc,R] (H2:=[[],Fe b5 n.c.du n.c.st n.c.ak,Ti b n lb hb sb vw (Pa n lb cb d w++(ja cb n.c u++(hv++X))) hw v hh,R]) (by simp) ?_;exact D.aQ (false,.slice none 0 0,[],_) ⟨by rw[hz],by rw[hz];exact ia.nil _,by rw[hz];exact at_.is (hb:=hb) (sb:=sb)⟩
   by_cases q8:m.kind=8
   .cases ch with
    |false=>
     have hz:=ua.Ho (n:=n) (m:=m) (by omega) (by omega) (λh=>absurd h.1 (by omega)) (λh=>by rw[hch] at h;cases h.2) (λh=>absurd h.1 (by omega)) (λh=>absurd h.1 (by omega)) (λh=>absurd h.1 (by omega)) (λh=>absurd h.1 (by omega));try refine ga ?_
     refine sj ?_;refine D.Vd [Fe b5 n.c.du n.c.st n.c.ak,za b n lb hb sb vw,Pa n lb cb d w,ja cb n.c u,hv,X,hw,Fa hb n.rg v,hh,Ja sb n.dc n.rc,R] (H2:=[[],Fe b5 n.c.du n.c.st n.c.ak,Ti b n lb hb sb vw (Pa n lb cb d w++(ja cb n.c u++(hv++X))) hw v hh,R]) (by simp) ?_
     exact D.aQ (false,.slice none 0 0,[],_) ⟨by rw[hz],by rw[hz];exact ia.nil _,by rw[hz];exact at_.is (hb:=hb) (sb:=sb)⟩
    |true=>
     have hz:=ua.HR (n:=n) q8 hch;rw[Ga.JR] at hz;have hx:=x7 m.fr.nd m.ep m.ct m.ix;have kh:=vO ok.xb cb u m.fr.nd m.ep m.ct m.ix;obtain⟨n1,ic⟩:∃n1:ua,n1={n with s:=(n.s.heard m.fr.nd m.ep m.ct m.ix).2}:=⟨_,rfl⟩;have hid:=Ga.Ek n.s m.fr.nd m.ep m.ct m.ix;have e1:za b n lb hb sb vw=za b n1 lb hb sb vw:=by rw[ic];exact(n.ai hid ..).symm
     have p1:n1.hd=n.hd/\n1.rg=n.rg/\n1.dc=n.dc/\n1.rc=n.rc/\n1.ws=n.ws/\n1.s=(n.s.heard m.fr.nd m.ep m.ct m.ix).2:=by rw[ic];exact⟨rfl,hid.2.1,hid.1,rfl,rfl,rfl⟩
     obtain⟨p1,p2,p3,p4,p5,p6⟩:=p1;rw[<-ic] at hz;rw[<-p6] at hx;rw[hz];try refine ga ?_
     refine Wp (ml [15]) [Yb b3 m,Rp b6 m.fr,za b n lb hb sb vw,Pa n lb cb d w] ?_;try refine ga ?_
     refine ck kh ?_;rintro _ _ ⟨rfl,rfl⟩;simp only[can];show WX _ _ _ _ _ _ _ ((_,.bool (n.s.ch.heard m.fr.nd m.ep m.ct m.ix).1)::_) _;have hx2:n.c.heard m.fr.nd m.ep m.ct m.ix=n.s.ch.heard m.fr.nd m.ep m.ct m.ix:=rfl;rw[hx2] at hx⊢;generalize n.s.ch.heard m.fr.nd m.ep m.ct m.ix=c2 at hx⊢;rw[e1];try refine ga ?_
     refine D.Vd [Fe b5 n.c.du n.c.st n.c.ak,za b n1 lb hb sb vw,Pa n lb cb d w,ja cb c2.2 u,hv,X,hw,Fa hb n.rg v,hh,Ja sb n.dc n.rc,R] (H2:=[[],Fe b5 n.c.du n.c.st n.c.ak,za b n1 lb hb sb vw++((Pa n lb cb d w++(ja cb c2.2 u++(hv++X)))++(hw++(Fa hb n.rg v++(hh++Ja sb n.dc n.rc)))),R]) (by simp) ?_;exact D.aQ (c2.1,.slice none 0 0,[],_) ⟨rfl,ia.nil _,vf.of (hb:=hb) (sb:=sb) p1 p2 p3 p4 hx (by rw[p5];exact at_.ws) at_.hd⟩
   by_cases q9:m.kind=9
   .have V1:=Ns n b lb hb sb vw;have Jn:=sL m.fr n.Fc;by_cases c:m.fr=n.Fc
    .have hz:=ua.KR (n:=n) q9 c;rw[Mi c] at Jn;have W5:=Nz ok.ok hm0 m.cf;have hid:=Ga.Ih n.s m.cf;rw[hz];try refine ga ?_
     refine wq ?_;repeat' first|refine ga ?_|refine Pg m.fr.enc ?_|refine cq V1 ?_|refine WX.aq rfl rfl Jn rfl ?_
     refine Wp (ml [6,1,5]) [Yb b3 m,Rp b6 m.fr,za b n lb hb sb vw] ?_;repeat' first|refine ga ?_|refine bn b3 14 m.enc m.cf.enc ?_
     refine ck W5 ?_;rintro _ _ ⟨rfl,l1,rfl,cg⟩;simp only[can];generalize n.s.enter m.cf=r at hid cg⊢;obtain⟨⟨rs,er⟩,s1⟩:=r;simp only[] at hid cg⊢;by_cases c2:er=0
     .rw[if_pos c2];obtain⟨n1,ic⟩:∃n1:ua,n1={n with s:=s1,ws:=[]}:=⟨_,rfl⟩;have e1:za b n1 lb hb sb (.slice none 0 0)=za b n lb hb sb (.slice none 0 0):=by rw[ic];exact n.ai hid ..
      have p1:n1.hd=n.hd/\n1.rg=n.rg/\n1.dc=n.dc/\n1.rc=n.rc/\n1.ws=[]/\n1.s=s1:=by rw[ic];exact⟨rfl,hid.2.1,hid.1,rfl,rfl,rfl⟩
      obtain⟨p1,p2,p3,p4,p5,p6⟩:=p1;rw[<-ic];try refine ga ?_
      refine ei (n.cells lb hb sb vw) (n.cells lb hb sb (.slice none 0 0)) ?_;try refine ga ?_
      refine D.hp (H':=[l1,Yb b3 m,Fe b5 n.c.du n.c.st n.c.ak,Rp b6 m.fr,za b n lb hb sb (.slice none 0 0),hw,Fa hb n.rg v,hh,Ja sb n.dc n.rc,R]) rfl ?_;rw[<-e1];refine D.Vd [Fe b5 n.c.du n.c.st n.c.ak,za b n1 lb hb sb (.slice none 0 0),l1,Fa hb n.rg v,hh,Ja sb n.dc n.rc,R] (H2:=[[],Fe b5 n.c.du n.c.st n.c.ak,za b n1 lb hb sb (.slice none 0 0)++((l1)++([]++(Fa hb n.rg v++(hh++Ja sb n.dc n.rc)))),R]) (by simp) ?_;exact D.aQ (false,.slice none 0 0,[],_) ⟨rfl,ia.nil _,vf.of (hb:=hb) (sb:=sb) p1 p2 p3 p4 (by rw[p6];exact cg) (by rw[p5];exact ia.nil _) at_.hd⟩
     .rw[if_neg c2];obtain⟨n1,ic⟩:∃n1:ua,n1={n with s:=s1,ws:=n.ws}:=⟨_,rfl⟩;have e1:za b n lb hb sb vw=za b n1 lb hb sb vw:=by rw[ic];exact(n.ai hid ..).symm
      have p1:n1.hd=n.hd/\n1.rg=n.rg/\n1.dc=n.dc/\n1.rc=n.rc/\n1.ws=n.ws/\n1.s=s1:=by rw[ic];exact⟨rfl,hid.2.1,hid.1,rfl,rfl,rfl⟩
      obtain⟨p1,p2,p3,p4,p5,p6⟩:=p1;rw[<-ic,e1];try refine ga ?_
      refine D.Vd [Fe b5 n.c.du n.c.st n.c.ak,za b n1 lb hb sb vw,l1,hw,Fa hb n.rg v,hh,Ja sb n.dc n.rc,R] (H2:=[[],Fe b5 n.c.du n.c.st n.c.ak,za b n1 lb hb sb vw++((l1)++(hw++(Fa hb n.rg v++(hh++Ja sb n.dc n.rc)))),R]) (by simp) ?_;exact D.aQ (false,.slice none 0 0,[],_) ⟨rfl,ia.nil _,vf.of (hb:=hb) (sb:=sb) p1 p2 p3 p4 (by rw[p6];exact cg) (by rw[p5];exact at_.ws) at_.hd⟩
    .have hz:=ua.Ho (n:=n) (m:=m) (by omega) (by omega) (λh=>absurd h.1 (by omega)) (λh=>absurd h.1 (by omega)) (λh=>c h.2) (λh=>absurd h.1 (by omega)) (λh=>absurd h.1 (by omega)) (λh=>absurd h.1 (by omega));rw[rj c] at Jn;try refine ga ?_
     refine wq ?_;repeat' first|refine ga ?_|refine Pg m.fr.enc ?_|refine cq V1 ?_|refine WX.aq rfl rfl Jn rfl ?_
     refine D.Vd [Fe b5 n.c.du n.c.st n.c.ak,za b n lb hb sb vw,Pa n lb cb d w,ja cb n.c u,hv,X,hw,Fa hb n.rg v,hh,Ja sb n.dc n.rc,R] (H2:=[[],Fe b5 n.c.du n.c.st n.c.ak,Ti b n lb hb sb vw (Pa n lb cb d w++(ja cb n.c u++(hv++X))) hw v hh,R]) (by simp) ?_;exact D.aQ (false,.slice none 0 0,[],_) ⟨by rw[hz],by rw[hz];exact ia.nil _,by rw[hz];exact at_.is (hb:=hb) (sb:=sb)⟩
   by_cases Kx:m.kind=12
   .cases ew with
    |false=>
     have hz:=ua.Ho (n:=n) (m:=m) (by omega) (by omega) (λh=>absurd h.1 (by omega)) (λh=>absurd h.1 (by omega)) (λh=>absurd h.1 (by omega)) (λh=>by rw[bN] at h;cases h.2.1) (λh=>absurd h.1 (by omega)) (λh=>absurd h.1 (by omega));try refine ga ?_
     refine sj ?_;refine D.Vd [Fe b5 n.c.du n.c.st n.c.ak,za b n lb hb sb vw,Pa n lb cb d w,ja cb n.c u,hv,X,hw,Fa hb n.rg v,hh,Ja sb n.dc n.rc,R] (H2:=[[],Fe b5 n.c.du n.c.st n.c.ak,Ti b n lb hb sb vw (Pa n lb cb d w++(ja cb n.c u++(hv++X))) hw v hh,R]) (by simp) ?_
     exact D.aQ (false,.slice none 0 0,[],_) ⟨by rw[hz],by rw[hz];exact ia.nil _,by rw[hz];exact at_.is (hb:=hb) (sb:=sb)⟩
    |true=>
     have LK:=jk ok.xb.co cb u;by_cases c:n.c.head
     .have hz:=ua.NI (n:=n) Kx bN c;rw[Mi c] at LK;have W1:=Bu n N ok.togi (by omega) b lb hb sb vw hm0 at_.hd;have Qi:=ok.pull (by omega);obtain⟨r1,r2,r3,r4,r5,r6,r7,r8⟩:=n.Sd;rw[hz];generalize n.pull=m1 at W1 Qi r1 r2 r3 r4 r5 r6 r7 r8⊢;rw[ua.Sh];try refine ga ?_
      refine wq ?_;repeat' first|refine ga ?_|refine cq LK ?_
      refine ck W1 ?_;rintro _ _ ⟨rfl,l1,v1,h1,rfl,cg,Bo⟩;refine Za ?_;refine Wp (ml [7,2]) [Yb b3 m,Rp b6 m.fr,za b m1 lb hb sb vw] ?_;repeat' first|refine ga ?_|refine bn b3 27 m.enc m.en.enc ?_
      refine Up [m.en] (λv2 h2 Sa=>?_);try refine ga ?_
      have y7:=iW Bo Sa.rs hb m1.rg Qi.hl (by simp only[Ib,td];omega);refine ck y7 ?_;rintro _ _ ⟨k3,v3,h3,rfl,rfl,VO⟩;refine Za ?_;have VO:ia 49 (Vg m1.rg m1.hd m.en) v3 h3:=VO;have Io:=Qi.zd m.en;rw[ua.Sh] at Io;obtain⟨m2,hm2⟩:∃m2:ua,m2={m1 with hd:=Vg m1.rg m1.hd m.en}:=⟨_,rfl⟩;rw[<-hm2] at Io⊢;have e1:za b m1 lb hb sb vw=za b m2 lb hb sb vw:=by rw[hm2];rfl
      have e2:m1.rg=m2.rg:=by rw[hm2];rfl
      have e3:m1.dc=m2.dc/\m1.rc=m2.rc/\m1.ws=m2.ws/\m2.hd=Vg m1.rg m1.hd m.en:=by rw[hm2];exact⟨rfl,rfl,rfl,rfl⟩
      obtain⟨e3,e4,e5,e6⟩:=e3;rw[<-e6] at VO;have ny:Dg m2.s lb l1:=by rw[hm2];exact cg
      have Y1:=Bu m2 (N+16) Io.togi (by omega) b lb hb sb vw ny VO;obtain⟨s1,s2,s3,s4,s5,s6,s7,s8⟩:=m2.Sd;rw[<-r6,<-r5,e1,e2,e3,e4];generalize m2.pull=m3 at Y1 s1 s2 s3 s4 s5 s6 s7 s8⊢;refine ck Y1 ?_;rintro _ _ ⟨rfl,l3,v5,h5,rfl,dY,eY⟩;refine Za ?_;rw[<-s6,<-s5];refine D.Vd [Fe b5 n.c.du n.c.st n.c.ak,za b m3 lb hb sb vw,l3,hw,Fa hb m3.rg v5,h5,Ja sb m3.dc m3.rc,R] (H2:=[[],Fe b5 n.c.du n.c.st n.c.ak,za b m3 lb hb sb vw++(l3++(hw++(Fa hb m3.rg v5++(h5++Ja sb m3.dc m3.rc)))),R]) (by simp) ?_;exact D.aQ (false,.slice none 0 0,[],_) ⟨rfl,ia.nil _,Qs.is (n:=m3) (lb:=lb) (hb:=hb) (sb:=sb) ⟨dY,by rw[s4,<-e5,r4];exact at_.ws,eY⟩⟩
     .have hz:=ua.Ho (n:=n) (m:=m) (by omega) (by omega) (λh=>absurd h.1 (by omega)) (λh=>absurd h.1 (by omega)) (λh=>absurd h.1 (by omega)) (λh=>c h.2.2) (λh=>absurd h.1 (by omega)) (λh=>absurd h.1 (by omega));rw[rj c] at LK;try refine ga ?_
      refine wq ?_;repeat' first|refine ga ?_|refine cq LK ?_
      refine D.Vd [Fe b5 n.c.du n.c.st n.c.ak,za b n lb hb sb vw,Pa n lb cb d w,ja cb n.c u,hv,X,hw,Fa hb n.rg v,hh,Ja sb n.dc n.rc,R] (H2:=[[],Fe b5 n.c.du n.c.st n.c.ak,Ti b n lb hb sb vw (Pa n lb cb d w++(ja cb n.c u++(hv++X))) hw v hh,R]) (by simp) ?_;exact D.aQ (false,.slice none 0 0,[],_) ⟨by rw[hz],by rw[hz];exact ia.nil _,by rw[hz];exact at_.is (hb:=hb) (sb:=sb)⟩
   by_cases NR:m.kind=13
   .cases ew with
    |false=>
     have hz:=ua.Ho (n:=n) (m:=m) (by omega) (by omega) (λh=>absurd h.1 (by omega)) (λh=>absurd h.1 (by omega)) (λh=>absurd h.1 (by omega)) (λh=>absurd h.1 (by omega)) (λh=>by rw[bN] at h;cases h.2) (λh=>absurd h.1 (by omega));try refine ga ?_
     refine sj ?_;refine D.Vd [Fe b5 n.c.du n.c.st n.c.ak,za b n lb hb sb vw,Pa n lb cb d w,ja cb n.c u,hv,X,hw,Fa hb n.rg v,hh,Ja sb n.dc n.rc,R] (H2:=[[],Fe b5 n.c.du n.c.st n.c.ak,Ti b n lb hb sb vw (Pa n lb cb d w++(ja cb n.c u++(hv++X))) hw v hh,R]) (by simp) ?_
     exact D.aQ (false,.slice none 0 0,[],_) ⟨by rw[hz],by rw[hz];exact ia.nil _,by rw[hz];exact at_.is (hb:=hb) (sb:=sb)⟩
    |true=>
     have hz:=ua.dN (n:=n) NR bN;have hg:=ua.fN m hdc.1 hdc.2;obtain⟨k,hk⟩:∃k,V3.get ⟨m.c0,m.c1,m.c2⟩ n.dc=k:=⟨_,rfl⟩;rw[hk] at hz hg;have tV:=JP sb n.dc m.fr.dc k n.rc;have uV:=IJ n b lb hb sb cb d w vw u ok.xb;rw[hz];by_cases c:De n.dc m.fr.dc/\n.rc.get m.fr.dc<k
     .rw[if_pos c,Mi c] at tV;rw[if_pos c];obtain⟨n1,ic⟩:∃n1:ua,n1={n with rc:=n.rc.put m.fr.dc.toNat k}:=⟨_,rfl⟩;have e1:za b n lb hb sb vw=za b n1 lb hb sb vw:=by rw[ic];rfl
      have e2:Pa n lb cb d w=Pa n1 lb cb d w/\ja cb n.c u=ja cb n1.c u/\n.rg=n1.rg/\n.dc=n1.dc/\n.rc.put m.fr.dc.toNat k=n1.rc:=by rw[ic];exact⟨rfl,rfl,rfl,rfl,rfl⟩
      obtain⟨e2,e3,e4,e5,e6⟩:=e2;rw[<-ic];have B0:Qs n1 lb vw (Pa n1 lb cb d w++(ja cb n1.c u++(hv++X))) hw v hh:=by rw[ic];exact⟨at_.lg,at_.ws,at_.hd⟩
      have hsi:=cG n1 b lb hb sb cb d w vw u (by rw[ic];exact ok.nn) (by rw[ic];exact ok.xb) (by rw[ic];exact ok.cs) (show Rs n1.c.lg u hv by rw[ic];exact Ue.rs) m.fr.dc;try refine ga ?_
      refine sj ?_;refine Wp (ml [14]) [Yb b3 m,Rp b6 m.fr,za b n lb hb sb vw] ?_;repeat' first|refine ga ?_|refine lN m.enc _ rfl ?_ (hc:=hg)
      refine ck tV ?_;rintro _ _ ⟨rfl,rfl⟩;simp only[can]
      cases hs:n.sure with
      |false=>
       rw[hs] at uV;rw[if_neg (λh=>by cases h.2)];repeat' first|refine ga ?_|refine cq uV ?_
       rw[e1,e2,e3,e4,e5,e6];refine D.Vd [Fe b5 n.c.du n.c.st n.c.ak,za b n1 lb hb sb vw,Pa n1 lb cb d w,ja cb n1.c u,hv,X,hw,Fa hb n1.rg v,hh,Ja sb n1.dc n1.rc,R] (H2:=[[],Fe b5 n.c.du n.c.st n.c.ak,Ti b n1 lb hb sb vw (Pa n1 lb cb d w++(ja cb n1.c u++(hv++X))) hw v hh,R]) (by simp) ?_
       exact D.aQ (false,.slice none 0 0,[],_) ⟨rfl,ia.nil _,Qs.is (n:=n1) (lb:=lb) (hb:=hb) (sb:=sb) B0⟩
      |true=>
       rw[hs] at uV;rw[if_pos ⟨c,rfl⟩];repeat' first|refine ga ?_|refine cq uV ?_
       rw[e1,e2,e3,e4,e5,e6];refine ck hsi ?_;rintro r1 _ ⟨h1,hs1,rfl⟩;refine Za ?_;refine D.Vd [h1,Fe b5 n.c.du n.c.st n.c.ak,za b n1 lb hb sb vw,Pa n1 lb cb d w,ja cb n1.c u,hv,X,hw,Fa hb n1.rg v,hh,Ja sb n1.dc n1.rc,R] (H2:=[h1,Fe b5 n.c.du n.c.st n.c.ak,Ti b n1 lb hb sb vw (Pa n1 lb cb d w++(ja cb n1.c u++(hv++X))) hw v hh,R]) (by simp) ?_;exact D.aQ (false,r1,h1,_) ⟨rfl,hs1,Qs.is (n:=n1) (lb:=lb) (hb:=hb) (sb:=sb) B0⟩
     .rw[if_neg c,rj c] at tV;rw[if_neg c,if_neg (λh=>c h.1)];try refine ga ?_
      refine sj ?_;refine Wp (ml [14]) [Yb b3 m,Rp b6 m.fr,za b n lb hb sb vw] ?_;repeat' first|refine ga ?_|refine lN m.enc _ rfl ?_ (hc:=hg)|refine cq tV ?_
      refine D.Vd [Fe b5 n.c.du n.c.st n.c.ak,za b n lb hb sb vw,Pa n lb cb d w,ja cb n.c u,hv,X,hw,Fa hb n.rg v,hh,Ja sb n.dc n.rc,R] (H2:=[[],Fe b5 n.c.du n.c.st n.c.ak,Ti b n lb hb sb vw (Pa n lb cb d w++(ja cb n.c u++(hv++X))) hw v hh,R]) (by simp) ?_;exact D.aQ (false,.slice none 0 0,[],_) ⟨rfl,ia.nil _,at_.is (hb:=hb) (sb:=sb)⟩
   by_cases gN:m.kind=14
   .cases bs with
    |false=>
     have hz:=ua.Ho (n:=n) (m:=m) (by omega) (by omega) (λh=>absurd h.1 (by omega)) (λh=>absurd h.1 (by omega)) (λh=>absurd h.1 (by omega)) (λh=>absurd h.1 (by omega)) (λh=>absurd h.1 (by omega)) (λh=>by rw[MI] at h;cases h.2);try refine ga ?_
     refine sj ?_;refine D.Vd [Fe b5 n.c.du n.c.st n.c.ak,za b n lb hb sb vw,Pa n lb cb d w,ja cb n.c u,hv,X,hw,Fa hb n.rg v,hh,Ja sb n.dc n.rc,R] (H2:=[[],Fe b5 n.c.du n.c.st n.c.ak,Ti b n lb hb sb vw (Pa n lb cb d w++(ja cb n.c u++(hv++X))) hw v hh,R]) (by simp) ?_
     exact D.aQ (false,.slice none 0 0,[],_) ⟨by rw[hz],by rw[hz];exact ia.nil _,by rw[hz];exact at_.is (hb:=hb) (sb:=sb)⟩
    |true=>
     have hz:=ua.OI (n:=n) gN MI;have hne:m.fr.rg≠n.rg:=(of_decide_eq_true MI).2.2;have Z1:=PS n.kn m.fr.rg ⟨m.c0,m.c1,m.c2⟩;have Qi:=ok.wz hr hne ⟨m.c0,m.c1,m.c2⟩;rw[hz];generalize Gj n.kn m.fr.rg ⟨m.c0,m.c1,m.c2⟩=kn at Z1 Qi⊢;obtain⟨n1,ic⟩:∃n1:ua,n1={n with kn:=kn}:=⟨_,rfl⟩;rw[<-ic] at Qi⊢;have e1:setAt (n.cells lb hb sb vw) 10 kn.enc=n1.cells lb hb sb vw:=by rw[ic];rfl
     have cg:Dg n1.s lb (Pa n lb cb d w++(ja cb n.c u++(hv++X))):=by rw[ic];exact hm0
     have Bo:ia 49 n1.hd v hh:=by rw[ic];exact at_.hd
     have e3:n.rg=n1.rg/\n.dc=n1.dc/\n.rc=n1.rc/\n.ws=n1.ws:=by rw[ic];exact⟨rfl,rfl,rfl,rfl⟩
     obtain⟨e3,e4,e5,e6⟩:=e3;have kp:=Bu n1 N Qi.togi (by omega) b lb hb sb vw cg Bo;obtain⟨s1,s2,s3,s4,s5,s6,s7,s8⟩:=n1.Sd;generalize n1.pull=m3 at kp s1 s2 s3 s4 s5 s6 s7 s8⊢;try refine ga ?_
     refine sj ?_;refine Wp (ml [10,1]) [Yb b3 m,Rp b6 m.fr,za b n lb hb sb vw] ?_;repeat' first|refine ga ?_|refine bn b3 70 m.enc (V3.enc ⟨m.c0,m.c1,m.c2⟩) ?_|refine bn b 10 (n.cells lb hb sb vw) n.kn.enc ?_|refine cq Z1 ?_
     refine WX.qd (vs:=kn.enc) (b:=b) (i:=10) (cs:=n.cells lb hb sb vw) rfl rfl rfl rfl rfl rfl ?_;rw[e1];try refine ga ?_
     rw[e3,e4,e5];refine ck kp ?_;rintro _ _ ⟨rfl,l3,v5,h5,rfl,dY,eY⟩;refine Za ?_;rw[<-s6,<-s5];refine D.Vd [Fe b5 n.c.du n.c.st n.c.ak,za b m3 lb hb sb vw,l3,hw,Fa hb m3.rg v5,h5,Ja sb m3.dc m3.rc,R] (H2:=[[],Fe b5 n.c.du n.c.st n.c.ak,za b m3 lb hb sb vw++(l3++(hw++(Fa hb m3.rg v5++(h5++Ja sb m3.dc m3.rc)))),R]) (by simp) ?_;exact D.aQ (false,.slice none 0 0,[],_) ⟨rfl,ia.nil _,Qs.is (n:=m3) (lb:=lb) (hb:=hb) (sb:=sb) ⟨dY,by rw[s4,<-e6];exact at_.ws,eY⟩⟩
   have hz:=ua.Ho (n:=n) (m:=m) (by omega) (by omega) (λh=>absurd h.1 (by omega)) (λh=>absurd h.1 (by omega)) (λh=>absurd h.1 (by omega)) (λh=>absurd h.1 (by omega)) (λh=>absurd h.1 (by omega)) (λh=>absurd h.1 (by omega));try refine ga ?_
   refine sj ?_;refine D.Vd [Fe b5 n.c.du n.c.st n.c.ak,za b n lb hb sb vw,Pa n lb cb d w,ja cb n.c u,hv,X,hw,Fa hb n.rg v,hh,Ja sb n.dc n.rc,R] (H2:=[[],Fe b5 n.c.du n.c.st n.c.ak,Ti b n lb hb sb vw (Pa n lb cb d w++(ja cb n.c u++(hv++X))) hw v hh,R]) (by simp) ?_;exact D.aQ (false,.slice none 0 0,[],_) ⟨by rw[hz],by rw[hz];exact ia.nil _,by rw[hz];exact at_.is (hb:=hb) (sb:=sb)⟩
  rintro⟨he,v1,h1,hx⟩ ⟨e1,hs1,ic⟩;simp only[] at e1 hs1 ic⊢;have hml:=ua.uL ok.nn.2 m;obtain⟨⟨⟨n1,ms⟩,he'⟩,hz⟩:∃z,n.Ka m=z:=⟨_,rfl⟩;rw[hz] at e1 hs1 ic qL hml⊢;simp only[] at e1 hs1 ic qL hml⊢;subst e1;obtain⟨lb',hb',sb',iy,hl',Oi,v',zj,rfl,vL⟩:=ic;have xe:=vL.lg;obtain⟨ob,d',w',u',Rc,X',rfl,Hl⟩:=ua.Qv vL.lg;have o1:=qL.xb;have kt:=dG n1 b lb' hb' sb' ob d' w' o1 qL.cs qL.wl qL.wi vL.ws Hl.rs n.c.du n.c.st n.c.ak;have ka:=λvw=>fA n1.Qa b lb' hb' sb' ob d' w' vw u' o1;have htl:=ua.Oq qL.wl n.c.du n.c.st n.c.ak;have Ah:=n1.Qa.Jg;refine W.f0 [h1,Fe b5 n.c.du n.c.st n.c.ak,za b n1 lb' hb' sb' iy,Pa n1 lb' ob d' w',ja ob n1.c u',Rc,X',Oi,Fa hb' n1.rg v',zj,Ja sb' n1.dc n1.rc,R] ?_;repeat' first|refine ga ?_|refine Pg [n.c.du,n.c.st,n.c.ak] ?_
  refine ck kt ?_;rintro r9 _ ⟨h9,Qw,Qr,Bp,wL,rfl⟩;simp only[can];refine Jt hs1 Bp.rs (λv2 h2 Sa=>?_);have ny:(ms++n1.eg n.c.du n.c.st n.c.ak).length<=118:=by rw[Eb];omega
  rw[<-Sc];generalize ms++n1.eg n.c.du n.c.st n.c.ak=ms2 at Sa ny⊢;have ka:Ct prog 74 [b] [za b n1.Qa lb' hb' sb' Qw,Pa n1 lb' ob d' w',ja ob n1.c u'] (λr H'=>∃h',ia 52 n1.Qa.Af r h'/\H'=[h',za b n1.Qa lb' hb' sb' Qw,Pa n1 lb' ob d' w',ja ob n1.c u']):=ka Qw
  cases he with
  |false=>
   rw[if_neg (by decide)];try refine ga ?_
   refine WX.Pe ?_;refine Jt (zb:=by simp only[td];omega) Sa (show ia 52 ([]:List Da) (.slice none 0 0) [] from ia.nil _).rs (λv3 h3 Cc=>?_);try refine ga ?_
   refine D.Vd [h3,za b n1.Qa lb' hb' sb' Qw,Pa n1 lb' ob d' w',ja ob n1.c u',Rc,X',Qr,Fa hb' n1.rg v',zj,Ja sb' n1.dc n1.rc,R] (H2:=[h3,za b n1.Qa lb' hb' sb' Qw++((Pa n1 lb' ob d' w'++(ja ob n1.c u'++(Rc++X')))++(Qr++(Fa hb' n1.rg v'++(zj++Ja sb' n1.dc n1.rc)))),R]) (by simp) ?_
   exact Xa [h3,za b n1.Qa lb' hb' sb' Qw++((Pa n1 lb' ob d' w'++(ja ob n1.c u'++(Rc++X')))++(Qr++(Fa hb' n1.rg v'++(zj++Ja sb' n1.dc n1.rc))))] rfl rfl ⟨_,_,Cc,Qs.is (n:=n1.Qa) (lb:=lb') (hb:=hb') (sb:=sb') ⟨xe,wL,vL.hd⟩,rfl⟩
  |true=>
   rw[if_pos rfl];try refine ga ?_
   refine ck ka ?_;rintro _ _ ⟨h6,Nq,rfl⟩;refine Za ?_;refine Jt Sa Nq.rs (λv3 h3 Cc=>?_);try refine ga ?_
   refine D.Vd [h3,za b n1.Qa lb' hb' sb' Qw,Pa n1 lb' ob d' w',ja ob n1.c u',Rc,X',Qr,Fa hb' n1.rg v',zj,Ja sb' n1.dc n1.rc,R] (H2:=[h3,za b n1.Qa lb' hb' sb' Qw++((Pa n1 lb' ob d' w'++(ja ob n1.c u'++(Rc++X')))++(Qr++(Fa hb' n1.rg v'++(zj++Ja sb' n1.dc n1.rc)))),R]) (by simp) ?_;exact Xa [h3,za b n1.Qa lb' hb' sb' Qw++((Pa n1 lb' ob d' w'++(ja ob n1.c u'++(Rc++X')))++(Qr++(Fa hb' n1.rg v'++(zj++Ja sb' n1.dc n1.rc))))] rfl rfl ⟨_,_,Cc,Qs.is (n:=n1.Qa) (lb:=lb') (hb:=hb') (sb:=sb') ⟨xe,wL,vL.hd⟩,rfl⟩
end
end Go.Proofs.YthebagfahkebiaaGreat
