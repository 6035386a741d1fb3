/- Texts of one road. -/
import Derived.Test.YthebagfahkebiaaGreatQBE
set_option linter.all false
set_option maxHeartbeats 8000000
set_option maxRecDepth 20000
namespace Go.Proofs.YthebagfahkebiaaGreat
open Go Go.Sl Go.Proofs.Tryz List
def wR(a e:Bl):Db [.i,.i,.i,.i] a.enc e.enc=some (decide (a=e)):=by
 obtain⟨b,h1,h2⟩:=Qh (ks:=[.i,.i,.i,.i]) (xs:=a.enc) (ys:=e.enc) rfl rfl;rw[h1];congr 1;by_cases h:a=e
 .rw[Fi h];exact h2.2 (by rw[h])
 .rw[gj h]
  cases hb:b with
  |false=>rfl
  |true=>
   have:=h2.1 hb;unfold Bl.enc at this;simp only[List.cons.injEq,Value.int.injEq,true_and,and_true] at this;obtain⟨a1,a2,a3,a4⟩:=this;exact absurd (by cases a;cases e;simp only[] at a1 a2 a3 a4;rw[a1,a2,a3,a4]) h
def qg.of{n n1:va}{b lb hb sb:Nat}{vw:Value}{hl hw:Hp}{v:Value}{hh:Hp}(p1:n1.hd=n.hd)(p2:n1.rg=n.rg)(p3:n1.dc=n.dc)(p4:n1.rc=n.rc)(hm:og n1.s lb hl)(yq:ia 181 n1.ws vw hw)(hd:ia 49 n.hd v hh):
  qg n1 b (za b n1 lb hb sb vw++(hl++(hw++(La hb n.rg v++(hh++Ma sb n.dc n.rc))))):=by
 rw[<-p2,<-p3,<-p4];exact Bs.is ⟨hm,yq,by rw[p1];exact hd⟩
def va.RM(m:Da){x:Int}(h0:0<=x)(h3:x<3):m.enc[0+70+x.toNat*1]? =some (.int .i64 (V3.get ⟨m.c0,m.c1,m.c2⟩ x)):=by
 obtain rfl|rfl|rfl:x=0\/x=1\/x=2:=by omega
 all_goals rfl
section
variable{n:va}{b:Nat}{h:Hp}(hm:qg n b h){N:Int}(ok:ef n N)(hN:N+40<=1099511627776)(hr:0<=n.rg/\n.rg<3)(hdc:0<=n.dc/\n.dc<3)
include hm ok hN hr hdc
theorem Kk(m:Da):Ct prog 15 [b,.agg (List.toArray m.enc)] [h] (λr H'=>∃h1 h',ia 52 (n.handle m).2 r h1/\qg (n.handle m).1 b h'/\H'=[h1,h']):=by
 have bL:=ok.Qa hN hr m;obtain⟨lb,hb,sb,vw,hl,hw,v,hh,rfl,at_⟩:=hm;have hm0:=at_.lg;obtain⟨cb,d,w,u,hv,X,rfl,Mf,G7⟩:=va.T8 at_.lg;have Dn:=Ur n lb cb d w;have hst:=VF n b lb hb sb cb d w vw u;unfold va.handle
 cases hu:n.s.Xa with
 |false=>
  rw[if_pos rfl];rw[hu] at Dn;refine ce func15 λg R=>?_;simp only[can];refine W.f0 [za b n lb hb sb vw,xb n lb cb d w,oa cb n.c u,hv,X,hw,La hb n.rg v,hh,Ma sb n.dc n.rc,R] ?_;repeat' first|refine ga ?_|refine Ud λ_=>?_|refine cq Dn ?_
  exact Wa [[],yx b n lb hb sb vw (xb n lb cb d w++(oa cb n.c u++(hv++X))) hw v hh] rfl rfl ⟨_,_,ia.nil _,at_.is,rfl⟩
 |true=>
  rw[if_neg (by decide)];rw[hu] at Dn;refine ce func15 λg R=>?_;simp only[can];refine W.f0 [za b n lb hb sb vw,xb n lb cb d w,oa cb n.c u,hv,X,hw,La hb n.rg v,hh,Ma sb n.dc n.rc,R] ?_;repeat' first|refine ga ?_|refine Ud λ_=>?_|refine al λ_=>?_|refine cq Dn ?_|refine cq hst ?_|refine nh [.int .i64 0,.int .i64 0,.int .i64 0] [n.c.du,n.c.st,n.c.ak] ?_|refine nh Bl.z.enc m.fr.enc ?_|refine WX.Fa (i:=1) (cs:=m.enc) (vs:=m.fr.enc) rfl rfl rfl rfl ?_
  rename_i b3 b5 b6;obtain⟨ch,hch⟩:∃ch:Bool,n.ki m=ch:=⟨_,rfl⟩;obtain⟨ew,PM⟩:∃ew:Bool,n.ni m=ew:=⟨_,rfl⟩;obtain⟨bs,CI⟩:∃bs:Bool,n.wh m=bs:=⟨_,rfl⟩;refine W.gi (α:=Unit) (λ_=>True) (λ_=>[(0,b),(3,b3),(5,b5),(6,b6),(7,.bool (decide (m.fr.k=1))),(8,.bool ch)]) (λ_=>[Jc b3 m,De b5 n.c.du n.c.st n.c.ak,Fp b6 m.fr,za b n lb hb sb vw,xb n lb cb d w,oa cb n.c u,hv,X,hw,La hb n.rg v,hh,Ma sb n.dc n.rc,R]) ?_ ?_
  .by_cases k1:m.fr.k=1<;>by_cases k2:m.fr.dc=n.dc
   all_goals
    refine ij ?_;refine D.as 8 (.bool ch) rfl (by rw[<-hch];unfold va.ki;simp[k1,k2]) ?_;exact D.aQ () trivial
  rintro⟨⟩ -;try simp only[]
  refine W.seq ?_;refine W.gi (α:=Unit) (λ_=>True) (λ_=>[(0,b),(3,b3),(5,b5),(6,b6),(7,.bool (decide (m.fr.k=1))),(8,.bool ch),(9,.bool ew)]) (λ_=>[Jc b3 m,De b5 n.c.du n.c.st n.c.ak,Fp b6 m.fr,za b n lb hb sb vw,xb n lb cb d w,oa cb n.c u,hv,X,hw,La hb n.rg v,hh,Ma sb n.dc n.rc,R]) ?_ ?_
  .by_cases k1:m.fr.k=1<;>by_cases k2:m.fr.dc=n.dc
   all_goals
    refine ij ?_;refine D.as 9 (.bool ew) rfl (by rw[<-PM];unfold va.ni;simp[k1,k2]) ?_;exact D.aQ () trivial
  rintro⟨⟩ -;try simp only[]
  refine W.seq ?_;refine W.gi (α:=Unit) (λ_=>True) (λ_=>[(0,b),(3,b3),(5,b5),(6,b6),(8,.bool ch),(9,.bool ew),(10,.bool bs)]) (λ_=>[Jc b3 m,De b5 n.c.du n.c.st n.c.ak,Fp b6 m.fr,za b n lb hb sb vw,xb n lb cb d w,oa cb n.c u,hv,X,hw,La hb n.rg v,hh,Ma sb n.dc n.rc,R]) ?_ ?_
  .by_cases k1:m.fr.k=1<;>by_cases k2:m.fr.dc=n.dc
   all_goals
    refine ij ?_;refine D.as 10 (.bool bs) rfl (by rw[<-CI];unfold va.wh;simp[k1,k2]) ?_;exact D.aQ () trivial
  rintro⟨⟩ -;try simp only[]
  refine W.seq ?_;refine W.gi (α:=Unit) (λ_=>True) (λ_=>[(0,b),(3,b3),(5,b5),(6,b6),(8,.bool ch),(9,.bool ew),(10,.bool bs),(11,.slice none 0 0),(12,.slice none 0 0)]) (λ_=>[Jc b3 m,De b5 n.c.du n.c.st n.c.ak,Fp b6 m.fr,za b n lb hb sb vw,xb n lb cb d w,oa cb n.c u,hv,X,hw,La hb n.rg v,hh,Ma sb n.dc n.rc,R]) ?_ ?_
  .try refine ga ?_
   exact D.aQ () trivial
  rintro⟨⟩ -;try simp only[]
  refine W.seq ?_;refine W.gi (α:=Unit) (λ_=>True) (λ_=>[(0,b),(3,b3),(5,b5),(6,b6),(8,.bool ch),(9,.bool ew),(10,.bool bs),(11,.slice none 0 0),(12,.slice none 0 0),(13,.bool false)]) (λ_=>[Jc b3 m,De b5 n.c.du n.c.st n.c.ak,Fp b6 m.fr,za b n lb hb sb vw,xb n lb cb d w,oa cb n.c u,hv,X,hw,La hb n.rg v,hh,Ma sb n.dc n.rc,R]) ?_ ?_
  .try refine ga ?_
   exact D.aQ () trivial
  rintro⟨⟩ -;try simp only[]
  refine W.seq ?_;refine W.gi (α:=Bool×Value×Hp×Hp) (λy=>y.1=(n.Qa m).2/\ia 52 (n.Qa m).1.2 y.2.1 y.2.2.1/\qg (n.Qa m).1.1 b y.2.2.2) (λy=>[(0,b),(5,b5),(11,y.2.1),(12,.slice none 0 0),(13,.bool y.1)]) (λy=>[y.2.2.1,De b5 n.c.du n.c.st n.c.ak,y.2.2.2,R]) ?_ ?_
  .by_cases q3:m.kind=3
   .have hz:=va.kV (n:=n) q3;have kp:=dW n ok (by omega) b lb hb sb m hm0 at_.ws;obtain⟨p1,p2,p3,p4⟩:=va.St (n:=n) m;rw[hz];generalize n.put m=r at kp p1 p2 p3 p4⊢;obtain⟨n1,ms⟩:=r;simp only[] at kp p1 p2 p3 p4⊢;repeat' first|refine ga ?_|refine yj m.enc ?_
    refine ck kp ?_;rintro r1 _ ⟨h1,A2,hw1,l1,hs1,Pf,IE,rfl⟩;refine vb ?_;refine D.Oe [h1,De b5 n.c.du n.c.st n.c.ak,za b n1 lb hb sb A2,l1,hw1,La hb n.rg v,hh,Ma sb n.dc n.rc,R] (H2:=[h1,De b5 n.c.du n.c.st n.c.ak,za b n1 lb hb sb A2++(l1++(hw1++(La hb n.rg v++(hh++Ma sb n.dc n.rc)))),R]) (by simp) ?_;exact D.aQ (false,r1,h1,_) ⟨rfl,hs1,qg.of (hb:=hb) (sb:=sb) p1 p2 p3 p4 Pf IE at_.hd⟩
   by_cases q5:m.kind=5
   .have hz:=va.aY (n:=n) q5;have kg:=fW n b lb hb sb cb d w vw u ok.ob ok.cs Mf.rs m;repeat' first|refine ga ?_|refine yj m.enc ?_
    refine ck kg ?_;rintro r1 _ ⟨h1,hs1,rfl⟩;refine vb ?_;refine D.Oe [h1,De b5 n.c.du n.c.st n.c.ak,za b n lb hb sb vw,xb n lb cb d w,oa cb n.c u,hv,X,hw,La hb n.rg v,hh,Ma sb n.dc n.rc,R] (H2:=[h1,De b5 n.c.du n.c.st n.c.ak,yx b n lb hb sb vw (xb n lb cb d w++(oa cb n.c u++(hv++X))) hw v hh,R]) (by simp) ?_;exact D.aQ (false,r1,h1,_) ⟨by rw[hz],by rw[hz];exact hs1,by rw[hz];exact at_.is (hb:=hb) (sb:=sb)⟩
   by_cases q7:m.kind=7
   .cases ch with
    |false=>
     have hz:=va.Dp (n:=n) (m:=m) (by omega) (by omega) (λh=>by rw[hch] at h;cases h.2) (λh=>absurd h.1 (by omega)) (λh=>absurd h.1 (by omega)) (λh=>absurd h.1 (by omega)) (λh=>absurd h.1 (by omega)) (λh=>absurd h.1 (by omega));try refine ga ?_
     refine ij ?_;refine D.Oe [De b5 n.c.du n.c.st n.c.ak,za b n lb hb sb vw,xb n lb cb d w,oa cb n.c u,hv,X,hw,La hb n.rg v,hh,Ma sb n.dc n.rc,R] (H2:=[[],De b5 n.c.du n.c.st n.c.ak,yx b n lb hb sb vw (xb n lb cb d w++(oa cb n.c u++(hv++X))) hw v hh,R]) (by simp) ?_
     exact D.aQ (false,.slice none 0 0,[],_) ⟨by rw[hz],by rw[hz];exact ia.nil _,by rw[hz];exact at_.is (hb:=hb) (sb:=sb)⟩
    |true=>
     have hz:=va.lV (n:=n) q7 hch;have k1:=Si n.c cb u;have k2:=jk n.c cb u;have k3:=xy ok.ob.co n.nd;by_cases c:m.ep=n.ep/\0<=m.fr.nd/\m.fr.nd=Ed n.c.co n.nd
     .obtain⟨c1,c2,c3⟩:=c;rw[if_pos ⟨c1,c2,c3⟩] at hz;have kt:=TO ok.ok hm0 m.fr.nd m.ep m.ix m.en;obtain⟨n1,yc⟩:∃n1:va,n1={n with s:=(n.s.take m.fr.nd m.ep m.ix m.en).2}:=⟨_,rfl⟩;have hid:=Ea.Am n.s m.fr.nd m.ep m.ix m.en;have e1:za b n lb hb sb vw=za b n1 lb hb sb vw:=by rw[yc];exact(n.Mg hid ..).symm
      have p1:n1.hd=n.hd/\n1.rg=n.rg/\n1.dc=n.dc/\n1.rc=n.rc/\n1.ws=n.ws/\n1.s=(n.s.take m.fr.nd m.ep m.ix m.en).2:=by rw[yc];exact⟨rfl,hid.2.1,hid.1,rfl,rfl,rfl⟩
      obtain⟨p1,p2,p3,p4,p5,p6⟩:=p1;rw[<-yc] at hz;rw[hz];rw[<-p6] at kt;obtain⟨a1,dX⟩:∃a,Ed n.c.co n.nd=a:=⟨_,rfl⟩;rw[dX] at k3 c3;try refine ga ?_
      refine wq ?_;repeat' first|refine ga ?_|refine cq k1 ?_|refine cq k2 ?_|refine cq k3 ?_
      refine Ns (ml [12]) [Jc b3 m,Fp b6 m.fr,za b n lb hb sb vw] ?_;repeat' first|refine ga ?_|refine Xm b3 27 m.enc m.en.enc ?_
      refine ck kt ?_;rintro _ _ ⟨rfl,l1,rfl,Pf⟩;have Ji:=Pf;obtain⟨Ya,d',w',u',Lc,X',rfl,Nj⟩:=va.FF Pf;have k4:=SF n1 b lb hb sb Ya d' w' vw u' m.fr;rw[e1];refine WX.f0 [xb n1 lb Ya d' w',oa Ya n1.c u',Lc,X',Jc b3 m,De b5 n.c.du n.c.st n.c.ak,Fp b6 m.fr,za b n1 lb hb sb vw,hw,La hb n.rg v,hh,Ma sb n.dc n.rc,R] ?_;repeat' first|refine ga ?_|refine yj m.fr.enc ?_|refine cq k4 ?_
      refine Kp [n1.Zy m.fr] (λv2 h2 Oa=>?_);refine WX.Ke ?_;refine Ys (zb:=by simp only[Gb,jd];omega) (show ia 52 ([]:List Da) (.slice none 0 0) [] from ia.nil _) Oa.rs (λv3 h3 Fc=>?_);rw[nil_append] at Fc;try refine ga ?_
      refine D.Oe [h3,De b5 n.c.du n.c.st n.c.ak,za b n1 lb hb sb vw,xb n1 lb Ya d' w',oa Ya n1.c u',Lc,X',hw,La hb n.rg v,hh,Ma sb n.dc n.rc,R] (H2:=[h3,De b5 n.c.du n.c.st n.c.ak,za b n1 lb hb sb vw++((xb n1 lb Ya d' w'++(oa Ya n1.c u'++(Lc++X')))++(hw++(La hb n.rg v++(hh++Ma sb n.dc n.rc)))),R]) (by simp) ?_;exact D.aQ (false,v3,h3,_) ⟨rfl,Fc,qg.of (hb:=hb) (sb:=sb) p1 p2 p3 p4 Ji (by rw[p5];exact at_.ws) at_.hd⟩
     .rw[if_neg c] at hz;by_cases c1:m.ep=n.ep<;>by_cases c2:0<=m.fr.nd<;>by_cases c3:m.fr.nd=Ed n.c.co n.nd
      .exact absurd ⟨c1,c2,c3⟩ c
      all_goals
       try refine ga ?_
       refine wq ?_;repeat' first|refine ga ?_|refine cq k1 ?_|refine cq k2 ?_|refine cq k3 ?_
       refine D.Oe [De b5 n.c.du n.c.st n.c.ak,za b n lb hb sb vw,xb n lb cb d w,oa cb n.c u,hv,X,hw,La hb n.rg v,hh,Ma sb n.dc n.rc,R] (H2:=[[],De b5 n.c.du n.c.st n.c.ak,yx b n lb hb sb vw (xb n lb cb d w++(oa cb n.c u++(hv++X))) hw v hh,R]) (by simp) ?_;exact D.aQ (false,.slice none 0 0,[],_) ⟨by rw[hz],by rw[hz];exact ia.nil _,by rw[hz];exact at_.is (hb:=hb) (sb:=sb)⟩
   by_cases q8:m.kind=8
   .cases ch with
    |false=>
     have hz:=va.Dp (n:=n) (m:=m) (by omega) (by omega) (λh=>absurd h.1 (by omega)) (λh=>by rw[hch] at h;cases h.2) (λh=>absurd h.1 (by omega)) (λh=>absurd h.1 (by omega)) (λh=>absurd h.1 (by omega)) (λh=>absurd h.1 (by omega));try refine ga ?_
     refine ij ?_;refine D.Oe [De b5 n.c.du n.c.st n.c.ak,za b n lb hb sb vw,xb n lb cb d w,oa cb n.c u,hv,X,hw,La hb n.rg v,hh,Ma sb n.dc n.rc,R] (H2:=[[],De b5 n.c.du n.c.st n.c.ak,yx b n lb hb sb vw (xb n lb cb d w++(oa cb n.c u++(hv++X))) hw v hh,R]) (by simp) ?_
     exact D.aQ (false,.slice none 0 0,[],_) ⟨by rw[hz],by rw[hz];exact ia.nil _,by rw[hz];exact at_.is (hb:=hb) (sb:=sb)⟩
    |true=>
     have hz:=va.mV (n:=n) q8 hch;rw[Ea.vR] at hz;have hx:=G7 m.fr.nd m.ep m.ct m.ix;have kh:=dO ok.ob cb u m.fr.nd m.ep m.ct m.ix;obtain⟨n1,yc⟩:∃n1:va,n1={n with s:=(n.s.heard m.fr.nd m.ep m.ct m.ix).2}:=⟨_,rfl⟩;have hid:=Ea.Ck n.s m.fr.nd m.ep m.ct m.ix;have e1:za b n lb hb sb vw=za b n1 lb hb sb vw:=by rw[yc];exact(n.Mg hid ..).symm
     have p1:n1.hd=n.hd/\n1.rg=n.rg/\n1.dc=n.dc/\n1.rc=n.rc/\n1.ws=n.ws/\n1.s=(n.s.heard m.fr.nd m.ep m.ct m.ix).2:=by rw[yc];exact⟨rfl,hid.2.1,hid.1,rfl,rfl,rfl⟩
     obtain⟨p1,p2,p3,p4,p5,p6⟩:=p1;rw[<-yc] at hz;rw[<-p6] at hx;rw[hz];try refine ga ?_
     refine Ns (ml [15]) [Jc b3 m,Fp b6 m.fr,za b n lb hb sb vw,xb n lb cb d w] ?_;try refine ga ?_
     refine ck kh ?_;rintro _ _ ⟨rfl,rfl⟩;simp only[can];show WX _ _ _ _ _ _ _ ((_,.bool (n.s.ch.heard m.fr.nd m.ep m.ct m.ix).1)::_) _;have hx2:n.c.heard m.fr.nd m.ep m.ct m.ix=n.s.ch.heard m.fr.nd m.ep m.ct m.ix:=rfl;rw[hx2] at hx⊢;generalize n.s.ch.heard m.fr.nd m.ep m.ct m.ix=c2 at hx⊢;rw[e1];try refine ga ?_
     refine D.Oe [De b5 n.c.du n.c.st n.c.ak,za b n1 lb hb sb vw,xb n lb cb d w,oa cb c2.2 u,hv,X,hw,La hb n.rg v,hh,Ma sb n.dc n.rc,R] (H2:=[[],De b5 n.c.du n.c.st n.c.ak,za b n1 lb hb sb vw++((xb n lb cb d w++(oa cb c2.2 u++(hv++X)))++(hw++(La hb n.rg v++(hh++Ma sb n.dc n.rc)))),R]) (by simp) ?_;exact D.aQ (c2.1,.slice none 0 0,[],_) ⟨rfl,ia.nil _,qg.of (hb:=hb) (sb:=sb) p1 p2 p3 p4 hx (by rw[p5];exact at_.ws) at_.hd⟩
   by_cases q9:m.kind=9
   .have D2:=As n b lb hb sb vw;have qx:=wR m.fr n.Cc;by_cases c:m.fr=n.Cc
    .have hz:=va.nV (n:=n) q9 c;rw[Fi c] at qx;have A6:=xz ok.ok hm0 m.cf;have hid:=Ea.xh n.s m.cf;rw[hz];try refine ga ?_
     refine wq ?_;repeat' first|refine ga ?_|refine yj m.fr.enc ?_|refine cq D2 ?_|refine WX.Vu rfl rfl qx rfl ?_
     refine Ns (ml [6,1,5]) [Jc b3 m,Fp b6 m.fr,za b n lb hb sb vw] ?_;repeat' first|refine ga ?_|refine Xm b3 14 m.enc m.cf.enc ?_
     refine ck A6 ?_;rintro _ _ ⟨rfl,l1,rfl,Pf⟩;simp only[can];generalize n.s.enter m.cf=r at hid Pf⊢;obtain⟨⟨rs,er⟩,s1⟩:=r;simp only[] at hid Pf⊢;by_cases c2:er=0
     .rw[if_pos c2];obtain⟨n1,yc⟩:∃n1:va,n1={n with s:=s1,ws:=[]}:=⟨_,rfl⟩;have e1:za b n1 lb hb sb (.slice none 0 0)=za b n lb hb sb (.slice none 0 0):=by rw[yc];exact n.Mg hid ..
      have p1:n1.hd=n.hd/\n1.rg=n.rg/\n1.dc=n.dc/\n1.rc=n.rc/\n1.ws=[]/\n1.s=s1:=by rw[yc];exact⟨rfl,hid.2.1,hid.1,rfl,rfl,rfl⟩
      obtain⟨p1,p2,p3,p4,p5,p6⟩:=p1;rw[<-yc];try refine ga ?_
      refine Wh (n.cells lb hb sb vw) (n.cells lb hb sb (.slice none 0 0)) ?_;try refine ga ?_
      refine D.hp (H':=[l1,Jc b3 m,De b5 n.c.du n.c.st n.c.ak,Fp b6 m.fr,za b n lb hb sb (.slice none 0 0),hw,La hb n.rg v,hh,Ma sb n.dc n.rc,R]) rfl ?_;rw[<-e1];refine D.Oe [De b5 n.c.du n.c.st n.c.ak,za b n1 lb hb sb (.slice none 0 0),l1,La hb n.rg v,hh,Ma sb n.dc n.rc,R] (H2:=[[],De b5 n.c.du n.c.st n.c.ak,za b n1 lb hb sb (.slice none 0 0)++((l1)++([]++(La hb n.rg v++(hh++Ma sb n.dc n.rc)))),R]) (by simp) ?_;exact D.aQ (false,.slice none 0 0,[],_) ⟨rfl,ia.nil _,qg.of (hb:=hb) (sb:=sb) p1 p2 p3 p4 (by rw[p6];exact Pf) (by rw[p5];exact ia.nil _) at_.hd⟩
     .rw[if_neg c2];obtain⟨n1,yc⟩:∃n1:va,n1={n with s:=s1,ws:=n.ws}:=⟨_,rfl⟩;have e1:za b n lb hb sb vw=za b n1 lb hb sb vw:=by rw[yc];exact(n.Mg hid ..).symm
      have p1:n1.hd=n.hd/\n1.rg=n.rg/\n1.dc=n.dc/\n1.rc=n.rc/\n1.ws=n.ws/\n1.s=s1:=by rw[yc];exact⟨rfl,hid.2.1,hid.1,rfl,rfl,rfl⟩
      obtain⟨p1,p2,p3,p4,p5,p6⟩:=p1;rw[<-yc,e1];try refine ga ?_
      refine D.Oe [De b5 n.c.du n.c.st n.c.ak,za b n1 lb hb sb vw,l1,hw,La hb n.rg v,hh,Ma sb n.dc n.rc,R] (H2:=[[],De b5 n.c.du n.c.st n.c.ak,za b n1 lb hb sb vw++((l1)++(hw++(La hb n.rg v++(hh++Ma sb n.dc n.rc)))),R]) (by simp) ?_;exact D.aQ (false,.slice none 0 0,[],_) ⟨rfl,ia.nil _,qg.of (hb:=hb) (sb:=sb) p1 p2 p3 p4 (by rw[p6];exact Pf) (by rw[p5];exact at_.ws) at_.hd⟩
    .have hz:=va.Dp (n:=n) (m:=m) (by omega) (by omega) (λh=>absurd h.1 (by omega)) (λh=>absurd h.1 (by omega)) (λh=>c h.2) (λh=>absurd h.1 (by omega)) (λh=>absurd h.1 (by omega)) (λh=>absurd h.1 (by omega));rw[gj c] at qx;try refine ga ?_
     refine wq ?_;repeat' first|refine ga ?_|refine yj m.fr.enc ?_|refine cq D2 ?_|refine WX.Vu rfl rfl qx rfl ?_
     refine D.Oe [De b5 n.c.du n.c.st n.c.ak,za b n lb hb sb vw,xb n lb cb d w,oa cb n.c u,hv,X,hw,La hb n.rg v,hh,Ma sb n.dc n.rc,R] (H2:=[[],De b5 n.c.du n.c.st n.c.ak,yx b n lb hb sb vw (xb n lb cb d w++(oa cb n.c u++(hv++X))) hw v hh,R]) (by simp) ?_;exact D.aQ (false,.slice none 0 0,[],_) ⟨by rw[hz],by rw[hz];exact ia.nil _,by rw[hz];exact at_.is (hb:=hb) (sb:=sb)⟩
   by_cases sQ:m.kind=12
   .cases ew with
    |false=>
     have hz:=va.Dp (n:=n) (m:=m) (by omega) (by omega) (λh=>absurd h.1 (by omega)) (λh=>absurd h.1 (by omega)) (λh=>absurd h.1 (by omega)) (λh=>by rw[PM] at h;cases h.2.1) (λh=>absurd h.1 (by omega)) (λh=>absurd h.1 (by omega));try refine ga ?_
     refine ij ?_;refine D.Oe [De b5 n.c.du n.c.st n.c.ak,za b n lb hb sb vw,xb n lb cb d w,oa cb n.c u,hv,X,hw,La hb n.rg v,hh,Ma sb n.dc n.rc,R] (H2:=[[],De b5 n.c.du n.c.st n.c.ak,yx b n lb hb sb vw (xb n lb cb d w++(oa cb n.c u++(hv++X))) hw v hh,R]) (by simp) ?_
     exact D.aQ (false,.slice none 0 0,[],_) ⟨by rw[hz],by rw[hz];exact ia.nil _,by rw[hz];exact at_.is (hb:=hb) (sb:=sb)⟩
    |true=>
     have oV:=bn ok.ob.co cb u;by_cases c:n.c.head
     .have hz:=va.QM (n:=n) sQ PM c;rw[Fi c] at oV;have E2:=ku n N ok.toVh (by omega) b lb hb sb vw hm0 at_.hd;have Bh:=ok.pull (by omega);obtain⟨r1,r2,r3,r4,r5,r6,r7,r8⟩:=n.Dd;rw[hz];generalize n.pull=m1 at E2 Bh r1 r2 r3 r4 r5 r6 r7 r8⊢;rw[va.Ih];try refine ga ?_
      refine wq ?_;repeat' first|refine ga ?_|refine cq oV ?_
      refine ck E2 ?_;rintro _ _ ⟨rfl,l1,v1,h1,rfl,Pf,Bn⟩;refine vb ?_;refine Ns (ml [7,2]) [Jc b3 m,Fp b6 m.fr,za b m1 lb hb sb vw] ?_;repeat' first|refine ga ?_|refine Xm b3 27 m.enc m.en.enc ?_
      refine Kp [m.en] (λv2 h2 Oa=>?_);try refine ga ?_
      have H7:=aW Bn Oa.rs hb m1.rg Bh.hl (by simp only[Gb,jd];omega);refine ck H7 ?_;rintro _ _ ⟨k3,v3,h3,rfl,rfl,cL⟩;refine vb ?_;have cL:ia 49 (Lg m1.rg m1.hd m.en) v3 h3:=cL;have Oj:=Bh.yd m.en;rw[va.Ih] at Oj;obtain⟨m2,hm2⟩:∃m2:va,m2={m1 with hd:=Lg m1.rg m1.hd m.en}:=⟨_,rfl⟩;rw[<-hm2] at Oj⊢;have e1:za b m1 lb hb sb vw=za b m2 lb hb sb vw:=by rw[hm2];rfl
      have e2:m1.rg=m2.rg:=by rw[hm2];rfl
      have e3:m1.dc=m2.dc/\m1.rc=m2.rc/\m1.ws=m2.ws/\m2.hd=Lg m1.rg m1.hd m.en:=by rw[hm2];exact⟨rfl,rfl,rfl,rfl⟩
      obtain⟨e3,e4,e5,e6⟩:=e3;rw[<-e6] at cL;have Vy:og m2.s lb l1:=by rw[hm2];exact Pf
      have F2:=ku m2 (N+16) Oj.toVh (by omega) b lb hb sb vw Vy cL;obtain⟨s1,s2,s3,s4,s5,s6,s7,s8⟩:=m2.Dd;rw[<-r6,<-r5,e1,e2,e3,e4];generalize m2.pull=m3 at F2 s1 s2 s3 s4 s5 s6 s7 s8⊢;refine ck F2 ?_;rintro _ _ ⟨rfl,l3,v5,h5,rfl,yR,bY⟩;refine vb ?_;rw[<-s6,<-s5];refine D.Oe [De b5 n.c.du n.c.st n.c.ak,za b m3 lb hb sb vw,l3,hw,La hb m3.rg v5,h5,Ma sb m3.dc m3.rc,R] (H2:=[[],De b5 n.c.du n.c.st n.c.ak,za b m3 lb hb sb vw++(l3++(hw++(La hb m3.rg v5++(h5++Ma sb m3.dc m3.rc)))),R]) (by simp) ?_;exact D.aQ (false,.slice none 0 0,[],_) ⟨rfl,ia.nil _,Bs.is (n:=m3) (lb:=lb) (hb:=hb) (sb:=sb) ⟨yR,by rw[s4,<-e5,r4];exact at_.ws,bY⟩⟩
     .have hz:=va.Dp (n:=n) (m:=m) (by omega) (by omega) (λh=>absurd h.1 (by omega)) (λh=>absurd h.1 (by omega)) (λh=>absurd h.1 (by omega)) (λh=>c h.2.2) (λh=>absurd h.1 (by omega)) (λh=>absurd h.1 (by omega));rw[gj c] at oV;try refine ga ?_
      refine wq ?_;repeat' first|refine ga ?_|refine cq oV ?_
      refine D.Oe [De b5 n.c.du n.c.st n.c.ak,za b n lb hb sb vw,xb n lb cb d w,oa cb n.c u,hv,X,hw,La hb n.rg v,hh,Ma sb n.dc n.rc,R] (H2:=[[],De b5 n.c.du n.c.st n.c.ak,yx b n lb hb sb vw (xb n lb cb d w++(oa cb n.c u++(hv++X))) hw v hh,R]) (by simp) ?_;exact D.aQ (false,.slice none 0 0,[],_) ⟨by rw[hz],by rw[hz];exact ia.nil _,by rw[hz];exact at_.is (hb:=hb) (sb:=sb)⟩
   by_cases cY:m.kind=13
   .cases ew with
    |false=>
     have hz:=va.Dp (n:=n) (m:=m) (by omega) (by omega) (λh=>absurd h.1 (by omega)) (λh=>absurd h.1 (by omega)) (λh=>absurd h.1 (by omega)) (λh=>absurd h.1 (by omega)) (λh=>by rw[PM] at h;cases h.2) (λh=>absurd h.1 (by omega));try refine ga ?_
     refine ij ?_;refine D.Oe [De b5 n.c.du n.c.st n.c.ak,za b n lb hb sb vw,xb n lb cb d w,oa cb n.c u,hv,X,hw,La hb n.rg v,hh,Ma sb n.dc n.rc,R] (H2:=[[],De b5 n.c.du n.c.st n.c.ak,yx b n lb hb sb vw (xb n lb cb d w++(oa cb n.c u++(hv++X))) hw v hh,R]) (by simp) ?_
     exact D.aQ (false,.slice none 0 0,[],_) ⟨by rw[hz],by rw[hz];exact ia.nil _,by rw[hz];exact at_.is (hb:=hb) (sb:=sb)⟩
    |true=>
     have hz:=va.zR (n:=n) cY PM;have hg:=va.RM m hdc.1 hdc.2;obtain⟨k,hk⟩:∃k,V3.get ⟨m.c0,m.c1,m.c2⟩ n.dc=k:=⟨_,rfl⟩;rw[hk] at hz hg;have pV:=vP sb n.dc m.fr.dc k n.rc;have qV:=rJ n b lb hb sb cb d w vw u ok.ob;rw[hz];by_cases c:Xd n.dc m.fr.dc/\n.rc.get m.fr.dc<k
     .rw[if_pos c,Fi c] at pV;rw[if_pos c];obtain⟨n1,yc⟩:∃n1:va,n1={n with rc:=n.rc.put m.fr.dc.toNat k}:=⟨_,rfl⟩;have e1:za b n lb hb sb vw=za b n1 lb hb sb vw:=by rw[yc];rfl
      have e2:xb n lb cb d w=xb n1 lb cb d w/\oa cb n.c u=oa cb n1.c u/\n.rg=n1.rg/\n.dc=n1.dc/\n.rc.put m.fr.dc.toNat k=n1.rc:=by rw[yc];exact⟨rfl,rfl,rfl,rfl,rfl⟩
      obtain⟨e2,e3,e4,e5,e6⟩:=e2;rw[<-yc];have A0:Bs n1 lb vw (xb n1 lb cb d w++(oa cb n1.c u++(hv++X))) hw v hh:=by rw[yc];exact⟨at_.lg,at_.ws,at_.hd⟩
      have hsi:=YF n1 b lb hb sb cb d w vw u (by rw[yc];exact ok.nn) (by rw[yc];exact ok.ob) (by rw[yc];exact ok.cs) (show Rs n1.c.lg u hv by rw[yc];exact Mf.rs) m.fr.dc;try refine ga ?_
      refine ij ?_;refine Ns (ml [14]) [Jc b3 m,Fp b6 m.fr,za b n lb hb sb vw] ?_;repeat' first|refine ga ?_|refine lN m.enc _ rfl ?_ (hc:=hg)
      refine ck pV ?_;rintro _ _ ⟨rfl,rfl⟩;simp only[can]
      cases hs:n.sure with
      |false=>
       rw[hs] at qV;rw[if_neg (λh=>by cases h.2)];repeat' first|refine ga ?_|refine cq qV ?_
       rw[e1,e2,e3,e4,e5,e6];refine D.Oe [De b5 n.c.du n.c.st n.c.ak,za b n1 lb hb sb vw,xb n1 lb cb d w,oa cb n1.c u,hv,X,hw,La hb n1.rg v,hh,Ma sb n1.dc n1.rc,R] (H2:=[[],De b5 n.c.du n.c.st n.c.ak,yx b n1 lb hb sb vw (xb n1 lb cb d w++(oa cb n1.c u++(hv++X))) hw v hh,R]) (by simp) ?_
       exact D.aQ (false,.slice none 0 0,[],_) ⟨rfl,ia.nil _,Bs.is (n:=n1) (lb:=lb) (hb:=hb) (sb:=sb) A0⟩
      |true=>
       rw[hs] at qV;rw[if_pos ⟨c,rfl⟩];repeat' first|refine ga ?_|refine cq qV ?_
       rw[e1,e2,e3,e4,e5,e6];refine ck hsi ?_;rintro r1 _ ⟨h1,hs1,rfl⟩;refine vb ?_;refine D.Oe [h1,De b5 n.c.du n.c.st n.c.ak,za b n1 lb hb sb vw,xb n1 lb cb d w,oa cb n1.c u,hv,X,hw,La hb n1.rg v,hh,Ma sb n1.dc n1.rc,R] (H2:=[h1,De b5 n.c.du n.c.st n.c.ak,yx b n1 lb hb sb vw (xb n1 lb cb d w++(oa cb n1.c u++(hv++X))) hw v hh,R]) (by simp) ?_;exact D.aQ (false,r1,h1,_) ⟨rfl,hs1,Bs.is (n:=n1) (lb:=lb) (hb:=hb) (sb:=sb) A0⟩
     .rw[if_neg c,gj c] at pV;rw[if_neg c,if_neg (λh=>c h.1)];try refine ga ?_
      refine ij ?_;refine Ns (ml [14]) [Jc b3 m,Fp b6 m.fr,za b n lb hb sb vw] ?_;repeat' first|refine ga ?_|refine lN m.enc _ rfl ?_ (hc:=hg)|refine cq pV ?_
      refine D.Oe [De b5 n.c.du n.c.st n.c.ak,za b n lb hb sb vw,xb n lb cb d w,oa cb n.c u,hv,X,hw,La hb n.rg v,hh,Ma sb n.dc n.rc,R] (H2:=[[],De b5 n.c.du n.c.st n.c.ak,yx b n lb hb sb vw (xb n lb cb d w++(oa cb n.c u++(hv++X))) hw v hh,R]) (by simp) ?_;exact D.aQ (false,.slice none 0 0,[],_) ⟨rfl,ia.nil _,at_.is (hb:=hb) (sb:=sb)⟩
   by_cases CU:m.kind=14
   .cases bs with
    |false=>
     have hz:=va.Dp (n:=n) (m:=m) (by omega) (by omega) (λh=>absurd h.1 (by omega)) (λh=>absurd h.1 (by omega)) (λh=>absurd h.1 (by omega)) (λh=>absurd h.1 (by omega)) (λh=>absurd h.1 (by omega)) (λh=>by rw[CI] at h;cases h.2);try refine ga ?_
     refine ij ?_;refine D.Oe [De b5 n.c.du n.c.st n.c.ak,za b n lb hb sb vw,xb n lb cb d w,oa cb n.c u,hv,X,hw,La hb n.rg v,hh,Ma sb n.dc n.rc,R] (H2:=[[],De b5 n.c.du n.c.st n.c.ak,yx b n lb hb sb vw (xb n lb cb d w++(oa cb n.c u++(hv++X))) hw v hh,R]) (by simp) ?_
     exact D.aQ (false,.slice none 0 0,[],_) ⟨by rw[hz],by rw[hz];exact ia.nil _,by rw[hz];exact at_.is (hb:=hb) (sb:=sb)⟩
    |true=>
     have hz:=va.SM (n:=n) CU CI;have hne:m.fr.rg≠n.rg:=(of_decide_eq_true CI).2.2;have G2:=IS n.kn m.fr.rg ⟨m.c0,m.c1,m.c2⟩;have Bh:=ok.bz hr hne ⟨m.c0,m.c1,m.c2⟩;rw[hz];generalize Ej n.kn m.fr.rg ⟨m.c0,m.c1,m.c2⟩=kn at G2 Bh⊢;obtain⟨n1,yc⟩:∃n1:va,n1={n with kn:=kn}:=⟨_,rfl⟩;rw[<-yc] at Bh⊢;have e1:setAt (n.cells lb hb sb vw) 10 kn.enc=n1.cells lb hb sb vw:=by rw[yc];rfl
     have Pf:og n1.s lb (xb n lb cb d w++(oa cb n.c u++(hv++X))):=by rw[yc];exact hm0
     have Bn:ia 49 n1.hd v hh:=by rw[yc];exact at_.hd
     have e3:n.rg=n1.rg/\n.dc=n1.dc/\n.rc=n1.rc/\n.ws=n1.ws:=by rw[yc];exact⟨rfl,rfl,rfl,rfl⟩
     obtain⟨e3,e4,e5,e6⟩:=e3;have kp:=ku n1 N Bh.toVh (by omega) b lb hb sb vw Pf Bn;obtain⟨s1,s2,s3,s4,s5,s6,s7,s8⟩:=n1.Dd;generalize n1.pull=m3 at kp s1 s2 s3 s4 s5 s6 s7 s8⊢;try refine ga ?_
     refine ij ?_;refine Ns (ml [10,1]) [Jc b3 m,Fp b6 m.fr,za b n lb hb sb vw] ?_;repeat' first|refine ga ?_|refine Xm b3 70 m.enc (V3.enc ⟨m.c0,m.c1,m.c2⟩) ?_|refine Xm b 10 (n.cells lb hb sb vw) n.kn.enc ?_|refine cq G2 ?_
     refine WX.Yc (vs:=kn.enc) (b:=b) (i:=10) (cs:=n.cells lb hb sb vw) rfl rfl rfl rfl rfl rfl ?_;rw[e1];try refine ga ?_
     rw[e3,e4,e5];refine ck kp ?_;rintro _ _ ⟨rfl,l3,v5,h5,rfl,yR,bY⟩;refine vb ?_;rw[<-s6,<-s5];refine D.Oe [De b5 n.c.du n.c.st n.c.ak,za b m3 lb hb sb vw,l3,hw,La hb m3.rg v5,h5,Ma sb m3.dc m3.rc,R] (H2:=[[],De b5 n.c.du n.c.st n.c.ak,za b m3 lb hb sb vw++(l3++(hw++(La hb m3.rg v5++(h5++Ma sb m3.dc m3.rc)))),R]) (by simp) ?_;exact D.aQ (false,.slice none 0 0,[],_) ⟨rfl,ia.nil _,Bs.is (n:=m3) (lb:=lb) (hb:=hb) (sb:=sb) ⟨yR,by rw[s4,<-e6];exact at_.ws,bY⟩⟩
   have hz:=va.Dp (n:=n) (m:=m) (by omega) (by omega) (λh=>absurd h.1 (by omega)) (λh=>absurd h.1 (by omega)) (λh=>absurd h.1 (by omega)) (λh=>absurd h.1 (by omega)) (λh=>absurd h.1 (by omega)) (λh=>absurd h.1 (by omega));try refine ga ?_
   refine ij ?_;refine D.Oe [De b5 n.c.du n.c.st n.c.ak,za b n lb hb sb vw,xb n lb cb d w,oa cb n.c u,hv,X,hw,La hb n.rg v,hh,Ma sb n.dc n.rc,R] (H2:=[[],De b5 n.c.du n.c.st n.c.ak,yx b n lb hb sb vw (xb n lb cb d w++(oa cb n.c u++(hv++X))) hw v hh,R]) (by simp) ?_;exact D.aQ (false,.slice none 0 0,[],_) ⟨by rw[hz],by rw[hz];exact ia.nil _,by rw[hz];exact at_.is (hb:=hb) (sb:=sb)⟩
  rintro⟨he,v1,h1,hx⟩ ⟨e1,hs1,yc⟩;simp only[] at e1 hs1 yc⊢;have hml:=va.eL ok.nn.2 m;obtain⟨⟨⟨n1,ms⟩,he'⟩,hz⟩:∃z,n.Qa m=z:=⟨_,rfl⟩;rw[hz] at e1 hs1 yc bL hml⊢;simp only[] at e1 hs1 yc bL hml⊢;subst e1;obtain⟨lb',hb',sb',Vs,hl',Uh,v',Ni,rfl,DI⟩:=yc;have Ji:=DI.lg;obtain⟨Ya,d',w',u',Lc,X',rfl,Nj⟩:=va.FF DI.lg;have o1:=bL.ob;have kt:=ZF n1 b lb' hb' sb' Ya d' w' o1 bL.cs bL.wl bL.wi DI.ws Nj.rs n.c.du n.c.st n.c.ak;have ka:=λvw=>fA n1.Ra b lb' hb' sb' Ya d' w' vw u' o1;have htl:=va.zq bL.wl n.c.du n.c.st n.c.ak;have mh:=n1.Ra.Cg;refine W.f0 [h1,De b5 n.c.du n.c.st n.c.ak,za b n1 lb' hb' sb' Vs,xb n1 lb' Ya d' w',oa Ya n1.c u',Lc,X',Uh,La hb' n1.rg v',Ni,Ma sb' n1.dc n1.rc,R] ?_;repeat' first|refine ga ?_|refine yj [n.c.du,n.c.st,n.c.ak] ?_
  refine ck kt ?_;rintro r9 _ ⟨h9,sx,Gu,Wo,fL,rfl⟩;simp only[can];refine Ys hs1 Wo.rs (λv2 h2 Oa=>?_);have Vy:(ms++n1.Gh n.c.du n.c.st n.c.ak).length<=118:=by rw[Cb];omega
  rw[<-Oc];generalize ms++n1.Gh n.c.du n.c.st n.c.ak=ms2 at Oa Vy⊢;have ka:Ct prog 74 [b] [za b n1.Ra lb' hb' sb' sx,xb n1 lb' Ya d' w',oa Ya n1.c u'] (λr H'=>∃h',ia 52 n1.Ra.ve r h'/\H'=[h',za b n1.Ra lb' hb' sb' sx,xb n1 lb' Ya d' w',oa Ya n1.c u']):=ka sx
  cases he with
  |false=>
   rw[if_neg (by decide)];try refine ga ?_
   refine WX.Ke ?_;refine Ys (zb:=by simp only[jd];omega) Oa (show ia 52 ([]:List Da) (.slice none 0 0) [] from ia.nil _).rs (λv3 h3 Fc=>?_);try refine ga ?_
   refine D.Oe [h3,za b n1.Ra lb' hb' sb' sx,xb n1 lb' Ya d' w',oa Ya n1.c u',Lc,X',Gu,La hb' n1.rg v',Ni,Ma sb' n1.dc n1.rc,R] (H2:=[h3,za b n1.Ra lb' hb' sb' sx++((xb n1 lb' Ya d' w'++(oa Ya n1.c u'++(Lc++X')))++(Gu++(La hb' n1.rg v'++(Ni++Ma sb' n1.dc n1.rc)))),R]) (by simp) ?_
   exact Wa [h3,za b n1.Ra lb' hb' sb' sx++((xb n1 lb' Ya d' w'++(oa Ya n1.c u'++(Lc++X')))++(Gu++(La hb' n1.rg v'++(Ni++Ma sb' n1.dc n1.rc))))] rfl rfl ⟨_,_,Fc,Bs.is (n:=n1.Ra) (lb:=lb') (hb:=hb') (sb:=sb') ⟨Ji,fL,DI.hd⟩,rfl⟩
  |true=>
   rw[if_pos rfl];try refine ga ?_
   refine ck ka ?_;rintro _ _ ⟨h6,Zo,rfl⟩;refine vb ?_;refine Ys Oa Zo.rs (λv3 h3 Fc=>?_);try refine ga ?_
   refine D.Oe [h3,za b n1.Ra lb' hb' sb' sx,xb n1 lb' Ya d' w',oa Ya n1.c u',Lc,X',Gu,La hb' n1.rg v',Ni,Ma sb' n1.dc n1.rc,R] (H2:=[h3,za b n1.Ra lb' hb' sb' sx++((xb n1 lb' Ya d' w'++(oa Ya n1.c u'++(Lc++X')))++(Gu++(La hb' n1.rg v'++(Ni++Ma sb' n1.dc n1.rc)))),R]) (by simp) ?_;exact Wa [h3,za b n1.Ra lb' hb' sb' sx++((xb n1 lb' Ya d' w'++(oa Ya n1.c u'++(Lc++X')))++(Gu++(La hb' n1.rg v'++(Ni++Ma sb' n1.dc n1.rc))))] rfl rfl ⟨_,_,Fc,Bs.is (n:=n1.Ra) (lb:=lb') (hb:=hb') (sb:=sb') ⟨Ji,fL,DI.hd⟩,rfl⟩
end
end Go.Proofs.YthebagfahkebiaaGreat
