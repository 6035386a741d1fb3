/- Texts of one road. -/
import Derived.Test.YthebagfahkebiaaGreatRBA
set_option linter.all false
set_option maxHeartbeats 8000000
set_option maxRecDepth 20000
namespace Go.Proofs.YthebagfahkebiaaGreat
open Go Go.Sl Go.Proofs.Tryz List
abbrev Ti(b:Nat)(n:ua)(lb hb sb:Nat)(vw:Value)(hl hw:Hp)(v:Value)(hh:Hp):Hp:=za b n lb hb sb vw++(hl++(hw++(Fa hb n.rg v++(hh++Ja sb n.dc n.rc))))
structure Qs(n:ua)(lb:Nat)(vw:Value)(hl hw:Hp)(v:Value)(hh:Hp):Prop where
 lg:Dg n.s lb hl
 ws:ia 181 n.ws vw hw
 hd:ia 49 n.hd v hh
def vf(n:ua)(b:Nat)(h:Hp):Prop:=∃lb hb sb vw hl hw v hh,h=Ti b n lb hb sb vw hl hw v hh/\Qs n lb vw hl hw v hh
structure We(n:ua)(N:Int):Prop extends gi n N where
 cs:Ke n.c
 wl:n.ws.length<=16
 wi:∀x∈n.ws,1<=x.ix/\x.ix<=1000000
 nn:0<=n.nn/\n.nn<=100
 dd:0<=n.Ec/\n.Ec<=100
 rr:0<=n.rn/\n.rn<=100
def ua.ai{b:Nat}(n:ua){s:Ga}(h:Lb n.s.c0 s.c0)(lb hb sb:Nat)(vw:Value):za b {n with s:=s} lb hb sb vw=za b n lb hb sb vw:=by
 obtain⟨h1,h2,h3⟩:=h;unfold za ua.cells ua.dc ua.rg ua.nd;simp only[];rw[h1,h2,h3]
def Ga.Qj(s:Ga):Lb s.c0 s.sync.c0:=by
 cases s with
 |up l c t=>exact Go.Proofs.YthebagfahkebiaaGreat.Qj c
 |dn l c q=>exact Lb.refl _
section
variable{n:ua}{b:Nat}{h:Hp}(hm:vf n b h)
include hm
theorem MF:Ct prog 40 [b] [h] (λr H'=>r= .int .i64 (n.ws.length:Int)/\H'=[h]):=by
 obtain⟨lb,hb,sb,vw,hl,hw,v,hh,rfl,at_⟩:=hm;obtain⟨p,c,rfl⟩:=at_.ws.len;refine Ct.ext ?_;refine ng func40 λg R=>?_;exact Wi [za b n lb hb sb (.slice p n.ws.length c)]
end
end Go.Proofs.YthebagfahkebiaaGreat
namespace Go.Sl
open Go
def D.Vd{g:World}{Q:Exit->Act->World->Prop}{n:Nat}{L:Fm}{H:HH}{e:Exit}(H':HH){H2 r:HH}[k:Oc H' H r](s:H'.flatten=H2.flatten)(h:D g Q e n L H2):D g Q e n L H:= .mk λa w ha hw=>h a w ha (s▸(Ia.qa k).on hw)
end Go.Sl
namespace Go.Proofs.YthebagfahkebiaaGreat
open Go Go.Sl Go.Proofs.Tryz List
def Xv(n:ua)(lb cb d w:Nat):Ct prog 24 [lb] [Pa n lb cb d w] (λr H'=>r= .bool n.s.jb/\H'=[Pa n lb cb d w]):=hY lb cb n.s.c0.dc n.s.c0.rg n.s.c0.nd d w n.s.jb
def Qs.is{n:ua}{b lb hb sb:Nat}{vw:Value}{hl hw:Hp}{v:Value}{hh:Hp}(h:Qs n lb vw hl hw v hh):vf n b (Ti b n lb hb sb vw hl hw v hh):=⟨lb,hb,sb,vw,hl,hw,v,hh,rfl,h⟩
section
variable{n:ua}{b:Nat}{h:Hp}(hm:vf n b h)
include hm
variable{N:Int}(ok:We n N)
include ok
theorem Ov:Ct prog 17 [b] [h] (λr H'=>∃h1 h',ia 52 n.flush.2 r h1/\vf n.flush.1 b h'/\H'=[h1,h']):=by
 obtain⟨lb,hb,sb,vw,hl,hw,v,hh,rfl,at_⟩:=hm;have hm0:=at_.lg;obtain⟨cb,d,w,u,hv,X,rfl,Ue⟩:=ua.Qv at_.lg;have Uk:=Xv n lb cb d w;have hst:=aG n b lb hb sb cb d w vw u;have Gt:=lP ok.ok hm0;unfold ua.flush
 cases hu:n.s.jb with
 |false=>
  rw[if_pos rfl];rw[hu] at Uk;refine ce func17 λg R=>?_;simp only[can];refine W.f0 [za b n lb hb sb vw,Pa n lb cb d w,ja cb n.c u,hv,X,hw,Fa hb n.rg v,hh,Ja sb n.dc n.rc,R] ?_;repeat' first|refine ga ?_|refine cq Uk ?_
  exact Xa [[],Ti b n lb hb sb vw (Pa n lb cb d w++(ja cb n.c u++(hv++X))) hw v hh] rfl rfl ⟨_,_,ia.nil _,at_.is,rfl⟩
 |true=>
  rw[if_neg (by decide)];rw[hu] at Uk;show Ct _ _ _ _ (λr H'=>∃h1 h',ia 52 (({n with s:=n.s.sync}:ua).eg n.c.du n.c.st n.c.ak) r h1/\vf ({n with s:=n.s.sync}:ua).Qa b h'/\H'=[h1,h']);obtain⟨n1,ic⟩:∃n1:ua,n1={n with s:=n.s.sync}:=⟨_,rfl⟩;rw[<-ic];have e1:za b n lb hb sb vw=za b n1 lb hb sb vw:=by rw[ic];exact(n.ai (Ga.Qj n.s) ..).symm
  have e2:n.rg=n1.rg:=by rw[ic];exact(Ga.Qj n.s).2.1.symm
  have e3:n.dc=n1.dc:=by rw[ic];exact(Ga.Qj n.s).1.symm
  have e4:n.rc=n1.rc:=by rw[ic]
  have o1:Ob n1.c:=by rw[ic];exact ok.ok.sync.ch
  have o2:Ke n1.c:=by
   rw[ic];show Ke n.s.sync.ch;have:=ok.cs;revert this;unfold ua.c
   cases hs:n.s with
   |up l c t=>intro k;exact k.sync (by have:=ok.xb;unfold ua.c at this;rw[hs] at this;exact this)
   |dn l c q=>intro k;exact k
  have xe:∀{hl':Hp},Dg n.s.sync lb hl'->Dg n1.s lb hl':=λk=>by rw[ic];exact k
  have Br:ia 181 n1.ws vw hw:=by rw[ic];exact at_.ws
  have KU:ia 49 n1.Qa.hd v hh:=by rw[ic];exact at_.hd
  have wl:n1.ws.length<=16:=by rw[ic];exact ok.wl
  have wi:∀x∈n1.ws,1<=x.ix/\x.ix<=1000000:=by rw[ic];exact ok.wi
  refine ce func17 λg R=>?_;simp only[can];refine W.f0 [za b n lb hb sb vw,Pa n lb cb d w,ja cb n.c u,hv,X,hw,Fa hb n.rg v,hh,Ja sb n.dc n.rc,R] ?_;repeat' first|refine ga ?_|refine al λ_=>?_|refine cq Uk ?_|refine cq hst ?_|refine xg [.int .i64 0,.int .i64 0,.int .i64 0] [n.c.du,n.c.st,n.c.ak] ?_
  rename_i b3;refine ck Gt ?_;rintro _ _ ⟨rfl,l1,rfl,cg⟩;have cg:=xe cg;have hm2:=cg;obtain⟨ob,d',w',u',Rc,X',rfl,Hl⟩:=ua.Qv cg;have hte:=dG n1 b lb hb sb ob d' w' o1 o2 wl wi Br Hl.rs n.c.du n.c.st n.c.ak;rw[e1,e2,e3,e4];refine WX.f0 [Pa n1 lb ob d' w',ja ob n1.c u',Rc,X',Fe b3 n.c.du n.c.st n.c.ak,za b n1 lb hb sb vw,hw,Fa hb n1.rg v,hh,Ja sb n1.dc n1.rc,R] ?_;repeat' first|refine ga ?_|refine Pg [n.c.du,n.c.st,n.c.ak] ?_
  refine ck hte ?_;rintro _ _ ⟨h9,iy,Oi,Bp,H8,rfl⟩;refine Za ?_;refine D.Vd [h9,za b n1.Qa lb hb sb iy,Pa n1 lb ob d' w',ja ob n1.c u',Rc,X',Oi,Fa hb n1.rg v,hh,Ja sb n1.dc n1.rc,R] (H2:=[h9,za b n1.Qa lb hb sb iy++((Pa n1 lb ob d' w'++(ja ob n1.c u'++(Rc++X')))++(Oi++(Fa hb n1.rg v++(hh++Ja sb n1.dc n1.rc)))),R]) (by simp) ?_;exact Xa [h9,za b n1.Qa lb hb sb iy++((Pa n1 lb ob d' w'++(ja ob n1.c u'++(Rc++X')))++(Oi++(Fa hb n1.rg v++(hh++Ja sb n1.dc n1.rc))))] rfl rfl ⟨_,_,Bp,Qs.is (n:=n1.Qa) (lb:=lb) (hb:=hb) (sb:=sb) ⟨hm2,H8,KU⟩,rfl⟩
end
def Uu(m c:V3):Nat->V3
 |0=>m
 |1=>⟨mx m.a c.a,m.b,m.c⟩
 |2=>⟨mx m.a c.a,mx m.b c.b,m.c⟩
 |_=>⟨mx m.a c.a,mx m.b c.b,mx m.c c.c⟩
section
variable{n:ua}{b:Nat}{h:Hp}(hm:vf n b h){N:Int}(ok:We n N)
include hm ok
theorem lJ:Ct prog 45 [b] [h] (λr H'=>r= .tuple #[]/\∃h',vf n.collect b h'/\H'=[h']):=by
 obtain⟨lb,hb,sb,vw,hl,hw,v,hh,rfl,at_⟩:=hm;have hm0:=at_.lg;obtain⟨cb,d,w,u,hv,X,rfl,Ue⟩:=ua.Qv at_.lg;have Uk:=Xv n lb cb d w;have hst:=No n b lb hb sb cb d w vw u ok.xb ok.cs Ue.rs;have tg:=ok.xb.len;have Iq:n.Kb.length<=1000000:=by unfold ua.Kb;rw[Oe];omega
 unfold ua.collect
 cases hu:n.s.jb with
 |false=>
  rw[if_pos rfl];rw[hu] at Uk;refine ce func45 λg R=>?_;simp only[can];refine W.f0 [za b n lb hb sb vw,Pa n lb cb d w,ja cb n.c u,hv,X,hw,Fa hb n.rg v,hh,Ja sb n.dc n.rc,R] ?_;repeat' first|refine ga ?_|refine cq Uk ?_
  first|exact D.ri [Ti b n lb hb sb vw (Pa n lb cb d w++(ja cb n.c u++(hv++X))) hw v hh] _ rfl ⟨rfl,_,at_.is,rfl⟩|exact D.fc [Ti b n lb hb sb vw (Pa n lb cb d w++(ja cb n.c u++(hv++X))) hw v hh] _ rfl ⟨rfl,_,at_.is,rfl⟩
 |true=>
  rw[if_neg (by decide)];rw[hu] at Uk;simp only[];generalize hC:Bc n.rg n.Kb=C;refine ce func45 λg R=>?_;simp only[can];refine W.f0 [za b n lb hb sb vw,Pa n lb cb d w,ja cb n.c u,hv,X,hw,Fa hb n.rg v,hh,Ja sb n.dc n.rc,R] ?_;repeat' first|refine ga ?_|refine cq Uk ?_
  refine Wp (ml [5,2,1]) [za b n lb hb sb vw] ?_;try refine ga ?_
  refine ck hst ?_;rintro _ _ ⟨h5,hs5,rfl⟩;have AQ:=Bn n.rg hs5.rs Iq;rw[hC] at AQ;repeat' first|refine Za ?_|refine cq AQ ?_
  refine W.loop (α:=Nat) (λk=>k<=3) (λk=>[(0,b),(15,.agg (List.toArray C.enc)),(16,.int .i64 (k:Int))])
   (λk=>[za b {n with mr:=Uu n.mr C k} lb hb sb vw,Pa n lb cb d w,ja cb n.c u,hv,X,hw,Fa hb n.rg v,hh,Ja sb n.dc n.rc,R]) (λk=>3 - k) 0 (di _) (by repeat(first|exact Aa.nil|refine Aa.cons rfl ?_)) (by show Ia _ [za b n lb hb sb vw,Pa n lb cb d w,ja cb n.c u,hv,X,hw,Fa hb n.rg v,hh,Ja sb n.dc n.rc,R];exact(Ia.qa inferInstance)) ?_
  intro k hk;by_cases hlt:k<3
  .obtain rfl|rfl|rfl:k=0\/k=1\/k=2:=by omega
   .repeat' first|refine ga ?_|refine WX.CE (j:=0) rfl rfl rfl (by decide) rfl rfl ?_
    refine Wp (ml [14]) [za b {n with mr:=Uu n.mr C 0} lb hb sb vw] ?_;try refine ga ?_
    refine ei (ua.cells {n with mr:=Uu n.mr C 0} lb hb sb vw) (ua.cells {n with mr:=Uu n.mr C 1} lb hb sb vw) ?_;try refine ga ?_
    exact D.rd 1 (by decide) (by decide)
   .repeat' first|refine ga ?_|refine WX.CE (j:=1) rfl rfl rfl (by decide) rfl rfl ?_
    refine Wp (ml [14]) [za b {n with mr:=Uu n.mr C 1} lb hb sb vw] ?_;try refine ga ?_
    refine ei (ua.cells {n with mr:=Uu n.mr C 1} lb hb sb vw) (ua.cells {n with mr:=Uu n.mr C 2} lb hb sb vw) ?_;try refine ga ?_
    exact D.rd 2 (by decide) (by decide)
   .repeat' first|refine ga ?_|refine WX.CE (j:=2) rfl rfl rfl (by decide) rfl rfl ?_
    refine Wp (ml [14]) [za b {n with mr:=Uu n.mr C 2} lb hb sb vw] ?_;try refine ga ?_
    refine ei (ua.cells {n with mr:=Uu n.mr C 2} lb hb sb vw) (ua.cells {n with mr:=Uu n.mr C 3} lb hb sb vw) ?_;try refine ga ?_
    exact D.rd 3 (by decide) (by decide)
  .obtain rfl:k=3:=by omega
   try refine ga ?_
   refine D.Vd [za b {n with mr:=Uu n.mr C 3} lb hb sb vw,Pa n lb cb d w,ja cb n.c u,hv,X,hw,Fa hb n.rg v,hh,Ja sb n.dc n.rc,R] (H2:=[za b {n with mr:=Uu n.mr C 3} lb hb sb vw++((Pa n lb cb d w++(ja cb n.c u++(hv++X)))++(hw++(Fa hb n.rg v++(hh++Ja sb n.dc n.rc)))),R]) (by simp) ?_;exact D.fc [za b {n with mr:=Uu n.mr C 3} lb hb sb vw++((Pa n lb cb d w++(ja cb n.c u++(hv++X)))++(hw++(Fa hb n.rg v++(hh++Ja sb n.dc n.rc))))] _ rfl ⟨rfl,_,Qs.is (n:={n with mr:=Uu n.mr C 3}) (lb:=lb) (hb:=hb) (sb:=sb) ⟨hm0,at_.ws,at_.hd⟩,rfl⟩
end
def ua.lost(n:ua):ua:={n with ws:=[],hd:=[],kn:=V9.z,rc:=V3.z,mr:=V3.z}
def xH(hb sb:Nat):List Value:=[.slice none 0 0,.pointer (some ⟨hb,0,none⟩)]++(V9.z.enc++(.pointer (some ⟨sb,0,none⟩)::V3.z.enc))
def gA(b:Nat)(c0 c1 c2 c3 c4 c7:Value)(dc rg:Int)(M:List Value)(hM:M.length=15):Ct prog 50 [b] [[(b,.cells (List.toArray (c0::c1::c2::c3::c4::dc::rg::c7::M)) 67 (0,0))]]
  (λr H'=>r= .tuple #[]/\∃hb sb,H'=[[(b,.cells (List.toArray (c0::c1::c2::c3::c4::dc::rg::c7::xH hb sb)) 67 (0,0))],Fa hb rg (.slice none 0 0),Ja sb dc V3.z]):=by
 have h1:=gW rg;have h2:=kW dc;refine ce func50 λg R=>?_;simp only[can];refine Wp (ml [5,1,4,1,1]) [[(b,.cells (List.toArray (c0::c1::c2::c3::c4::dc::rg::c7::M)) 67 (0,0))]] ?_;try refine ga ?_
 refine ck h1 ?_;rintro _ _ ⟨hb,rfl,rfl⟩;refine Za ?_;refine ck h2 ?_;rintro _ _ ⟨sb,rfl,rfl⟩;repeat' first|refine Za ?_|refine jf (xH hb sb) ?_
 refine WX.qd (vs:=xH hb sb) (b:=b) (i:=8) (cs:=c0::c1::c2::c3::c4::dc::rg::c7::M) rfl rfl rfl rfl rfl (by show Nat.ble 23 (M.length+8)=true;rw[hM];rfl) ?_;rw[show setAt (c0::c1::c2::c3::c4::dc::rg::c7::M) 8 (xH hb sb)=c0::c1::c2::c3::c4::dc::rg::c7::xH hb sb from Vf (xH hb sb) M 8 [c0,c1,c2,c3,c4,dc,rg,c7] rfl (by rw[hM];rfl)];try refine ga ?_
 exact D.fc [[(b,.cells (List.toArray (c0::c1::c2::c3::c4::dc::rg::c7::xH hb sb)) 67 (0,0))],Fa hb rg (.slice none 0 0),Ja sb dc V3.z] _ rfl ⟨rfl,_,_,rfl⟩
def Ga.jq(s:Ga)(k:Int):Lb s.c0 (s.Dc k).c0:=by
 cases s<;>exact Lb.refl _
section
variable{n:ua}{b:Nat}{h:Hp}(hm:vf n b h){N:Int}(ok:We n N)
include hm ok
theorem ua.Sz(hl:n.s.jb=false->n.lost=n)(keep:Int):n.Dc keep=({n with s:=n.s.Dc keep}:ua).lost:=by
 have _:=hm;have _:=ok;unfold ua.Dc
 cases hu:n.s.jb with
 |true=>rfl
 |false=>
  rw[if_pos rfl]
  have h1:n.s.Dc keep=n.s:=by
   cases hs:n.s with
   |up l c t=>rw[hs] at hu;cases hu
   |dn l c q=>rfl
  rw[h1];exact(hl hu).symm
theorem JF(hl:n.s.jb=false->n.lost=n){keep:Int}(Om: -9223372036854775808<=keep)(hk2:keep<=9223372036854775807):Ct prog 18 [.pointer (some ⟨b,0,none⟩),.int .i64 keep] [h] (λr H'=>r= .tuple #[]/\∃h',vf (n.Dc keep) b h'/\H'=[h']):=by
 rw[ua.Sz hm ok hl];obtain⟨lb,hb,sb,vw,l,hw,v,hh,rfl,at_⟩:=hm;have cB:=GL ok.ok at_.lg Om hk2;obtain⟨n1,ic⟩:∃n1:ua,n1=({n with s:=n.s.Dc keep}:ua).lost:=⟨_,rfl⟩;rw[<-ic];have e2:n.rg=n1.rg:=by rw[ic];exact(Ga.jq n.s keep).2.1.symm
 have e3:n.dc=n1.dc:=by rw[ic];exact(Ga.jq n.s keep).1.symm
 have e5:n.nd=n1.nd:=by rw[ic];exact(Ga.jq n.s keep).2.2.symm
 have h0:=gA b (.pointer (some ⟨lb,0,none⟩)) (.int .i64 n.Ec) (.int .i64 n.rn) (.int .i64 n.nn) (.int .i64 n.cl) (.int .i64 n.nd) n.dc n.rg ([vw,.pointer (some ⟨hb,0,none⟩)]++(n.kn.enc++(.pointer (some ⟨sb,0,none⟩)::n.mr.enc))) rfl
 have e6:∀hb' sb',za b n1 lb hb' sb' (.slice none 0 0)=[(b,.cells (List.toArray (.pointer (some ⟨lb,0,none⟩):: .int .i64 n.Ec:: .int .i64 n.rn:: .int .i64 n.nn:: .int .i64 n.cl:: .int .i64 n.dc:: .int .i64 n.rg:: .int .i64 n.nd::xH hb' sb')) 67 (0,0))]:=λhb' sb'=>by
  unfold za ua.cells;rw[<-e2,<-e3,<-e5,ic];rfl
 have hfo:Ct prog 50 [.pointer (some ⟨b,0,none⟩)] [za b n lb hb sb vw] (λr H'=>r= .tuple #[]/\∃hb' sb',H'=[za b n1 lb hb' sb' (.slice none 0 0),Fa hb' n1.rg (.slice none 0 0),Ja sb' n1.dc V3.z]):=
  h0.mono λr H' ⟨k1,hb',sb',k2⟩=>⟨k1,hb',sb',by rw[k2,e6,e2,e3]⟩
 have e7:Dg (n.s.Dc keep) lb=Dg n1.s lb:=by rw[ic];rfl
 have e8:n1.ws=[]/\n1.hd=[]/\n1.rc=V3.z:=by rw[ic];exact⟨rfl,rfl,rfl⟩
 obtain⟨e8,e9,JQ⟩:=e8;refine ce func18 λg R=>?_;simp only[can];refine W.flat (H':=[za b n lb hb sb vw,l,hw,Fa hb n.rg v,hh,Ja sb n.dc n.rc,R]) (by simp) ?_;try refine ga ?_
 refine ck cB ?_;rintro _ _ ⟨rfl,l1,rfl,cg⟩;refine Za ?_;refine ck hfo ?_;rintro _ _ ⟨rfl,hb',sb',rfl⟩;refine Za ?_;rw[e7] at cg;refine D.Vd [za b n1 lb hb' sb' (.slice none 0 0),l1,Fa hb' n1.rg (.slice none 0 0),Ja sb' n1.dc V3.z,R] (H2:=[za b n1 lb hb' sb' (.slice none 0 0)++(l1++([]++(Fa hb' n1.rg (.slice none 0 0)++([]++Ja sb' n1.dc V3.z)))),R]) (by simp) ?_;exact D.fc [za b n1 lb hb' sb' (.slice none 0 0)++(l1++([]++(Fa hb' n1.rg (.slice none 0 0)++([]++Ja sb' n1.dc V3.z))))] _ rfl ⟨rfl,_,⟨lb,hb',sb',.slice none 0 0,l1,[],.slice none 0 0,[],by rw[<-JQ],cg,by rw[e8];exact ia.nil _,by rw[e9];exact ia.nil _⟩,rfl⟩
end
def K3:List Value:=[.slice none 0 0,.pointer none]++(V9.z.enc++(.pointer none::V3.z.enc))
def Ga.fresh(dc rg nd:Int)(nn:Nat):Ga:=((Ga.up [] (CS.new dc rg nd) 0).enter (Kc nn).cfg).2
def ua.new(Ec rn:Int)(nn:Nat)(cl dc rg nd:Int):ua:=⟨Ec,rn,nn,cl,Ga.fresh dc rg nd nn,[],[],V9.z,V3.z,V3.z⟩
def ue{x l m:Int}(h1:l<=x)(h2:x<=m):Ct prog 48 [x,l,m] [] (λr H'=>r= .bool true/\H'=[]):=by
 refine ng func48 λg R=>?_;exact Xa [] rfl rfl ⟨by simp[h2],rfl⟩
def iT(dc rg nd:Int):Ct prog 49 [dc,rg,nd] [] (λr H'=>∃b h',r= .pointer (some ⟨b,0,none⟩)/\H'=[h']/\Dg (.up [] (CS.new dc rg nd) 0) b h'):=
 (BV dc rg nd).pack rfl λr H' ⟨b,cb,d,w,hd,h1,h2,h3⟩=>by
  subst h2;exact⟨[Mb b cb dc rg nd d w true++(ja cb (CS.new dc rg nd) (.slice none 0 0)++([]++(zf w d (va []) 0++hd)))],by simp,b,_,h1,rfl,cb,d,w,.slice none 0 0,[],va [],0,hd,rfl,⟨ia.nil _,h3,λ_=>rfl,λl' c' t' e=>(by cases e;rfl),λe=>(by cases e)⟩⟩
def sy{Ec rn:Int}{nn:Nat}{cl dc rg nd:Int}(h1:1<=Ec/\Ec<=3)(h2:1<=rn/\rn<=3)(h3:1<=nn/\nn<=4)(h4:1<=cl/\cl<=4)(h5:0<=dc/\dc<=Ec - 1)(h6:0<=rg/\rg<=rn - 1)(h7:0<=nd/\nd<=nn - 1):
  Ct prog 12 [.agg (List.toArray [.int .i64 Ec,.int .i64 rn,.int .i64 nn,.int .i64 cl]),.int .i64 dc,.int .i64 rg,.int .i64 nd] [] (λr H'=>∃b h',r= .tuple #[.pointer (some ⟨b,0,none⟩),.int .i64 0]/\vf (ua.new Ec rn nn cl dc rg nd) b h'/\H'=[h']):=by
 have b1:=ue h1.1 h1.2;have b2:=ue h2.1 h2.2;have b3:=ue (x:=(nn:Int)) (l:=1) (m:=4) (by omega) (by omega);have b4:=ue h4.1 h4.2;have b5:=ue h5.1 h5.2;have b6:=ue h6.1 h6.2;have b7:=ue h7.1 h7.2;have F7:=iT dc rg nd;have qV:Ct prog 51 [.int .i64 (nn:Int)] [] (λr H'=>r= .tuple #[.agg (List.toArray (Kc nn).cfg.enc),.bool true]/\H'=[]):=NS h3.1 h3.2;refine ce func12 λg R=>?_;repeat' first|refine Za ?_|refine bx rfl λ_=>?_|refine cq b1 ?_|refine cq b2 ?_|refine cq b3 ?_|refine cq b4 ?_|refine cq b5 ?_|refine cq b6 ?_|refine cq b7 ?_
 rename_i b4';refine W.Ac [true,true,true,false,true,true,true,true,true,false] [[(b4',.cells (List.toArray [.int .i64 Ec,.int .i64 rn,.int .i64 nn,.int .i64 cl]) 23 (0,0))]] Tryz.mix (by kernel_rfl) ?_;try refine ga ?_
 refine ck F7 ?_;rintro _ _ ⟨lb,hl,rfl,rfl,hm⟩;repeat' first|refine Za ?_|refine bx rfl λ_=>?_|refine La [.int .i64 Ec,.int .i64 rn,.int .i64 nn,.int .i64 cl] [.int .i64 Ec,.int .i64 rn,.int .i64 nn,.int .i64 cl] rfl ?_|refine jf (.pointer (some ⟨lb,0,none⟩):: .int .i64 Ec:: .int .i64 rn:: .int .i64 nn:: .int .i64 cl:: .int .i64 dc:: .int .i64 rg:: .int .i64 nd::K3) ?_
 rename_i b;have hfo:=gA b (.pointer (some ⟨lb,0,none⟩)) (.int .i64 Ec) (.int .i64 rn) (.int .i64 nn) (.int .i64 cl) (.int .i64 nd) dc rg K3 rfl;refine ck hfo ?_;rintro _ _ ⟨rfl,hb,sb,rfl⟩;simp only[can]
 have e6:[(b,Obj.cells (List.toArray (.pointer (some ⟨lb,0,none⟩):: .int .i64 Ec:: .int .i64 rn:: .int .i64 nn:: .int .i64 cl:: .int .i64 dc:: .int .i64 rg:: .int .i64 nd::xH hb sb)) 67 (0,0))]=za b (ua.new Ec rn nn cl dc rg nd) lb hb sb (.slice none 0 0):=by
  obtain⟨k1,k2,k3⟩:=Mz [] (CS.new dc rg nd) (Kc nn).cfg;have g1:(ua.new Ec rn nn cl dc rg nd).dc=dc:=k1;have g2:(ua.new Ec rn nn cl dc rg nd).rg=rg:=k2;have g3:(ua.new Ec rn nn cl dc rg nd).nd=nd:=k3;unfold za ua.cells;rw[g1,g2,g3];rfl
 have g1:dc=(ua.new Ec rn nn cl dc rg nd).dc:=(Mz [] (CS.new dc rg nd) (Kc nn).cfg).1.symm;have g2:rg=(ua.new Ec rn nn cl dc rg nd).rg:=(Mz [] (CS.new dc rg nd) (Kc nn).cfg).2.1.symm;rw[e6];have ji:=Nz (s:= .up [] (CS.new dc rg nd) 0) (N:=0) (LI.nil dc rg nd) hm (Kc nn).cfg;generalize ic:ua.new Ec rn nn cl dc rg nd=n1;repeat' first|refine ga ?_|refine al λ_=>?_|refine cq qV ?_|refine Nc Wa.z.enc (Kc nn).cfg.enc rfl rfl ?_
 rename_i Ph;refine W.Ac [true,true,true,true,true] [od Ph (Kc nn).cfg,za b n1 lb hb sb (.slice none 0 0)] Tryz.mix (by kernel_rfl) ?_;repeat' first|refine ga ?_|refine La (Kc nn).cfg.enc (Kc nn).cfg.enc rfl ?_
 refine ck ji ?_;rintro _ _ ⟨rfl,l1,rfl,cg⟩;refine Za ?_;have e7:Dg n1.s lb l1:=by rw[<-ic];exact cg
 have e8:n1.ws=[]/\n1.hd=[]/\n1.rc=V3.z:=by rw[<-ic];exact⟨rfl,rfl,rfl⟩
 obtain⟨e8,e9,JQ⟩:=e8;rw[ic] at g1 g2;rw[g1,g2];refine D.Vd [za b n1 lb hb sb (.slice none 0 0),l1,Fa hb n1.rg (.slice none 0 0),Ja sb n1.dc V3.z,R] (H2:=[za b n1 lb hb sb (.slice none 0 0)++(l1++([]++(Fa hb n1.rg (.slice none 0 0)++([]++Ja sb n1.dc V3.z)))),R]) (by simp) ?_;exact D.Vb [za b n1 lb hb sb (.slice none 0 0)++(l1++([]++(Fa hb n1.rg (.slice none 0 0)++([]++Ja sb n1.dc V3.z))))] _ rfl rfl rfl ⟨_,_,rfl,⟨lb,hb,sb,.slice none 0 0,l1,[],.slice none 0 0,[],by rw[<-JQ],e7,by rw[e8];exact ia.nil _,by rw[e9];exact ia.nil _⟩,rfl⟩
def Ga.qz{s:Ga}{N:Int}(ok:s.ok N)(h:Ke s.ch)(e:ya):Ke (s.inj e).2.ch:=by
 cases s with
 |up l c t=>
  show Ke (dg l c e).2.1;unfold dg;split
  .exact Ke.Xb h e
  .exact h
 |dn l c q=>exact h
def gi.NJ{N:Int}:∀(k:Nat) {n:ua} {M:Int},gi n M->Ke n.c->M+k<=N->N<=1099511627776->Ke (ua.Ld k n).c
 |0,n,M,_,hc,_,_=>hc
 |k+1,n,M,h,hc,hM,hN=>by
  unfold ua.Ld;split
  .exact gi.NJ k (h.Ai (by omega) _) (Ga.qz h.ok hc _) (by omega) hN
  .exact hc
def ua.iA:∀(k:Nat) (n:ua),(ua.Ld k n).Ec=n.Ec/\(ua.Ld k n).rn=n.rn/\(ua.Ld k n).nn=n.nn/\(ua.Ld k n).ws=n.ws/\(ua.Ld k n).rc=n.rc/\(ua.Ld k n).dc=n.dc/\(ua.Ld k n).rg=n.rg/\(ua.Ld k n).nd=n.nd
 |0,n=>⟨rfl,rfl,rfl,rfl,rfl,rfl,rfl,rfl⟩
 |k+1,n=>by
  unfold ua.Ld;split
  .obtain⟨h1,h2,h3,h4,h5,h6,h7,h8⟩:=ua.iA k (n.Ai (Ce n.Wb n.hd).toNat);obtain⟨k1,k2,k3⟩:=Ga.gq n.s (n.hd.getD (Ce n.Wb n.hd).toNat ya.z);exact⟨h1,h2,h3,h4,h5,h6.trans k1,h7.trans k2,h8.trans k3⟩
  .exact⟨rfl,rfl,rfl,rfl,rfl,rfl,rfl,rfl⟩
def ua.Sd(n:ua):n.pull.Ec=n.Ec/\n.pull.rn=n.rn/\n.pull.nn=n.nn/\n.pull.ws=n.ws/\n.pull.rc=n.rc/\n.pull.dc=n.dc/\n.pull.rg=n.rg/\n.pull.nd=n.nd:=by
 unfold ua.pull;split
 .exact ua.iA _ n.Bf
 .exact⟨rfl,rfl,rfl,rfl,rfl,rfl,rfl,rfl⟩
def We.pull{n:ua}{N:Int}(h:We n N)(hN:N+16<=1099511627776):We n.pull (N+16):=by
 obtain⟨h1,h2,h3,h4,-⟩:=n.Sd;refine⟨h.togi.pull hN,?_,by rw[h4];exact h.wl,by rw[h4];exact h.wi,by rw[h3];exact h.nn,by rw[h1];exact h.dd,by rw[h2];exact h.rr⟩
 .unfold ua.pull;split
  .have:=h.togi.Bf.hl;exact h.togi.Bf.NJ (N:=N+16) _ h.cs (by omega) hN
  .exact h.cs
section
variable{n:ua}{b:Nat}{h:Hp}(hm:vf n b h){N:Int}(ok:We n N)(hN:N+16<=1099511627776)
include hm ok hN
theorem kJ:Ct prog 16 [b] [h] (λr H'=>∃h1 h',ia 52 n.tick.2 r h1/\vf n.tick.1 b h'/\H'=[h1,h']):=by
 obtain⟨lb,hb,sb,vw,hl,hw,v,hh,rfl,at_⟩:=hm;have hm0:=at_.lg;obtain⟨cb,d,w,u,hv,X,rfl,Ue⟩:=ua.Qv at_.lg;have Uk:=Xv n lb cb d w;unfold ua.tick
 cases hu:n.s.jb with
 |false=>
  rw[if_pos rfl];rw[hu] at Uk;refine ce func16 λg R=>?_;simp only[can];refine W.f0 [za b n lb hb sb vw,Pa n lb cb d w,ja cb n.c u,hv,X,hw,Fa hb n.rg v,hh,Ja sb n.dc n.rc,R] ?_;repeat' first|refine ga ?_|refine cq Uk ?_
  exact Xa [[],Ti b n lb hb sb vw (Pa n lb cb d w++(ja cb n.c u++(hv++X))) hw v hh] rfl rfl ⟨_,_,ia.nil _,at_.is,rfl⟩
 |true=>
  rw[if_neg (by decide)];rw[hu] at Uk;have k1:=Ns n b lb hb sb vw;have k2:=Vj n b lb hb sb vw 10 n.Fc;have k3:=Sg n.c cb u;have k4:=Bu n N ok.togi hN b lb hb sb vw hm0 at_.hd;have Eg:=ok.pull hN;obtain⟨r1,r2,r3,r4,r5,r6,r7,r8⟩:=n.Sd;have Br:ia 181 n.pull.ws vw hw:=by rw[r4];exact at_.ws
  unfold ua.yz;try simp only[]
  generalize hh0:({n.out 10 n.Fc with ep:=n.ep}:Da)=Xr;generalize n.pull=m at k4 Eg r1 r2 r3 r5 r6 r7 Br⊢;refine ce func16 λg R=>?_;simp only[can];refine W.f0 [za b n lb hb sb vw,Pa n lb cb d w,ja cb n.c u,hv,X,hw,Fa hb n.rg v,hh,Ja sb n.dc n.rc,R] ?_;repeat' first|refine ga ?_|refine al λ_=>?_|refine cq Uk ?_|refine cq k1 ?_|refine cq k2 ?_|refine cq k3 ?_|refine xg Da.z.enc (n.out 10 n.Fc).enc ?_
  rename_i b3;refine ei (Da.enc (n.out 10 n.Fc)) (Da.enc {n.out 10 n.Fc with ep:=n.ep}) ?_;rw[hh0];repeat' first|refine ga ?_|refine Pg Xr.enc ?_
  refine Up [Xr] (λv1 h1 hs1=>?_);try refine ga ?_
  refine ck k4 ?_;rintro _ _ ⟨rfl,l1,v2,Er,rfl,xe,KU⟩;have hm2:=xe;obtain⟨ob,d',w',u',Rc,X',rfl,Hl⟩:=ua.Qv xe;have oc:=Eg.xb;rw[<-r6,<-r5,<-r7,<-r1,<-r2];refine WX.f0 [za b m lb hb sb vw,Pa m lb ob d' w',ja ob m.c u',Rc,X',Fa hb m.rg v2,Er,h1,Yb b3 Xr,hw,Ja sb m.dc m.rc,R] ?_;have a1:=bG m b lb hb sb ob d' w' vw u' oc;have a2:=ax m b lb hb sb ob d' w' vw u' oc Eg.cs Hl.rs;have a3:=fA m b lb hb sb ob d' w' vw u' oc;have a4:=IJ m b lb hb sb ob d' w' vw u' oc;have a5:=No m b lb hb sb ob d' w' vw u' oc Eg.cs Hl.rs;have a6:=λx=>cG m b lb hb sb ob d' w' vw u' Eg.nn oc Eg.cs Hl.rs x;have a7:=λkind x r c=>LJ m b lb hb sb vw Eg.nn kind x r c;have tg:=oc.len;have Iq:m.Kb.length<=1000000:=by unfold ua.Kb;rw[Oe];omega
  try refine ga ?_
  refine ck a1 ?_;rintro _ _ ⟨h9,Bp,rfl⟩;simp only[can];refine Jt (zb:=by have:=m.Ug;have:=m.Rj;have:=m.Jg;simp only[Ib,td,Eb];omega) hs1 Bp.rs (λv3 h3 Cc=>?_);try refine ga ?_
  refine ck a2 ?_;rintro _ _ ⟨h9,Bp,rfl⟩;simp only[can];refine Jt (zb:=by have:=m.Ug;have:=m.Rj;have:=m.Jg;simp only[Ib,td,Eb];omega) Cc Bp.rs (λv4 h4 hs4=>?_);try refine ga ?_
  refine ck a3 ?_;rintro _ _ ⟨h9,Bp,rfl⟩;simp only[can];refine Jt (zb:=by have:=m.Ug;have:=m.Rj;have:=m.Jg;simp only[Ib,td,Eb];omega) hs4 Bp.rs (λv5 h5 hs5=>?_);obtain⟨B,hB⟩:∃B,[Xr]++m.Yd++m.Qm++m.Af=B:=⟨_,rfl⟩;have hBl:B.length<=10:=by rw[<-hB];have:=m.Ug;have:=m.Rj;have:=m.Jg;simp only[Ib,td,Eb];omega
  rw[hB] at hs5;have hsp:∀l:List Da,Xr::(m.Yd++(m.Qm++(m.Af++l)))=B++l:=λl=>by rw[<-hB];simp
  rw[hsp]
  cases hsu:m.sure with
  |false=>
   rw[hsu] at a4;rw[if_pos rfl,append_nil];repeat' first|refine ga ?_|refine cq a4 ?_
   refine D.Vd [h5,za b m lb hb sb vw,Pa m lb ob d' w',ja ob m.c u',Rc,X',hw,Fa hb m.rg v2,Er,Ja sb m.dc m.rc,R] (H2:=[h5,za b m lb hb sb vw++((Pa m lb ob d' w'++(ja ob m.c u'++(Rc++X')))++(hw++(Fa hb m.rg v2++(Er++Ja sb m.dc m.rc)))),R]) (by simp) ?_
   exact Xa [h5,za b m lb hb sb vw++((Pa m lb ob d' w'++(ja ob m.c u'++(Rc++X')))++(hw++(Fa hb m.rg v2++(Er++Ja sb m.dc m.rc))))] rfl rfl ⟨_,_,hs5,Qs.is (n:=m) (lb:=lb) (hb:=hb) (sb:=sb) ⟨hm2,Br,KU⟩,rfl⟩
  |true=>
   rw[hsu] at a4;rw[if_neg (by decide)];repeat' first|refine ga ?_|refine cq a4 ?_
   generalize hC:Bc m.rg m.Kb=C;refine W.cj (α:=Nat) (λ_=>True) (λy=>[(0,b),(4,v5),(5,y)]) (λy=>[h5,Mc y C,za b m lb hb sb vw,Pa m lb ob d' w',ja ob m.c u',Rc,X',Fa hb m.rg v2,Er,hw,Ja sb m.dc m.rc,R]) ?_ ?_
   .refine U6 (ml [5,3]) [za b m lb hb sb vw] ?_;repeat' first|refine ga ?_|refine al λ_=>?_|refine WY.lf ?_|refine WY.back ?_|refine vn 0 ?_|refine vn 1 ?_|refine vn 2 ?_|refine vn 3 ?_|refine vn 4 ?_|refine WY.Cv 5 7 (by decide+kernel) rfl rfl ?_ ?_|refine WY.Cv 6 7 (by decide+kernel) rfl rfl ?_ ?_|refine KM 5 ?_|refine KM 6 ?_|refine KM 7 ?_|refine WY.fin (by kernel_rfl) ?_|(refine I.cl ?_;refine ck a5 ?_;rintro _ _ ⟨h9,Bp,rfl⟩;simp only[ca,na])|refine cq (hC▸Bn m.rg (ia.rs ‹ia 49 m.Kb _ _›) Iq) ?_|refine xg V3.z.enc C.enc ?_
    all_goals exact D.aQ _ trivial
   rintro b5 -;obtain⟨D1,A7⟩:∃D1:Nat,m.Ec=(D1:Int):=⟨m.Ec.toNat,by have:=Eg.dd;omega⟩;obtain⟨E1,B7⟩:∃E1:Nat,m.rn=(E1:Int):=⟨m.rn.toNat,by have:=Eg.rr;omega⟩;have hD2:D1<=100:=by have:=Eg.dd;omega
   have hE2:E1<=100:=by have:=Eg.rr;omega
   have Ah:∀kind x r,(m.Ri kind x r C).length<=100:=λkind x r=>by unfold ua.Ri;rw[bf,length_range];have:=Eg.nn;omega
   have hsh:∀x,(m.Df x).length<=100:=λx=>by
    unfold ua.Df;split
    .exact di _
    .rw[bf,length_range];have:=Eg.nn;omega
   obtain⟨f1,fY⟩:∃f1:Nat->List Da,f1=λ(x:Nat)=>if(x:Int)=m.dc then[] else m.Df (x:Int)++m.Ri 13 (x:Int) m.rg C:=⟨_,rfl⟩
   obtain⟨f2,LU⟩:∃f2:Nat->List Da,f2=λ(r:Nat)=>if(r:Int)=m.rg then[] else m.Ri 14 m.dc (r:Int) C:=⟨_,rfl⟩
   have hfl:∀(f:Nat->List Da) (k:Nat),((List.range (k+1)).map f).flatten=((List.range k).map f).flatten++f k:=λf k=>by rw[range_succ,He,flatten_append];simp
   try refine ga ?_
   rw[A7]
   refine W.lo (α:=Nat×Value×Hp) (λy=>y.1<=D1/\(B++((List.range y.1).map f1).flatten).length<=10+200*y.1/\ia 52 (B++((List.range y.1).map f1).flatten) y.2.1 y.2.2)
    (λy=>[(0,b),(4,y.2.1),(5,b5),(58,.int .i64 (D1:Int)),(59,.int .i64 (y.1:Int))])
    (λy=>[y.2.2,Mc b5 C,za b m lb hb sb vw,Pa m lb ob d' w',ja ob m.c u',Rc,X',Fa hb m.rg v2,Er,hw,Ja sb m.dc m.rc,R]) (λy=>D1 - y.1) (0,v5,h5) ⟨di _,by simp only[range_zero,map_nil,flatten_nil,append_nil];omega,by simp only[range_zero,map_nil,flatten_nil,append_nil];exact hs5⟩ ?_
   rintro⟨k,v6,h6⟩ ⟨hk,gY,Nq⟩;simp only[] at hk gY Nq⊢;have e1:=hfl f1 k;have e2:f1 k=if(k:Int)=m.dc then[] else m.Df (k:Int)++m.Ri 13 (k:Int) m.rg C:=by rw[fY]
   by_cases hlt:k<D1
   .have g1:=hsh (k:Int);have g2:=Ah 13 (k:Int) m.rg;generalize hacc:B++((List.range k).map f1).flatten=acc at gY Nq;by_cases hx:(k:Int)=m.dc
    .rw[if_pos hx] at e2;have e3:B++((List.range (k+1)).map f1).flatten=acc:=by rw[e1,e2,append_nil,hacc]
     try refine ga ?_
     exact D.rd (k+1,v6,h6) ⟨by simp only[];omega,by simp only[];rw[e3];omega,by simp only[];rw[e3];exact Nq⟩ (by simp only[];omega)
    .rw[if_neg hx] at e2;have e3:B++((List.range (k+1)).map f1).flatten=(acc++m.Df (k:Int))++m.Ri 13 (k:Int) m.rg C:=by rw[e1,e2,<-Sc,<-Sc,hacc]
     try refine ga ?_
     refine ck (a6 (k:Int)) ?_;rintro _ _ ⟨h7,Gn,rfl⟩;simp only[can];refine Jt Nq Gn.rs (λv8 h8 ju=>?_);try refine ga ?_
     refine Wp (ml [8,2]) [za b m lb hb sb vw,Mc b5 C] ?_;repeat' first|refine ga ?_|refine Pg C.enc ?_
     refine ck (a7 13 (k:Int) m.rg C) ?_;rintro _ _ ⟨h9,Bp,rfl⟩;refine Za ?_;refine Jt (zb:=by rw[Eb];omega) ju Bp.rs (λv10 ZV jT=>?_);try refine ga ?_
     exact D.rd (k+1,v10,ZV) ⟨by simp only[];omega,by simp only[];rw[e3,Eb,Eb];omega,by simp only[];rw[e3];exact jT⟩ (by simp only[];omega)
   .obtain rfl:k=D1:=by omega
    generalize D7:B++((List.range k).map f1).flatten=B2 at gY Nq;try refine ga ?_
    rw[B7]
    refine W.lo (α:=Nat×Value×Hp) (λy=>y.1<=E1/\(B2++((List.range y.1).map f2).flatten).length<=20010+100*y.1/\ia 52 (B2++((List.range y.1).map f2).flatten) y.2.1 y.2.2)
     (λy=>[(0,b),(4,y.2.1),(5,b5),(88,.int .i64 (E1:Int)),(89,.int .i64 (y.1:Int))])
     (λy=>[y.2.2,Mc b5 C,za b m lb hb sb vw,Pa m lb ob d' w',ja ob m.c u',Rc,X',Fa hb m.rg v2,Er,hw,Ja sb m.dc m.rc,R]) (λy=>E1 - y.1) (0,v6,h6) ⟨di _,by simp only[range_zero,map_nil,flatten_nil,append_nil];omega,by simp only[range_zero,map_nil,flatten_nil,append_nil];exact Nq⟩ ?_
    rintro⟨j,v7,h7⟩ ⟨hj,vV,Gn⟩;simp only[] at hj vV Gn⊢;have e1:=hfl f2 j;have e2:f2 j=if(j:Int)=m.rg then[] else m.Ri 14 m.dc (j:Int) C:=by rw[LU]
    by_cases hlt:j<E1
    .have g2:=Ah 14 m.dc (j:Int);generalize hacc:B2++((List.range j).map f2).flatten=acc at vV Gn;by_cases hx:(j:Int)=m.rg
     .rw[if_pos hx] at e2;have e3:B2++((List.range (j+1)).map f2).flatten=acc:=by rw[e1,e2,append_nil,hacc]
      have hxx: ¬ ¬(j:Int)=m.rg:=not_not_intro hx;try refine ga ?_
      exact D.rd (j+1,v7,h7) ⟨by simp only[];omega,by simp only[];rw[e3];omega,by simp only[];rw[e3];exact Gn⟩ (by simp only[];omega)
     .rw[if_neg hx] at e2;have e3:B2++((List.range (j+1)).map f2).flatten=acc++m.Ri 14 m.dc (j:Int) C:=by rw[e1,e2,<-Sc,hacc]
      try refine ga ?_
      refine Wp (ml [8,2]) [za b m lb hb sb vw,Mc b5 C] ?_;repeat' first|refine ga ?_|refine Pg C.enc ?_
      refine ck (a7 14 m.dc (j:Int) C) ?_;rintro _ _ ⟨h9,Bp,rfl⟩;refine Za ?_;refine Jt Gn Bp.rs (λv10 ZV jT=>?_);try refine ga ?_
      exact D.rd (j+1,v10,ZV) ⟨by simp only[];omega,by simp only[];rw[e3,Eb];omega,by simp only[];rw[e3];exact jT⟩ (by simp only[];omega)
    .obtain rfl:j=E1:=by omega
     try refine ga ?_
     rw[Int.toNat_natCast,Int.toNat_natCast,<-fY,<-LU,<-Sc,D7];refine D.Vd [h7,za b m lb hb sb vw,Pa m lb ob d' w',ja ob m.c u',Rc,X',hw,Fa hb m.rg v2,Er,Ja sb m.dc m.rc,R] (H2:=[h7,za b m lb hb sb vw++((Pa m lb ob d' w'++(ja ob m.c u'++(Rc++X')))++(hw++(Fa hb m.rg v2++(Er++Ja sb m.dc m.rc)))),R]) (by simp) ?_;exact Xa [h7,za b m lb hb sb vw++((Pa m lb ob d' w'++(ja ob m.c u'++(Rc++X')))++(hw++(Fa hb m.rg v2++(Er++Ja sb m.dc m.rc))))] rfl rfl ⟨_,_,Gn,Qs.is (n:=m) (lb:=lb) (hb:=hb) (sb:=sb) ⟨hm2,Br,KU⟩,rfl⟩
end
variable{key:ByteArray}{dead:Bool}{deps:V9}{clock op:Int}
def KP(es:List ya)(cl op:Int):Re es cl op<=(es.length:Int):=by
 unfold Re;split
 .exact Int.natCast_nonneg _
 .rename_i i h;have:=(List.findIdx?_eq_some_iff_getElem.1 h).1;omega
def CS.jM{c:CS}(ok:Ob c){val:ByteArray}{cl:Int}(h:(c.Zf key val dead deps clock cl op).1.2=0):1<=(c.Zf key val dead deps clock cl op).1.1/\(c.Zf key val dead deps clock cl op).1.1<=256:=by
 have h1:=ok.len;have h2:c.len=(c.lg.length:Int):=rfl;have h3:=KP c.lg cl op;revert h;unfold CS.Zf;repeat' split
 all_goals
  intro h;simp only[] at h⊢;omega
def Ga.Mq{s:Ga}{N:Int}(ok:s.ok N){val:ByteArray}{cl:Int}(h:(s.put key val dead deps clock cl op).1.2=0):1<=(s.put key val dead deps clock cl op).1.1/\(s.put key val dead deps clock cl op).1.1<=256:=by
 cases s with
 |up l c t=>
  have h:(jd l c key val dead deps clock cl op).1.2=0:=h;show 1<=(jd l c key val dead deps clock cl op).1.1/\(jd l c key val dead deps clock cl op).1.1<=256;unfold jd at h⊢;split at h
  .rename_i a1;rw[if_pos a1];exact CS.jM (LI.ok ok) h
  .exact absurd (show(51:Int)=0 from h) (by decide)
 |dn l c q=>exact absurd h (by decide: ¬(52:Int)=0)
end Go.Proofs.YthebagfahkebiaaGreat
