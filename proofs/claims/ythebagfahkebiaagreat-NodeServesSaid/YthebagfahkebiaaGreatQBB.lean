/- Texts of one road. -/
import Derived.Test.YthebagfahkebiaaGreatQBA
set_option linter.all false
set_option maxHeartbeats 8000000
set_option maxRecDepth 20000
namespace Go.Proofs.YthebagfahkebiaaGreat
open Go Go.Sl Go.Proofs.Tryz List
abbrev yx(b:Nat)(n:va)(lb hb sb:Nat)(vw:Value)(hl hw:Hp)(v:Value)(hh:Hp):Hp:=za b n lb hb sb vw++(hl++(hw++(La hb n.rg v++(hh++Ma sb n.dc n.rc))))
structure Bs(n:va)(lb:Nat)(vw:Value)(hl hw:Hp)(v:Value)(hh:Hp):Prop where
 lg:og n.s lb hl
 ws:ia 181 n.ws vw hw
 hd:ia 49 n.hd v hh
def qg(n:va)(b:Nat)(h:Hp):Prop:=∃lb hb sb vw hl hw v hh,h=yx b n lb hb sb vw hl hw v hh/\Bs n lb vw hl hw v hh
structure ef(n:va)(N:Int):Prop extends Vh n N where
 cs:Je n.c
 wl:n.ws.length<=16
 wi:∀x∈n.ws,1<=x.ix/\x.ix<=1000000
 nn:0<=n.nn/\n.nn<=100
 dd:0<=n.fc/\n.fc<=100
 rr:0<=n.rn/\n.rn<=100
def va.Mg{b:Nat}(n:va){s:Ea}(h:Ob n.s.c0 s.c0)(lb hb sb:Nat)(vw:Value):za b {n with s:=s} lb hb sb vw=za b n lb hb sb vw:=by
 obtain⟨h1,h2,h3⟩:=h;unfold za va.cells va.dc va.rg va.nd;simp only[];rw[h1,h2,h3]
def Ea.Bm(s:Ea):Ob s.c0 s.sync.c0:=by
 cases s with
 |up l c t=>exact Go.Proofs.YthebagfahkebiaaGreat.Bm c
 |dn l c q=>exact Ob.refl _
section
variable{n:va}{b:Nat}{h:Hp}(hm:qg n b h)
include hm
theorem GF:Ct prog 40 [.pointer (some ⟨b,0,none⟩)] [h] (λr H'=>r= .int .i64 (n.ws.length:Int)/\H'=[h]):=by
 obtain⟨lb,hb,sb,vw,hl,hw,v,hh,rfl,at_⟩:=hm;obtain⟨p,c,rfl⟩:=at_.ws.len;refine Ct.ext ?_;refine Ct.mk' func40 rfl rfl rfl (λg R=>?_);try simp only[ca]
 simp only[na];try refine ga ?_
 exact D.Ia [za b n lb hb sb (.slice p n.ws.length c)] _ rfl rfl ⟨rfl,rfl⟩
end
end Go.Proofs.YthebagfahkebiaaGreat
namespace Go.Sl
open Go
def D.Oe{g:World}{Q:Exit->Act->World->Prop}{n:Nat}{L:Fm}{H:HH}{e:Exit}(H':HH){H2 r:HH}[k:Rc H' H r](s:H'.flatten=H2.flatten)(h:D g Q e n L H2):D g Q e n L H:= .mk λa w ha hw=>h a w ha (s▸(Ga.qa k).on hw)
end Go.Sl
namespace Go.Proofs.YthebagfahkebiaaGreat
open Go Go.Sl Go.Proofs.Tryz List
def Ur(n:va)(lb cb d w:Nat):Ct prog 24 [lb] [xb n lb cb d w] (λr H'=>r= .bool n.s.Xa/\H'=[xb n lb cb d w]):=fY lb cb n.s.c0.dc n.s.c0.rg n.s.c0.nd d w n.s.Xa
def Bs.is{n:va}{b lb hb sb:Nat}{vw:Value}{hl hw:Hp}{v:Value}{hh:Hp}(h:Bs n lb vw hl hw v hh):qg n b (yx b n lb hb sb vw hl hw v hh):=⟨lb,hb,sb,vw,hl,hw,v,hh,rfl,h⟩
section
variable{n:va}{b:Nat}{h:Hp}(hm:qg n b h)
include hm
variable{N:Int}(ok:ef n N)
include ok
theorem Bv:Ct prog 17 [b] [h] (λr H'=>∃h1 h',ia 52 n.flush.2 r h1/\qg n.flush.1 b h'/\H'=[h1,h']):=by
 obtain⟨lb,hb,sb,vw,hl,hw,v,hh,rfl,at_⟩:=hm;have hm0:=at_.lg;obtain⟨cb,d,w,u,hv,X,rfl,Mf⟩:=va.FF at_.lg;have Dn:=Ur n lb cb d w;have hst:=VF n b lb hb sb cb d w vw u;have Ws:=SO ok.ok hm0;unfold va.flush
 cases hu:n.s.Xa with
 |false=>
  rw[if_pos rfl];rw[hu] at Dn;refine ce func17 λg R=>?_;simp only[can];refine W.f0 [za b n lb hb sb vw,xb n lb cb d w,oa cb n.c u,hv,X,hw,La hb n.rg v,hh,Ma sb n.dc n.rc,R] ?_;repeat' first|refine ga ?_|refine cq Dn ?_
  exact Wa [[],yx b n lb hb sb vw (xb n lb cb d w++(oa cb n.c u++(hv++X))) hw v hh] rfl rfl ⟨_,_,ia.nil _,at_.is,rfl⟩
 |true=>
  rw[if_neg (by decide)];rw[hu] at Dn;show Ct _ _ _ _ (λr H'=>∃h1 h',ia 52 (({n with s:=n.s.sync}:va).Gh n.c.du n.c.st n.c.ak) r h1/\qg ({n with s:=n.s.sync}:va).Ra b h'/\H'=[h1,h']);obtain⟨n1,yc⟩:∃n1:va,n1={n with s:=n.s.sync}:=⟨_,rfl⟩;rw[<-yc];have e1:za b n lb hb sb vw=za b n1 lb hb sb vw:=by rw[yc];exact(n.Mg (Ea.Bm n.s) ..).symm
  have e2:n.rg=n1.rg:=by rw[yc];exact(Ea.Bm n.s).2.1.symm
  have e3:n.dc=n1.dc:=by rw[yc];exact(Ea.Bm n.s).1.symm
  have e4:n.rc=n1.rc:=by rw[yc]
  have o1:Lb n1.c:=by rw[yc];exact ok.ok.sync.ch
  have o2:Je n1.c:=by
   rw[yc];show Je n.s.sync.ch;have:=ok.cs;revert this;unfold va.c
   cases hs:n.s with
   |up l c t=>intro k;exact k.sync (by have:=ok.ob;unfold va.c at this;rw[hs] at this;exact this)
   |dn l c q=>intro k;exact k
  have Ji:∀{hl':Hp},og n.s.sync lb hl'->og n1.s lb hl':=λk=>by rw[yc];exact k
  have yq:ia 181 n1.ws vw hw:=by rw[yc];exact at_.ws
  have DU:ia 49 n1.Ra.hd v hh:=by rw[yc];exact at_.hd
  have wl:n1.ws.length<=16:=by rw[yc];exact ok.wl
  have wi:∀x∈n1.ws,1<=x.ix/\x.ix<=1000000:=by rw[yc];exact ok.wi
  refine ce func17 λg R=>?_;simp only[can];refine W.f0 [za b n lb hb sb vw,xb n lb cb d w,oa cb n.c u,hv,X,hw,La hb n.rg v,hh,Ma sb n.dc n.rc,R] ?_;repeat' first|refine ga ?_|refine al λ_=>?_|refine cq Dn ?_|refine cq hst ?_|refine nh [.int .i64 0,.int .i64 0,.int .i64 0] [n.c.du,n.c.st,n.c.ak] ?_
  rename_i b3;refine ck Ws ?_;rintro _ _ ⟨rfl,l1,rfl,Pf⟩;have Pf:=Ji Pf;have hm2:=Pf;obtain⟨Ya,d',w',u',Lc,X',rfl,Nj⟩:=va.FF Pf;have hte:=ZF n1 b lb hb sb Ya d' w' o1 o2 wl wi yq Nj.rs n.c.du n.c.st n.c.ak;rw[e1,e2,e3,e4];refine WX.f0 [xb n1 lb Ya d' w',oa Ya n1.c u',Lc,X',De b3 n.c.du n.c.st n.c.ak,za b n1 lb hb sb vw,hw,La hb n1.rg v,hh,Ma sb n1.dc n1.rc,R] ?_;repeat' first|refine ga ?_|refine yj [n.c.du,n.c.st,n.c.ak] ?_
  refine ck hte ?_;rintro _ _ ⟨h9,Vs,Uh,Wo,S8,rfl⟩;refine vb ?_;refine D.Oe [h9,za b n1.Ra lb hb sb Vs,xb n1 lb Ya d' w',oa Ya n1.c u',Lc,X',Uh,La hb n1.rg v,hh,Ma sb n1.dc n1.rc,R] (H2:=[h9,za b n1.Ra lb hb sb Vs++((xb n1 lb Ya d' w'++(oa Ya n1.c u'++(Lc++X')))++(Uh++(La hb n1.rg v++(hh++Ma sb n1.dc n1.rc)))),R]) (by simp) ?_;exact Wa [h9,za b n1.Ra lb hb sb Vs++((xb n1 lb Ya d' w'++(oa Ya n1.c u'++(Lc++X')))++(Uh++(La hb n1.rg v++(hh++Ma sb n1.dc n1.rc))))] rfl rfl ⟨_,_,Wo,Bs.is (n:=n1.Ra) (lb:=lb) (hb:=hb) (sb:=sb) ⟨hm2,S8,DU⟩,rfl⟩
end
def Iu(m c:V3):Nat->V3
 |0=>m
 |1=>⟨mx m.a c.a,m.b,m.c⟩
 |2=>⟨mx m.a c.a,mx m.b c.b,m.c⟩
 |_=>⟨mx m.a c.a,mx m.b c.b,mx m.c c.c⟩
section
variable{n:va}{b:Nat}{h:Hp}(hm:qg n b h){N:Int}(ok:ef n N)
include hm ok
theorem Ew:Ct prog 45 [b] [h] (λr H'=>r= .tuple #[]/\∃h',qg n.collect b h'/\H'=[h']):=by
 obtain⟨lb,hb,sb,vw,hl,hw,v,hh,rfl,at_⟩:=hm;have hm0:=at_.lg;obtain⟨cb,d,w,u,hv,X,rfl,Mf⟩:=va.FF at_.lg;have Dn:=Ur n lb cb d w;have hst:=Co n b lb hb sb cb d w vw u ok.ob ok.cs Mf.rs;have jg:=ok.ob.len;have uq:n.Ab.length<=1000000:=by unfold va.Ab;rw[Fe];omega
 unfold va.collect
 cases hu:n.s.Xa with
 |false=>
  rw[if_pos rfl];rw[hu] at Dn;refine ce func45 λg R=>?_;simp only[can];refine W.f0 [za b n lb hb sb vw,xb n lb cb d w,oa cb n.c u,hv,X,hw,La hb n.rg v,hh,Ma sb n.dc n.rc,R] ?_;repeat' first|refine ga ?_|refine cq Dn ?_
  first|exact D.ai [yx b n lb hb sb vw (xb n lb cb d w++(oa cb n.c u++(hv++X))) hw v hh] _ rfl ⟨rfl,_,at_.is,rfl⟩|exact D.Bc [yx b n lb hb sb vw (xb n lb cb d w++(oa cb n.c u++(hv++X))) hw v hh] _ rfl ⟨rfl,_,at_.is,rfl⟩
 |true=>
  rw[if_neg (by decide)];rw[hu] at Dn;simp only[];generalize hC:ic n.rg n.Ab=C;refine ce func45 λg R=>?_;simp only[can];refine W.f0 [za b n lb hb sb vw,xb n lb cb d w,oa cb n.c u,hv,X,hw,La hb n.rg v,hh,Ma sb n.dc n.rc,R] ?_;repeat' first|refine ga ?_|refine cq Dn ?_
  refine Ns (ml [5,2,1]) [za b n lb hb sb vw] ?_;try refine ga ?_
  refine ck hst ?_;rintro _ _ ⟨h5,hs5,rfl⟩;have oQ:=Yj n.rg hs5.rs uq;rw[hC] at oQ;repeat' first|refine vb ?_|refine cq oQ ?_
  refine W.loop (α:=Nat) (λk=>k<=3) (λk=>[(0,b),(15,.agg (List.toArray C.enc)),(16,.int .i64 (k:Int))])
   (λk=>[za b {n with mr:=Iu n.mr C k} lb hb sb vw,xb n lb cb d w,oa cb n.c u,hv,X,hw,La hb n.rg v,hh,Ma sb n.dc n.rc,R]) (λk=>3 - k) 0 (Gi _) (by repeat(first|exact Ca.nil|refine Ca.cons rfl ?_)) (by show Ga _ [za b n lb hb sb vw,xb n lb cb d w,oa cb n.c u,hv,X,hw,La hb n.rg v,hh,Ma sb n.dc n.rc,R];exact(Ga.qa inferInstance)) ?_
  intro k hk;by_cases hlt:k<3
  .obtain rfl|rfl|rfl:k=0\/k=1\/k=2:=by omega
   .repeat' first|refine ga ?_|refine WX.EE (j:=0) rfl rfl rfl (by decide) rfl rfl ?_
    refine Ns (ml [14]) [za b {n with mr:=Iu n.mr C 0} lb hb sb vw] ?_;try refine ga ?_
    refine Wh (va.cells {n with mr:=Iu n.mr C 0} lb hb sb vw) (va.cells {n with mr:=Iu n.mr C 1} lb hb sb vw) ?_;try refine ga ?_
    exact D.rd 1 (by decide) (by decide)
   .repeat' first|refine ga ?_|refine WX.EE (j:=1) rfl rfl rfl (by decide) rfl rfl ?_
    refine Ns (ml [14]) [za b {n with mr:=Iu n.mr C 1} lb hb sb vw] ?_;try refine ga ?_
    refine Wh (va.cells {n with mr:=Iu n.mr C 1} lb hb sb vw) (va.cells {n with mr:=Iu n.mr C 2} lb hb sb vw) ?_;try refine ga ?_
    exact D.rd 2 (by decide) (by decide)
   .repeat' first|refine ga ?_|refine WX.EE (j:=2) rfl rfl rfl (by decide) rfl rfl ?_
    refine Ns (ml [14]) [za b {n with mr:=Iu n.mr C 2} lb hb sb vw] ?_;try refine ga ?_
    refine Wh (va.cells {n with mr:=Iu n.mr C 2} lb hb sb vw) (va.cells {n with mr:=Iu n.mr C 3} lb hb sb vw) ?_;try refine ga ?_
    exact D.rd 3 (by decide) (by decide)
  .obtain rfl:k=3:=by omega
   try refine ga ?_
   refine D.Oe [za b {n with mr:=Iu n.mr C 3} lb hb sb vw,xb n lb cb d w,oa cb n.c u,hv,X,hw,La hb n.rg v,hh,Ma sb n.dc n.rc,R] (H2:=[za b {n with mr:=Iu n.mr C 3} lb hb sb vw++((xb n lb cb d w++(oa cb n.c u++(hv++X)))++(hw++(La hb n.rg v++(hh++Ma sb n.dc n.rc)))),R]) (by simp) ?_;exact D.Bc [za b {n with mr:=Iu n.mr C 3} lb hb sb vw++((xb n lb cb d w++(oa cb n.c u++(hv++X)))++(hw++(La hb n.rg v++(hh++Ma sb n.dc n.rc))))] _ rfl ⟨rfl,_,Bs.is (n:={n with mr:=Iu n.mr C 3}) (lb:=lb) (hb:=hb) (sb:=sb) ⟨hm0,at_.ws,at_.hd⟩,rfl⟩
end
def va.lost(n:va):va:={n with ws:=[],hd:=[],kn:=V9.z,rc:=V3.z,mr:=V3.z}
def rH(hb sb:Nat):List Value:=[.slice none 0 0,.pointer (some ⟨hb,0,none⟩)]++(V9.z.enc++(.pointer (some ⟨sb,0,none⟩)::V3.z.enc))
def gA(b:Nat)(c0 c1 c2 c3 c4 c7:Value)(dc rg:Int)(M:List Value)(hM:M.length=15):Ct prog 50 [.pointer (some ⟨b,0,none⟩)] [[(b,.cells (List.toArray (c0::c1::c2::c3::c4:: .int .i64 dc:: .int .i64 rg::c7::M)) 67 (0,0))]]
  (λr H'=>r= .tuple #[]/\∃hb sb,H'=[[(b,.cells (List.toArray (c0::c1::c2::c3::c4:: .int .i64 dc:: .int .i64 rg::c7::rH hb sb)) 67 (0,0))],La hb rg (.slice none 0 0),Ma sb dc V3.z]):=by
 have h1:=ZV rg;have h2:=cW dc;refine ce func50 λg R=>?_;simp only[can];refine W.od [true,true,true,true,true,false,true,true,true,true,false,true] [[(b,.cells (List.toArray (c0::c1::c2::c3::c4:: .int .i64 dc:: .int .i64 rg::c7::M)) 67 (0,0))]] Tryz.mix (by kernel_rfl) ?_;try refine ga ?_
 refine ck h1 ?_;rintro _ _ ⟨hb,rfl,rfl⟩;refine vb ?_;refine ck h2 ?_;rintro _ _ ⟨sb,rfl,rfl⟩;repeat' first|refine vb ?_|refine Vf (rH hb sb) ?_
 refine WX.Yc (vs:=rH hb sb) (b:=b) (i:=8) (cs:=c0::c1::c2::c3::c4:: .int .i64 dc:: .int .i64 rg::c7::M) rfl rfl rfl rfl rfl (by show Nat.ble 23 (M.length+8)=true;rw[hM];rfl) ?_;rw[show setAt (c0::c1::c2::c3::c4:: .int .i64 dc:: .int .i64 rg::c7::M) 8 (rH hb sb)=c0::c1::c2::c3::c4:: .int .i64 dc:: .int .i64 rg::c7::rH hb sb from Sf (rH hb sb) M 8 [c0,c1,c2,c3,c4,.int .i64 dc,.int .i64 rg,c7] rfl (by rw[hM];rfl)];try refine ga ?_
 exact D.Bc [[(b,.cells (List.toArray (c0::c1::c2::c3::c4:: .int .i64 dc:: .int .i64 rg::c7::rH hb sb)) 67 (0,0))],La hb rg (.slice none 0 0),Ma sb dc V3.z] _ rfl ⟨rfl,_,_,rfl⟩
def Ea.Tp(s:Ea)(k:Int):Ob s.c0 (s.Pb k).c0:=by
 cases s<;>exact Ob.refl _
section
variable{n:va}{b:Nat}{h:Hp}(hm:qg n b h){N:Int}(ok:ef n N)
include hm ok
theorem va.Cz(hl:n.s.Xa=false->n.lost=n)(keep:Int):n.Pb keep=({n with s:=n.s.Pb keep}:va).lost:=by
 have _:=hm;have _:=ok;unfold va.Pb
 cases hu:n.s.Xa with
 |true=>rfl
 |false=>
  rw[if_pos rfl]
  have h1:n.s.Pb keep=n.s:=by
   cases hs:n.s with
   |up l c t=>rw[hs] at hu;cases hu
   |dn l c q=>rfl
  rw[h1];exact(hl hu).symm
theorem CF(hl:n.s.Xa=false->n.lost=n){keep:Int}(Lt: -9223372036854775808<=keep)(hk2:keep<=9223372036854775807):Ct prog 18 [.pointer (some ⟨b,0,none⟩),.int .i64 keep] [h] (λr H'=>r= .tuple #[]/\∃h',qg (n.Pb keep) b h'/\H'=[h']):=by
 rw[va.Cz hm ok hl];obtain⟨lb,hb,sb,vw,l,hw,v,hh,rfl,at_⟩:=hm;have cB:=wL ok.ok at_.lg Lt hk2;obtain⟨n1,yc⟩:∃n1:va,n1=({n with s:=n.s.Pb keep}:va).lost:=⟨_,rfl⟩;rw[<-yc];have e2:n.rg=n1.rg:=by rw[yc];exact(Ea.Tp n.s keep).2.1.symm
 have e3:n.dc=n1.dc:=by rw[yc];exact(Ea.Tp n.s keep).1.symm
 have e5:n.nd=n1.nd:=by rw[yc];exact(Ea.Tp n.s keep).2.2.symm
 have h0:=gA b (.pointer (some ⟨lb,0,none⟩)) (.int .i64 n.fc) (.int .i64 n.rn) (.int .i64 n.nn) (.int .i64 n.cl) (.int .i64 n.nd) n.dc n.rg ([vw,.pointer (some ⟨hb,0,none⟩)]++(n.kn.enc++(.pointer (some ⟨sb,0,none⟩)::n.mr.enc))) rfl
 have e6:∀hb' sb',za b n1 lb hb' sb' (.slice none 0 0)=[(b,.cells (List.toArray (.pointer (some ⟨lb,0,none⟩):: .int .i64 n.fc:: .int .i64 n.rn:: .int .i64 n.nn:: .int .i64 n.cl:: .int .i64 n.dc:: .int .i64 n.rg:: .int .i64 n.nd::rH hb' sb')) 67 (0,0))]:=λhb' sb'=>by
  unfold za va.cells;rw[<-e2,<-e3,<-e5,yc];rfl
 have hfo:Ct prog 50 [.pointer (some ⟨b,0,none⟩)] [za b n lb hb sb vw] (λr H'=>r= .tuple #[]/\∃hb' sb',H'=[za b n1 lb hb' sb' (.slice none 0 0),La hb' n1.rg (.slice none 0 0),Ma sb' n1.dc V3.z]):=
  h0.mono λr H' ⟨k1,hb',sb',k2⟩=>⟨k1,hb',sb',by rw[k2,e6,e2,e3]⟩
 have e7:og (n.s.Pb keep) lb=og n1.s lb:=by rw[yc];rfl
 have e8:n1.ws=[]/\n1.hd=[]/\n1.rc=V3.z:=by rw[yc];exact⟨rfl,rfl,rfl⟩
 obtain⟨e8,e9,xQ⟩:=e8;refine ce func18 λg R=>?_;simp only[can];refine W.flat (H':=[za b n lb hb sb vw,l,hw,La hb n.rg v,hh,Ma sb n.dc n.rc,R]) (by simp) ?_;try refine ga ?_
 refine ck cB ?_;rintro _ _ ⟨rfl,l1,rfl,Pf⟩;refine vb ?_;refine ck hfo ?_;rintro _ _ ⟨rfl,hb',sb',rfl⟩;refine vb ?_;rw[e7] at Pf;refine D.Oe [za b n1 lb hb' sb' (.slice none 0 0),l1,La hb' n1.rg (.slice none 0 0),Ma sb' n1.dc V3.z,R] (H2:=[za b n1 lb hb' sb' (.slice none 0 0)++(l1++([]++(La hb' n1.rg (.slice none 0 0)++([]++Ma sb' n1.dc V3.z)))),R]) (by simp) ?_;exact D.Bc [za b n1 lb hb' sb' (.slice none 0 0)++(l1++([]++(La hb' n1.rg (.slice none 0 0)++([]++Ma sb' n1.dc V3.z))))] _ rfl ⟨rfl,_,⟨lb,hb',sb',.slice none 0 0,l1,[],.slice none 0 0,[],by rw[<-xQ],Pf,by rw[e8];exact ia.nil _,by rw[e9];exact ia.nil _⟩,rfl⟩
end
def R3:List Value:=[.slice none 0 0,.pointer none]++(V9.z.enc++(.pointer none::V3.z.enc))
def Ea.fresh(dc rg nd:Int)(nn:Nat):Ea:=((Ea.up [] (CS.new dc rg nd) 0).enter (Ic nn).cfg).2
def va.new(fc rn:Int)(nn:Nat)(cl dc rg nd:Int):va:=⟨fc,rn,nn,cl,Ea.fresh dc rg nd nn,[],[],V9.z,V3.z,V3.z⟩
def pe{x l m:Int}(h1:l<=x)(h2:x<=m):Ct prog 48 [.int .i64 x,.int .i64 l,.int .i64 m] [] (λr H'=>r= .bool true/\H'=[]):=by
 refine Ct.mk' func48 rfl rfl rfl (λg R=>?_);try simp only[ca]
 simp only[na];try refine ga ?_
 exact D.Ia [] _ rfl rfl ⟨by simp[h2],rfl⟩
def XS(dc rg nd:Int):Ct prog 49 [dc,rg,nd] [] (λr H'=>∃b h',r= .pointer (some ⟨b,0,none⟩)/\H'=[h']/\og (.up [] (CS.new dc rg nd) 0) b h'):=
 (xV dc rg nd).pack rfl λr H' ⟨b,cb,d,w,hd,h1,h2,h3⟩=>by
  subst h2;exact⟨[Jb b cb dc rg nd d w true++(oa cb (CS.new dc rg nd) (.slice none 0 0)++([]++(qf w d (ua []) 0++hd)))],by simp,b,_,h1,rfl,cb,d,w,.slice none 0 0,[],ua [],0,hd,rfl,⟨ia.nil _,h3,λ_=>rfl,λl' c' t' e=>(by cases e;rfl),λe=>(by cases e)⟩⟩
def Ux{fc rn:Int}{nn:Nat}{cl dc rg nd:Int}(h1:1<=fc/\fc<=3)(h2:1<=rn/\rn<=3)(h3:1<=nn/\nn<=4)(h4:1<=cl/\cl<=4)(h5:0<=dc/\dc<=fc - 1)(h6:0<=rg/\rg<=rn - 1)(h7:0<=nd/\nd<=nn - 1):
  Ct prog 12 [.agg (List.toArray [.int .i64 fc,.int .i64 rn,.int .i64 nn,.int .i64 cl]),.int .i64 dc,.int .i64 rg,.int .i64 nd] [] (λr H'=>∃b h',r= .tuple #[.pointer (some ⟨b,0,none⟩),.int .i64 0]/\qg (va.new fc rn nn cl dc rg nd) b h'/\H'=[h']):=by
 have b1:=pe h1.1 h1.2;have b2:=pe h2.1 h2.2;have b3:=pe (x:=(nn:Int)) (l:=1) (m:=4) (by omega) (by omega);have b4:=pe h4.1 h4.2;have b5:=pe h5.1 h5.2;have b6:=pe h6.1 h6.2;have b7:=pe h7.1 h7.2;have N7:=XS dc rg nd;have gV:Ct prog 51 [.int .i64 (nn:Int)] [] (λr H'=>r= .tuple #[.agg (List.toArray (Ic nn).cfg.enc),.bool true]/\H'=[]):=GS h3.1 h3.2;refine ce func12 λg R=>?_;repeat' first|refine vb ?_|refine bx rfl λ_=>?_|refine cq b1 ?_|refine cq b2 ?_|refine cq b3 ?_|refine cq b4 ?_|refine cq b5 ?_|refine cq b6 ?_|refine cq b7 ?_
 rename_i b4';refine W.od [true,true,true,false,true,true,true,true,true,false] [[(b4',.cells (List.toArray [.int .i64 fc,.int .i64 rn,.int .i64 nn,.int .i64 cl]) 23 (0,0))]] Tryz.mix (by kernel_rfl) ?_;try refine ga ?_
 refine ck N7 ?_;rintro _ _ ⟨lb,hl,rfl,rfl,hm⟩;repeat' first|refine vb ?_|refine bx rfl λ_=>?_|refine Pa [.int .i64 fc,.int .i64 rn,.int .i64 nn,.int .i64 cl] [.int .i64 fc,.int .i64 rn,.int .i64 nn,.int .i64 cl] rfl ?_|refine Vf (.pointer (some ⟨lb,0,none⟩):: .int .i64 fc:: .int .i64 rn:: .int .i64 nn:: .int .i64 cl:: .int .i64 dc:: .int .i64 rg:: .int .i64 nd::R3) ?_
 rename_i b;have hfo:=gA b (.pointer (some ⟨lb,0,none⟩)) (.int .i64 fc) (.int .i64 rn) (.int .i64 nn) (.int .i64 cl) (.int .i64 nd) dc rg R3 rfl;refine ck hfo ?_;rintro _ _ ⟨rfl,hb,sb,rfl⟩;simp only[can]
 have e6:[(b,Obj.cells (List.toArray (.pointer (some ⟨lb,0,none⟩):: .int .i64 fc:: .int .i64 rn:: .int .i64 nn:: .int .i64 cl:: .int .i64 dc:: .int .i64 rg:: .int .i64 nd::rH hb sb)) 67 (0,0))]=za b (va.new fc rn nn cl dc rg nd) lb hb sb (.slice none 0 0):=by
  obtain⟨k1,k2,k3⟩:=wz [] (CS.new dc rg nd) (Ic nn).cfg;have g1:(va.new fc rn nn cl dc rg nd).dc=dc:=k1;have g2:(va.new fc rn nn cl dc rg nd).rg=rg:=k2;have g3:(va.new fc rn nn cl dc rg nd).nd=nd:=k3;unfold za va.cells;rw[g1,g2,g3];rfl
 have g1:dc=(va.new fc rn nn cl dc rg nd).dc:=(wz [] (CS.new dc rg nd) (Ic nn).cfg).1.symm;have g2:rg=(va.new fc rn nn cl dc rg nd).rg:=(wz [] (CS.new dc rg nd) (Ic nn).cfg).2.1.symm;rw[e6];have kj:=xz (s:= .up [] (CS.new dc rg nd) 0) (N:=0) (LI.nil dc rg nd) hm (Ic nn).cfg;generalize yc:va.new fc rn nn cl dc rg nd=n1;repeat' first|refine ga ?_|refine al λ_=>?_|refine cq gV ?_|refine ud Va.z.enc (Ic nn).cfg.enc rfl rfl ?_
 rename_i nj;refine W.od [true,true,true,true,true] [Mc nj (Ic nn).cfg,za b n1 lb hb sb (.slice none 0 0)] Tryz.mix (by kernel_rfl) ?_;repeat' first|refine ga ?_|refine Pa (Ic nn).cfg.enc (Ic nn).cfg.enc rfl ?_
 refine ck kj ?_;rintro _ _ ⟨rfl,l1,rfl,Pf⟩;refine vb ?_;have e7:og n1.s lb l1:=by rw[<-yc];exact Pf
 have e8:n1.ws=[]/\n1.hd=[]/\n1.rc=V3.z:=by rw[<-yc];exact⟨rfl,rfl,rfl⟩
 obtain⟨e8,e9,xQ⟩:=e8;rw[yc] at g1 g2;rw[g1,g2];refine D.Oe [za b n1 lb hb sb (.slice none 0 0),l1,La hb n1.rg (.slice none 0 0),Ma sb n1.dc V3.z,R] (H2:=[za b n1 lb hb sb (.slice none 0 0)++(l1++([]++(La hb n1.rg (.slice none 0 0)++([]++Ma sb n1.dc V3.z)))),R]) (by simp) ?_;exact D.Vb [za b n1 lb hb sb (.slice none 0 0)++(l1++([]++(La hb n1.rg (.slice none 0 0)++([]++Ma sb n1.dc V3.z))))] _ rfl rfl rfl ⟨_,_,rfl,⟨lb,hb,sb,.slice none 0 0,l1,[],.slice none 0 0,[],by rw[<-xQ],e7,by rw[e8];exact ia.nil _,by rw[e9];exact ia.nil _⟩,rfl⟩
def Ea.Uy{s:Ea}{N:Int}(ok:s.ok N)(h:Je s.ch)(e:ya):Je (s.inj e).2.ch:=by
 cases s with
 |up l c t=>
  show Je (Yf l c e).2.1;unfold Yf;split
  .exact Je.Xb h e
  .exact h
 |dn l c q=>exact h
def Vh.wJ{N:Int}:∀(k:Nat) {n:va} {M:Int},Vh n M->Je n.c->M+k<=N->N<=1099511627776->Je (va.Md k n).c
 |0,n,M,_,hc,_,_=>hc
 |k+1,n,M,h,hc,hM,hN=>by
  unfold va.Md;split
  .exact Vh.wJ k (h.ji (by omega) _) (Ea.Uy h.ok hc _) (by omega) hN
  .exact hc
def va.iA:∀(k:Nat) (n:va),(va.Md k n).fc=n.fc/\(va.Md k n).rn=n.rn/\(va.Md k n).nn=n.nn/\(va.Md k n).ws=n.ws/\(va.Md k n).rc=n.rc/\(va.Md k n).dc=n.dc/\(va.Md k n).rg=n.rg/\(va.Md k n).nd=n.nd
 |0,n=>⟨rfl,rfl,rfl,rfl,rfl,rfl,rfl,rfl⟩
 |k+1,n=>by
  unfold va.Md;split
  .obtain⟨h1,h2,h3,h4,h5,h6,h7,h8⟩:=va.iA k (n.ji (Be n.Wb n.hd).toNat);obtain⟨k1,k2,k3⟩:=Ea.Rp n.s (n.hd.getD (Be n.Wb n.hd).toNat ya.z);exact⟨h1,h2,h3,h4,h5,h6.trans k1,h7.trans k2,h8.trans k3⟩
  .exact⟨rfl,rfl,rfl,rfl,rfl,rfl,rfl,rfl⟩
def va.Dd(n:va):n.pull.fc=n.fc/\n.pull.rn=n.rn/\n.pull.nn=n.nn/\n.pull.ws=n.ws/\n.pull.rc=n.rc/\n.pull.dc=n.dc/\n.pull.rg=n.rg/\n.pull.nd=n.nd:=by
 unfold va.pull;split
 .exact va.iA _ n.uf
 .exact⟨rfl,rfl,rfl,rfl,rfl,rfl,rfl,rfl⟩
def ef.pull{n:va}{N:Int}(h:ef n N)(hN:N+16<=1099511627776):ef n.pull (N+16):=by
 obtain⟨h1,h2,h3,h4,-⟩:=n.Dd;refine⟨h.toVh.pull hN,?_,by rw[h4];exact h.wl,by rw[h4];exact h.wi,by rw[h3];exact h.nn,by rw[h1];exact h.dd,by rw[h2];exact h.rr⟩
 .unfold va.pull;split
  .have:=h.toVh.uf.hl;exact h.toVh.uf.wJ (N:=N+16) _ h.cs (by omega) hN
  .exact h.cs
section
variable{n:va}{b:Nat}{h:Hp}(hm:qg n b h){N:Int}(ok:ef n N)(hN:N+16<=1099511627776)
include hm ok hN
theorem Kz:Ct prog 16 [b] [h] (λr H'=>∃h1 h',ia 52 n.tick.2 r h1/\qg n.tick.1 b h'/\H'=[h1,h']):=by
 obtain⟨lb,hb,sb,vw,hl,hw,v,hh,rfl,at_⟩:=hm;have hm0:=at_.lg;obtain⟨cb,d,w,u,hv,X,rfl,Mf⟩:=va.FF at_.lg;have Dn:=Ur n lb cb d w;unfold va.tick
 cases hu:n.s.Xa with
 |false=>
  rw[if_pos rfl];rw[hu] at Dn;refine ce func16 λg R=>?_;simp only[can];refine W.f0 [za b n lb hb sb vw,xb n lb cb d w,oa cb n.c u,hv,X,hw,La hb n.rg v,hh,Ma sb n.dc n.rc,R] ?_;repeat' first|refine ga ?_|refine cq Dn ?_
  exact Wa [[],yx b n lb hb sb vw (xb n lb cb d w++(oa cb n.c u++(hv++X))) hw v hh] rfl rfl ⟨_,_,ia.nil _,at_.is,rfl⟩
 |true=>
  rw[if_neg (by decide)];rw[hu] at Dn;have k1:=As n b lb hb sb vw;have k2:=Sj n b lb hb sb vw 10 n.Cc;have k3:=Si n.c cb u;have k4:=ku n N ok.toVh hN b lb hb sb vw hm0 at_.hd;have bg:=ok.pull hN;obtain⟨r1,r2,r3,r4,r5,r6,r7,r8⟩:=n.Dd;have yq:ia 181 n.pull.ws vw hw:=by rw[r4];exact at_.ws
  unfold va.ez;try simp only[]
  generalize hh0:({n.out 10 n.Cc with ep:=n.ep}:Da)=Wi;generalize n.pull=m at k4 bg r1 r2 r3 r5 r6 r7 yq⊢;refine ce func16 λg R=>?_;simp only[can];refine W.f0 [za b n lb hb sb vw,xb n lb cb d w,oa cb n.c u,hv,X,hw,La hb n.rg v,hh,Ma sb n.dc n.rc,R] ?_;repeat' first|refine ga ?_|refine al λ_=>?_|refine cq Dn ?_|refine cq k1 ?_|refine cq k2 ?_|refine cq k3 ?_|refine nh Da.z.enc (n.out 10 n.Cc).enc ?_
  rename_i b3;refine Wh (Da.enc (n.out 10 n.Cc)) (Da.enc {n.out 10 n.Cc with ep:=n.ep}) ?_;rw[hh0];repeat' first|refine ga ?_|refine yj Wi.enc ?_
  refine Kp [Wi] (λv1 h1 hs1=>?_);try refine ga ?_
  refine ck k4 ?_;rintro _ _ ⟨rfl,l1,v2,Tt,rfl,Ji,DU⟩;have hm2:=Ji;obtain⟨Ya,d',w',u',Lc,X',rfl,Nj⟩:=va.FF Ji;have oc:=bg.ob;rw[<-r6,<-r5,<-r7,<-r1,<-r2];refine WX.f0 [za b m lb hb sb vw,xb m lb Ya d' w',oa Ya m.c u',Lc,X',La hb m.rg v2,Tt,h1,Jc b3 Wi,hw,Ma sb m.dc m.rc,R] ?_;have a1:=XF m b lb hb sb Ya d' w' vw u' oc;have a2:=Mw m b lb hb sb Ya d' w' vw u' oc bg.cs Nj.rs;have a3:=fA m b lb hb sb Ya d' w' vw u' oc;have a4:=rJ m b lb hb sb Ya d' w' vw u' oc;have a5:=Co m b lb hb sb Ya d' w' vw u' oc bg.cs Nj.rs;have a6:=λx=>YF m b lb hb sb Ya d' w' vw u' bg.nn oc bg.cs Nj.rs x;have a7:=λkind x r c=>uJ m b lb hb sb vw bg.nn kind x r c;have jg:=oc.len;have uq:m.Ab.length<=1000000:=by unfold va.Ab;rw[Fe];omega
  try refine ga ?_
  refine ck a1 ?_;rintro _ _ ⟨h9,Wo,rfl⟩;simp only[can];refine Ys (zb:=by have:=m.Kg;have:=m.Pj;have:=m.Cg;simp only[Gb,jd,Cb];omega) hs1 Wo.rs (λv3 h3 Fc=>?_);try refine ga ?_
  refine ck a2 ?_;rintro _ _ ⟨h9,Wo,rfl⟩;simp only[can];refine Ys (zb:=by have:=m.Kg;have:=m.Pj;have:=m.Cg;simp only[Gb,jd,Cb];omega) Fc Wo.rs (λv4 h4 hs4=>?_);try refine ga ?_
  refine ck a3 ?_;rintro _ _ ⟨h9,Wo,rfl⟩;simp only[can];refine Ys (zb:=by have:=m.Kg;have:=m.Pj;have:=m.Cg;simp only[Gb,jd,Cb];omega) hs4 Wo.rs (λv5 h5 hs5=>?_);obtain⟨B,hB⟩:∃B,[Wi]++m.Jd++m.Cj++m.ve=B:=⟨_,rfl⟩;have hBl:B.length<=10:=by rw[<-hB];have:=m.Kg;have:=m.Pj;have:=m.Cg;simp only[Gb,jd,Cb];omega
  rw[hB] at hs5;have hsp:∀l:List Da,Wi::(m.Jd++(m.Cj++(m.ve++l)))=B++l:=λl=>by rw[<-hB];simp
  rw[hsp]
  cases hsu:m.sure with
  |false=>
   rw[hsu] at a4;rw[if_pos rfl,append_nil];repeat' first|refine ga ?_|refine cq a4 ?_
   refine D.Oe [h5,za b m lb hb sb vw,xb m lb Ya d' w',oa Ya m.c u',Lc,X',hw,La hb m.rg v2,Tt,Ma sb m.dc m.rc,R] (H2:=[h5,za b m lb hb sb vw++((xb m lb Ya d' w'++(oa Ya m.c u'++(Lc++X')))++(hw++(La hb m.rg v2++(Tt++Ma sb m.dc m.rc)))),R]) (by simp) ?_
   exact Wa [h5,za b m lb hb sb vw++((xb m lb Ya d' w'++(oa Ya m.c u'++(Lc++X')))++(hw++(La hb m.rg v2++(Tt++Ma sb m.dc m.rc))))] rfl rfl ⟨_,_,hs5,Bs.is (n:=m) (lb:=lb) (hb:=hb) (sb:=sb) ⟨hm2,yq,DU⟩,rfl⟩
  |true=>
   rw[hsu] at a4;rw[if_neg (by decide)];repeat' first|refine ga ?_|refine cq a4 ?_
   generalize hC:ic m.rg m.Ab=C;refine W.gi (α:=Nat) (λ_=>True) (λy=>[(0,b),(4,v5),(5,y)]) (λy=>[h5,Ac y C,za b m lb hb sb vw,xb m lb Ya d' w',oa Ya m.c u',Lc,X',La hb m.rg v2,Tt,hw,Ma sb m.dc m.rc,R]) ?_ ?_
   .refine w6 (ml [5,3]) [za b m lb hb sb vw] ?_;repeat' first|refine ga ?_|refine al λ_=>?_|refine WY.Se ?_|refine WY.back ?_|refine Uk 0 ?_|refine Uk 1 ?_|refine Uk 2 ?_|refine Uk 3 ?_|refine Uk 4 ?_|refine WY.Ts 5 7 (by decide+kernel) rfl rfl ?_ ?_|refine WY.Ts 6 7 (by decide+kernel) rfl rfl ?_ ?_|refine uK 5 ?_|refine uK 6 ?_|refine uK 7 ?_|refine WY.fin (by kernel_rfl) ?_|(refine I.cl ?_;refine ck a5 ?_;rintro _ _ ⟨h9,Wo,rfl⟩;simp only[ca,na])|refine cq (hC▸Yj m.rg (ia.rs ‹ia 49 m.Ab _ _›) uq) ?_|refine nh V3.z.enc C.enc ?_
    all_goals exact D.aQ _ trivial
   rintro b5 -;obtain⟨D1,I7⟩:∃D1:Nat,m.fc=(D1:Int):=⟨m.fc.toNat,by have:=bg.dd;omega⟩;obtain⟨E1,J7⟩:∃E1:Nat,m.rn=(E1:Int):=⟨m.rn.toNat,by have:=bg.rr;omega⟩;have hD2:D1<=100:=by have:=bg.dd;omega
   have hE2:E1<=100:=by have:=bg.rr;omega
   have mh:∀kind x r,(m.Jh kind x r C).length<=100:=λkind x r=>by unfold va.Jh;rw[We,length_range];have:=bg.nn;omega
   have hsh:∀x,(m.Qf x).length<=100:=λx=>by
    unfold va.Qf;split
    .exact Gi _
    .rw[We,length_range];have:=bg.nn;omega
   obtain⟨f1,dY⟩:∃f1:Nat->List Da,f1=λ(x:Nat)=>if(x:Int)=m.dc then[] else m.Qf (x:Int)++m.Jh 13 (x:Int) m.rg C:=⟨_,rfl⟩
   obtain⟨f2,EU⟩:∃f2:Nat->List Da,f2=λ(r:Nat)=>if(r:Int)=m.rg then[] else m.Jh 14 m.dc (r:Int) C:=⟨_,rfl⟩
   have hfl:∀(f:Nat->List Da) (k:Nat),((List.range (k+1)).map f).flatten=((List.range k).map f).flatten++f k:=λf k=>by rw[range_succ,Ae,flatten_append];simp
   try refine ga ?_
   rw[I7]
   refine W.lo (α:=Nat×Value×Hp) (λy=>y.1<=D1/\(B++((List.range y.1).map f1).flatten).length<=10+200*y.1/\ia 52 (B++((List.range y.1).map f1).flatten) y.2.1 y.2.2)
    (λy=>[(0,b),(4,y.2.1),(5,b5),(58,.int .i64 (D1:Int)),(59,.int .i64 (y.1:Int))])
    (λy=>[y.2.2,Ac b5 C,za b m lb hb sb vw,xb m lb Ya d' w',oa Ya m.c u',Lc,X',La hb m.rg v2,Tt,hw,Ma sb m.dc m.rc,R]) (λy=>D1 - y.1) (0,v5,h5) ⟨Gi _,by simp only[range_zero,map_nil,flatten_nil,append_nil];omega,by simp only[range_zero,map_nil,flatten_nil,append_nil];exact hs5⟩ ?_
   rintro⟨k,v6,h6⟩ ⟨hk,eY,Zo⟩;simp only[] at hk eY Zo⊢;have e1:=hfl f1 k;have e2:f1 k=if(k:Int)=m.dc then[] else m.Qf (k:Int)++m.Jh 13 (k:Int) m.rg C:=by rw[dY]
   by_cases hlt:k<D1
   .have g1:=hsh (k:Int);have g2:=mh 13 (k:Int) m.rg;generalize hacc:B++((List.range k).map f1).flatten=acc at eY Zo;by_cases hx:(k:Int)=m.dc
    .rw[if_pos hx] at e2;have e3:B++((List.range (k+1)).map f1).flatten=acc:=by rw[e1,e2,append_nil,hacc]
     try refine ga ?_
     exact D.rd (k+1,v6,h6) ⟨by simp only[];omega,by simp only[];rw[e3];omega,by simp only[];rw[e3];exact Zo⟩ (by simp only[];omega)
    .rw[if_neg hx] at e2;have e3:B++((List.range (k+1)).map f1).flatten=(acc++m.Qf (k:Int))++m.Jh 13 (k:Int) m.rg C:=by rw[e1,e2,<-Oc,<-Oc,hacc]
     try refine ga ?_
     refine ck (a6 (k:Int)) ?_;rintro _ _ ⟨h7,Cn,rfl⟩;simp only[can];refine Ys Zo Cn.rs (λv8 h8 Mq=>?_);try refine ga ?_
     refine Ns (ml [8,2]) [za b m lb hb sb vw,Ac b5 C] ?_;repeat' first|refine ga ?_|refine yj C.enc ?_
     refine ck (a7 13 (k:Int) m.rg C) ?_;rintro _ _ ⟨h9,Wo,rfl⟩;refine vb ?_;refine Ys (zb:=by rw[Cb];omega) Mq Wo.rs (λv10 SV YS=>?_);try refine ga ?_
     exact D.rd (k+1,v10,SV) ⟨by simp only[];omega,by simp only[];rw[e3,Cb,Cb];omega,by simp only[];rw[e3];exact YS⟩ (by simp only[];omega)
   .obtain rfl:k=D1:=by omega
    generalize L7:B++((List.range k).map f1).flatten=B2 at eY Zo;try refine ga ?_
    rw[J7]
    refine W.lo (α:=Nat×Value×Hp) (λy=>y.1<=E1/\(B2++((List.range y.1).map f2).flatten).length<=20010+100*y.1/\ia 52 (B2++((List.range y.1).map f2).flatten) y.2.1 y.2.2)
     (λy=>[(0,b),(4,y.2.1),(5,b5),(88,.int .i64 (E1:Int)),(89,.int .i64 (y.1:Int))])
     (λy=>[y.2.2,Ac b5 C,za b m lb hb sb vw,xb m lb Ya d' w',oa Ya m.c u',Lc,X',La hb m.rg v2,Tt,hw,Ma sb m.dc m.rc,R]) (λy=>E1 - y.1) (0,v6,h6) ⟨Gi _,by simp only[range_zero,map_nil,flatten_nil,append_nil];omega,by simp only[range_zero,map_nil,flatten_nil,append_nil];exact Zo⟩ ?_
    rintro⟨j,v7,h7⟩ ⟨hj,rV,Cn⟩;simp only[] at hj rV Cn⊢;have e1:=hfl f2 j;have e2:f2 j=if(j:Int)=m.rg then[] else m.Jh 14 m.dc (j:Int) C:=by rw[EU]
    by_cases hlt:j<E1
    .have g2:=mh 14 m.dc (j:Int);generalize hacc:B2++((List.range j).map f2).flatten=acc at rV Cn;by_cases hx:(j:Int)=m.rg
     .rw[if_pos hx] at e2;have e3:B2++((List.range (j+1)).map f2).flatten=acc:=by rw[e1,e2,append_nil,hacc]
      have hxx: ¬ ¬(j:Int)=m.rg:=not_not_intro hx;try refine ga ?_
      exact D.rd (j+1,v7,h7) ⟨by simp only[];omega,by simp only[];rw[e3];omega,by simp only[];rw[e3];exact Cn⟩ (by simp only[];omega)
     .rw[if_neg hx] at e2;have e3:B2++((List.range (j+1)).map f2).flatten=acc++m.Jh 14 m.dc (j:Int) C:=by rw[e1,e2,<-Oc,hacc]
      try refine ga ?_
      refine Ns (ml [8,2]) [za b m lb hb sb vw,Ac b5 C] ?_;repeat' first|refine ga ?_|refine yj C.enc ?_
      refine ck (a7 14 m.dc (j:Int) C) ?_;rintro _ _ ⟨h9,Wo,rfl⟩;refine vb ?_;refine Ys Cn Wo.rs (λv10 SV YS=>?_);try refine ga ?_
      exact D.rd (j+1,v10,SV) ⟨by simp only[];omega,by simp only[];rw[e3,Cb];omega,by simp only[];rw[e3];exact YS⟩ (by simp only[];omega)
    .obtain rfl:j=E1:=by omega
     try refine ga ?_
     rw[Int.toNat_natCast,Int.toNat_natCast,<-dY,<-EU,<-Oc,L7];refine D.Oe [h7,za b m lb hb sb vw,xb m lb Ya d' w',oa Ya m.c u',Lc,X',hw,La hb m.rg v2,Tt,Ma sb m.dc m.rc,R] (H2:=[h7,za b m lb hb sb vw++((xb m lb Ya d' w'++(oa Ya m.c u'++(Lc++X')))++(hw++(La hb m.rg v2++(Tt++Ma sb m.dc m.rc)))),R]) (by simp) ?_;exact Wa [h7,za b m lb hb sb vw++((xb m lb Ya d' w'++(oa Ya m.c u'++(Lc++X')))++(hw++(La hb m.rg v2++(Tt++Ma sb m.dc m.rc))))] rfl rfl ⟨_,_,Cn,Bs.is (n:=m) (lb:=lb) (hb:=hb) (sb:=sb) ⟨hm2,yq,DU⟩,rfl⟩
end
variable{key:ByteArray}{dead:Bool}{deps:V9}{clock op:Int}
def xP(es:List ya)(cl op:Int):Pe es cl op<=(es.length:Int):=by
 unfold Pe;split
 .exact Int.natCast_nonneg _
 .rename_i i h;have:=(List.findIdx?_eq_some_iff_getElem.1 h).1;omega
def CS.ZL{c:CS}(ok:Lb c){val:ByteArray}{cl:Int}(h:(c.Xf key val dead deps clock cl op).1.2=0):1<=(c.Xf key val dead deps clock cl op).1.1/\(c.Xf key val dead deps clock cl op).1.1<=256:=by
 have h1:=ok.len;have h2:c.len=(c.lg.length:Int):=rfl;have h3:=xP c.lg cl op;revert h;unfold CS.Xf;repeat' split
 all_goals
  intro h;simp only[] at h⊢;omega
def Ea.Zu{s:Ea}{N:Int}(ok:s.ok N){val:ByteArray}{cl:Int}(h:(s.put key val dead deps clock cl op).1.2=0):1<=(s.put key val dead deps clock cl op).1.1/\(s.put key val dead deps clock cl op).1.1<=256:=by
 cases s with
 |up l c t=>
  have h:(Vc l c key val dead deps clock cl op).1.2=0:=h;show 1<=(Vc l c key val dead deps clock cl op).1.1/\(Vc l c key val dead deps clock cl op).1.1<=256;unfold Vc at h⊢;split at h
  .rename_i a1;rw[if_pos a1];exact CS.ZL (LI.ok ok) h
  .exact absurd (show(51:Int)=0 from h) (by decide)
 |dn l c q=>exact absurd h (by decide: ¬(52:Int)=0)
end Go.Proofs.YthebagfahkebiaaGreat
