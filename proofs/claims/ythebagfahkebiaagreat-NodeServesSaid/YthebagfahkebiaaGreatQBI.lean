/- Texts of one road. -/
import Derived.Test.YthebagfahkebiaaGreatQBH
set_option linter.all false
set_option maxHeartbeats 8000000
set_option maxRecDepth 20000
namespace Go.Proofs.YthebagfahkebiaaGreat
open Go Go.Sl Go.Proofs.Tryz List
section
variable{n:va}{b:Nat}{h:Hp}{T:Int}(hm:Mm n b T h){N:Int}(ok:ef n N)
include hm ok
theorem gL(Mi:0<=T)(hT:T+8000<=68719476736):Ct prog 101 [b] [h] (λr H'=>∃h1 h',ia 52 n.flush.2 r h1/\Mm n.flush.1 b (T+8000) h'/\H'=[h1,h']):=by
 obtain⟨Nh,gb,hb,sb,vw,hl,hw,v,hh,rfl,at_⟩:=hm;have hm0:=at_.lg;obtain⟨cb,d,w,tn,u,hv,X,rfl,Mf⟩:=va.YK at_.lg;have BI:=at_.mono (T':=T+8000) (by omega);have Ws:=EO ok.ok hm0 Mi (by omega);unfold va.flush
 cases hu:n.s.Xa with
 |false=>
  rw[if_pos rfl];have Bk:qb n gb cb d w tn=yb gb cb d w false tn:=by rw[<-hu]
  refine ce func101 λg R=>?_;simp only[can];refine W.f0 [Ba b n gb hb sb vw Nh,qb n gb cb d w tn,ta cb n.c u,hv,X,hw,Ka hb n.rg v,hh,Sa sb n.dc n.rc,R] ?_;try refine ga ?_
  refine Wh (n.jc gb hb sb vw Nh) (n.jc gb hb sb vw (.slice none 0 0)) ?_;rw[Bk];try refine ga ?_
  rw[<-Bk];refine D.Oe [Ba b n gb hb sb vw (.slice none 0 0),qb n gb cb d w tn,ta cb n.c u,hv,X,hw,Ka hb n.rg v,hh,Sa sb n.dc n.rc,R] (H2:=[[],vh b n gb hb sb vw (.slice none 0 0) (qb n gb cb d w tn++(ta cb n.c u++(hv++X))) hw v hh,R]) (by simp) ?_
  exact Wa [[],vh b n gb hb sb vw (.slice none 0 0) (qb n gb cb d w tn++(ta cb n.c u++(hv++X))) hw v hh] rfl rfl ⟨_,_,ia.nil _,⟨_,BI.is⟩,rfl⟩
 |true=>
  rw[if_neg (by decide)];have Bk:qb n gb cb d w tn=yb gb cb d w true tn:=by rw[<-hu]
  show Ct _ _ _ _ (λr H'=>∃h1 h',ia 52 (({n with s:=n.s.sync}:va).Gh n.c.du n.c.st n.c.ak) r h1/\Mm ({n with s:=n.s.sync}:va).Ra b (T+8000) h'/\H'=[h1,h']);have hid:=Ea.Bm n.s
  have o2:Je n.s.sync.ch:=by
   have:=ok.cs;revert this;unfold va.c
   cases hs:n.s with
   |up l c t=>intro k;exact k.sync (by have:=ok.ob;unfold va.c at this;rw[hs] at this;exact this)
   |dn l c q=>intro k;exact k
  have Bh:=ok.iL hid ok.ok.sync o2;obtain⟨n1,yc⟩:∃n1:va,n1={n with s:=n.s.sync}:=⟨_,rfl⟩;have e1:Ba b n gb hb sb vw (.slice none 0 0)=Ba b n1 gb hb sb vw (.slice none 0 0):=by rw[yc];exact(n.cg hid ..).symm
  have p1:n1.hd=n.hd/\n1.rg=n.rg/\n1.dc=n.dc/\n1.rc=n.rc/\n1.ws=n.ws/\n1.s=n.s.sync:=by rw[yc];exact⟨rfl,hid.2.1,hid.1,rfl,rfl,rfl⟩
  obtain⟨p1,p2,p3,p4,p5,p6⟩:=p1;rw[<-yc] at Bh⊢;rw[<-p6] at Ws;have yq:ia 212 n1.ws vw hw:=by rw[p5];exact at_.ws
  refine ce func101 λg R=>?_;simp only[can];refine W.f0 [Ba b n gb hb sb vw Nh,qb n gb cb d w tn,ta cb n.c u,hv,X,hw,Ka hb n.rg v,hh,Sa sb n.dc n.rc,R] ?_;try refine ga ?_
  refine Wh (n.jc gb hb sb vw Nh) (n.jc gb hb sb vw (.slice none 0 0)) ?_;rw[Bk];try refine ga ?_
  rw[<-Bk];refine WX.h0 [Ba b n gb hb sb vw (.slice none 0 0),qb n gb cb d w tn,ta cb n.c u,hv,X,hw,Ka hb n.rg v,hh,Sa sb n.dc n.rc,R] ?_;refine ck Ws ?_;rintro _ _ ⟨rfl,l1,rfl,Pf⟩;have hm2:=Pf;obtain⟨Ya,d',w',uj,u',Lc,X',rfl,Nj⟩:=va.YK Pf;have kt:=mR n1 b gb hb sb (ia.nil 52) (by simp only[jd];omega) (cb:=Ya) (d:=d') (w:=w') (tn:=uj) Bh.ob Bh.cs Nj.rs Bh.wl Bh.wi yq n.c.du n.c.st n.c.ak;rw[nil_append] at kt;rw[e1];refine WX.f0 [qb n1 gb Ya d' w' uj,ta Ya n1.c u',Lc,X',Ba b n1 gb hb sb vw (.slice none 0 0),hw,Ka hb n.rg v,hh,Sa sb n.dc n.rc,R] ?_;try refine ga ?_
  refine WX.Ke ?_;refine ck kt ?_;rintro _ _ ⟨rfl,v2,h2,sx,Gu,Oa,fL,rfl⟩;refine vb ?_;refine D.Oe [h2,Ba b n1.Ra gb hb sb sx v2,qb n1 gb Ya d' w' uj,ta Ya n1.c u',Lc,X',Gu,Ka hb n.rg v,hh,Sa sb n.dc n.rc,R] (H2:=[h2,Ba b n1.Ra gb hb sb sx v2++((qb n1 gb Ya d' w' uj++(ta Ya n1.c u'++(Lc++X')))++(Gu++(Ka hb n.rg v++(hh++Sa sb n.dc n.rc)))),R]) (by simp) ?_;exact Wa [h2,Ba b n1.Ra gb hb sb sx v2++((qb n1 gb Ya d' w' uj++(ta Ya n1.c u'++(Lc++X')))++(Gu++(Ka hb n.rg v++(hh++Sa sb n.dc n.rc))))] rfl rfl ⟨_,_,Oa,⟨v2,Yo.of (n:=n) (n1:=n1.Ra) p1 p2 p3 p4 hm2 (by omega) fL at_.hd⟩,rfl⟩
theorem EG:Ct prog 115 [b] [h] (λr H'=>r= .tuple #[]/\∃h',Mm n.collect b T h'/\H'=[h']):=by
 obtain⟨Nh,gb,hb,sb,vw,hl,hw,v,hh,rfl,at_⟩:=hm;have hm0:=at_.lg;obtain⟨cb,d,w,tn,u,hv,X,rfl,Mf⟩:=va.YK at_.lg;have hst:=xo n b gb hb sb cb d w tn vw Nh u ok.ob ok.cs Mf.rs;have jg:=ok.ob.len;have uq:n.Ab.length<=1000000:=by unfold va.Ab;rw[Fe];omega
 have oQ:=Xn n.rg (wo n u ok.ob ok.cs Mf.rs) uq;unfold va.collect
 cases hu:n.s.Xa with
 |false=>
  rw[if_pos rfl];have Bk:qb n gb cb d w tn=yb gb cb d w false tn:=by rw[<-hu]
  refine ce func115 λg R=>?_;simp only[can];refine W.f0 [Ba b n gb hb sb vw Nh,qb n gb cb d w tn,ta cb n.c u,hv,X,hw,Ka hb n.rg v,hh,Sa sb n.dc n.rc,R] ?_;rw[Bk];try refine ga ?_
  rw[<-Bk];refine D.Oe [Ba b n gb hb sb vw Nh,qb n gb cb d w tn,ta cb n.c u,hv,X,hw,Ka hb n.rg v,hh,Sa sb n.dc n.rc,R] (H2:=[vh b n gb hb sb vw Nh (qb n gb cb d w tn++(ta cb n.c u++(hv++X))) hw v hh,R]) (by simp) ?_
  exact D.ai [vh b n gb hb sb vw Nh (qb n gb cb d w tn++(ta cb n.c u++(hv++X))) hw v hh] _ rfl ⟨rfl,_,⟨_,at_.is⟩,rfl⟩
 |true=>
  rw[if_neg (by decide)];have Bk:qb n gb cb d w tn=yb gb cb d w true tn:=by rw[<-hu]
  simp only[];generalize ic n.rg n.Ab=C at oQ⊢;refine ce func115 λg R=>?_;simp only[can];refine W.f0 [Ba b n gb hb sb vw Nh,qb n gb cb d w tn,ta cb n.c u,hv,X,hw,Ka hb n.rg v,hh,Sa sb n.dc n.rc,R] ?_;rw[Bk];try refine ga ?_
  rw[<-Bk];refine W.gi (α:=Nat) (λ_=>True) (λy=>[(0,b),(2,y)]) (λy=>[Ac y C,Ba b n gb hb sb vw Nh,qb n gb cb d w tn,ta cb n.c u,hv,X,hw,Ka hb n.rg v,hh,Sa sb n.dc n.rc,R]) ?_ ?_
  .refine w6 (ml [6,4]) [Ba b n gb hb sb vw Nh] ?_;repeat' first|refine ga ?_|refine al λ_=>?_|refine WY.Se ?_|refine WY.back ?_|refine Uk 0 ?_|refine Uk 1 ?_|refine Uk 2 ?_|refine Uk 3 ?_|refine Uk 4 ?_|refine Uk 5 ?_|refine WY.Ts 6 8 (by decide+kernel) rfl rfl ?_ ?_|refine WY.Ts 7 8 (by decide+kernel) rfl rfl ?_ ?_|refine uK 6 ?_|refine uK 7 ?_|refine uK 8 ?_|refine uK 9 ?_|refine WY.fin (by kernel_rfl) ?_|refine cq hst ?_|refine cq oQ ?_|refine nh V3.z.enc C.enc ?_
   all_goals exact D.aQ _ trivial
  rintro b2 -;try refine ga ?_
  refine W.loop (α:=Nat) (λk=>k<=3) (λk=>[(0,b),(2,b2),(3,.int .i64 (k:Int))])
   (λk=>[Ac b2 C,Ba b {n with mr:=Iu n.mr C k} gb hb sb vw Nh,qb n gb cb d w tn,ta cb n.c u,hv,X,hw,Ka hb n.rg v,hh,Sa sb n.dc n.rc,R]) (λk=>3 - k) 0 (Gi _) (by repeat(first|exact Ca.nil|refine Ca.cons rfl ?_)) (by show Ga _ [Ac b2 C,Ba b n gb hb sb vw Nh,qb n gb cb d w tn,ta cb n.c u,hv,X,hw,Ka hb n.rg v,hh,Sa sb n.dc n.rc,R];exact(Ga.qa inferInstance)) ?_
  intro k hk;by_cases hlt:k<3
  .obtain rfl|rfl|rfl:k=0\/k=1\/k=2:=by omega
   .try refine ga ?_
    refine Ns (ml [15]) [Ac b2 C,Ba b {n with mr:=Iu n.mr C 0} gb hb sb vw Nh] ?_;try refine ga ?_
    refine Wh (va.jc {n with mr:=Iu n.mr C 0} gb hb sb vw Nh) (va.jc {n with mr:=Iu n.mr C 1} gb hb sb vw Nh) ?_;try refine ga ?_
    exact D.rd 1 (by decide) (by decide)
   .try refine ga ?_
    refine Ns (ml [15]) [Ac b2 C,Ba b {n with mr:=Iu n.mr C 1} gb hb sb vw Nh] ?_;try refine ga ?_
    refine Wh (va.jc {n with mr:=Iu n.mr C 1} gb hb sb vw Nh) (va.jc {n with mr:=Iu n.mr C 2} gb hb sb vw Nh) ?_;try refine ga ?_
    exact D.rd 2 (by decide) (by decide)
   .try refine ga ?_
    refine Ns (ml [15]) [Ac b2 C,Ba b {n with mr:=Iu n.mr C 2} gb hb sb vw Nh] ?_;try refine ga ?_
    refine Wh (va.jc {n with mr:=Iu n.mr C 2} gb hb sb vw Nh) (va.jc {n with mr:=Iu n.mr C 3} gb hb sb vw Nh) ?_;try refine ga ?_
    exact D.rd 3 (by decide) (by decide)
  .obtain rfl:k=3:=by omega
   try refine ga ?_
   refine D.Oe [Ba b {n with mr:=Iu n.mr C 3} gb hb sb vw Nh,qb n gb cb d w tn,ta cb n.c u,hv,X,hw,Ka hb n.rg v,hh,Sa sb n.dc n.rc,R] (H2:=[Ba b {n with mr:=Iu n.mr C 3} gb hb sb vw Nh++((qb n gb cb d w tn++(ta cb n.c u++(hv++X)))++(hw++(Ka hb n.rg v++(hh++Sa sb n.dc n.rc)))),R]) (by simp) ?_;exact D.Bc [Ba b {n with mr:=Iu n.mr C 3} gb hb sb vw Nh++((qb n gb cb d w tn++(ta cb n.c u++(hv++X)))++(hw++(Ka hb n.rg v++(hh++Sa sb n.dc n.rc))))] _ rfl ⟨rfl,_,⟨Nh,Nq.is (n:={n with mr:=Iu n.mr C 3}) (gb:=gb) (hb:=hb) (sb:=sb) ⟨at_.lg,at_.ws,at_.hd⟩⟩,rfl⟩
end
section
variable{n:va}{b:Nat}{h:Hp}{T:Int}(hm:Mm n b T h){N:Int}(ok:ef n N)(hN:N+16<=1099511627776)(Mi:0<=T)(hT:T+8000<=68719476736)
include hm ok hN Mi hT
theorem FO:Ct prog 100 [b] [h] (λr H'=>∃h1 h',ia 52 n.tick.2 r h1/\Mm n.tick.1 b (T+8000) h'/\H'=[h1,h']):=by
 obtain⟨Nh,gb,hb,sb,vw,hl,hw,v,hh,rfl,at_⟩:=hm;have BI:=at_.mono (T':=T+8000) (by omega);have hmI:=at_.lg;obtain⟨cb,B6⟩:=hmI;have B6:Vq n.s gb cb T hl:=B6;have hm0:=B6;obtain⟨d,w,tn,u,hv,X,rfl,Mf⟩:=va.MM B6;unfold va.tick
 cases hu:n.s.Xa with
 |false=>
  rw[if_pos rfl];have Bk:qb n gb cb d w tn=yb gb cb d w false tn:=by rw[<-hu]
  refine ce func100 λg R=>?_;simp only[can];refine W.f0 [Ba b n gb hb sb vw Nh,qb n gb cb d w tn,ta cb n.c u,hv,X,hw,Ka hb n.rg v,hh,Sa sb n.dc n.rc,R] ?_;try refine ga ?_
  refine Wh (n.jc gb hb sb vw Nh) (n.jc gb hb sb vw (.slice none 0 0)) ?_;rw[Bk];try refine ga ?_
  rw[<-Bk];refine D.Oe [Ba b n gb hb sb vw (.slice none 0 0),qb n gb cb d w tn,ta cb n.c u,hv,X,hw,Ka hb n.rg v,hh,Sa sb n.dc n.rc,R] (H2:=[[],vh b n gb hb sb vw (.slice none 0 0) (qb n gb cb d w tn++(ta cb n.c u++(hv++X))) hw v hh,R]) (by simp) ?_
  exact Wa [[],vh b n gb hb sb vw (.slice none 0 0) (qb n gb cb d w tn++(ta cb n.c u++(hv++X))) hw v hh] rfl rfl ⟨_,_,ia.nil _,⟨_,BI.is⟩,rfl⟩
 |true=>
  rw[if_neg (by decide)];have Bk:qb n gb cb d w tn=yb gb cb d w true tn:=by rw[<-hu]
  have k1:=Gr n b gb hb sb vw (.slice none 0 0);have k2:=uh n b gb hb sb vw (ia.nil 52) (by simp only[jd];omega) {Da.z with kind:=10,to:=n.Cc,ep:=n.ep};rw[nil_append] at k2;have k4:=λvo=>OM n b gb hb sb vw vo N T ok.toVh ok.cs hN Mi (by omega) hm0 at_.hd;have bg:=ok.pull hN;obtain⟨r1,r2,r3,r4,r5,r6,r7,r8⟩:=n.Dd;have yq:ia 212 n.pull.ws vw hw:=by rw[r4];exact at_.ws
  unfold va.ez;try simp only[]
  generalize hh0:({n.out 10 n.Cc with ep:=n.ep}:Da)=Wi;have k2:Ct prog 174 [b,.agg (List.toArray (Da.enc {Da.z with kind:=10,to:=n.Cc,ep:=n.ep}))] [Ba b n gb hb sb vw (.slice none 0 0),[]] (Py b n gb hb sb vw [Wi] []):=by rw[<-hh0];exact k2
  generalize n.pull=m at k4 bg r1 r2 r3 r5 r6 r7 yq⊢;refine ce func100 λg R=>?_;simp only[can];refine W.f0 [Ba b n gb hb sb vw Nh,qb n gb cb d w tn,ta cb n.c u,hv,X,hw,Ka hb n.rg v,hh,Sa sb n.dc n.rc,R] ?_;try refine ga ?_
  refine Wh (n.jc gb hb sb vw Nh) (n.jc gb hb sb vw (.slice none 0 0)) ?_;rw[Bk];try refine ga ?_
  rw[<-Bk];refine Ns (ml [2,1,6]) [Ba b n gb hb sb vw (.slice none 0 0),ta cb n.c u] ?_;repeat' first|refine ga ?_|refine cq k1 ?_|refine Vf (Da.enc {Da.z with kind:=10,to:=n.Cc,ep:=n.ep}) ?_
  refine WX.Ke ?_;refine ck k2 ?_;rintro _ _ ⟨rfl,v1,h1,hs1,rfl⟩;refine vb ?_;refine ck (k4 v1) ?_;rintro _ _ ⟨rfl,l1,v2,Tt,rfl,Ji,DU⟩;have hm2:=Ji;obtain⟨d',w',uj,u',Lc,X',rfl,Nj⟩:=va.MM Ji;have oc:=bg.ob;rw[<-r6,<-r5,<-r7,<-r1,<-r2];refine WX.f0 [Ba b m gb hb sb vw v1,qb m gb cb d' w' uj,ta cb m.c u',Lc,X',Ka hb m.rg v2,Tt,h1,hw,Sa sb m.dc m.rc,R] ?_;have a1:=Xu m b gb hb sb vw hs1 (by simp only[Gb,jd];omega) (cb:=cb) (d:=d') (w:=w') (tn:=uj) (v:=u') oc;have g1:=m.Kg;have g2:=m.Pj;have g3:=m.Cg;try refine ga ?_
  refine ck a1 ?_;rintro _ _ ⟨rfl,v3,h3,Fc,rfl⟩;have a2:=Aw m b gb hb sb vw Fc (by simp only[Gb,jd,Cb];omega) (cb:=cb) (d:=d') (w:=w') (tn:=uj) (v:=u') oc Nj.rs bg.cs;refine vb ?_;refine ck a2 ?_;rintro _ _ ⟨rfl,v4,h4,hs4,rfl⟩;have a3:=Qt m b gb hb sb vw hs4 (by simp only[Gb,jd,Cb];omega) (cb:=cb) (d:=d') (w:=w') (tn:=uj) (v:=u') oc;refine vb ?_;refine ck a3 ?_;rintro _ _ ⟨rfl,v5,h5,hs5,rfl⟩;simp only[can];obtain⟨B,hB⟩:∃B,[Wi]++m.Jd++m.Cj++m.ve=B:=⟨_,rfl⟩;have hBl:B.length<=10:=by rw[<-hB];simp only[Gb,jd,Cb];omega
  rw[hB] at hs5;have hsp:∀l:List Da,Wi::(m.Jd++(m.Cj++(m.ve++l)))=B++l:=λl=>by rw[<-hB];simp
  rw[hsp];have a4:=sk oc.co cb u';obtain⟨su,hsu⟩:∃su,m.c.su=su:=⟨_,rfl⟩;have hs:m.sure=(decide m.c.last && su):=by unfold va.sure;rw[hsu]
  cases hq:m.sure with
  |false=>
   rw[if_pos rfl,append_nil];by_cases cl:m.c.last
   .rw[Fi cl] at a4;rw[hq,Fi cl,Bool.true_and] at hs;subst hs;repeat' first|refine ga ?_|refine cq a4 ?_
    refine W.as 54 (.bool true) rfl (by rw[hsu];rfl) ?_;try refine ga ?_
    refine D.Oe [h5,Ba b m gb hb sb vw v5,qb m gb cb d' w' uj,ta cb m.c u',Lc,X',hw,Ka hb m.rg v2,Tt,Sa sb m.dc m.rc,R] (H2:=[h5,Ba b m gb hb sb vw v5++((qb m gb cb d' w' uj++(ta cb m.c u'++(Lc++X')))++(hw++(Ka hb m.rg v2++(Tt++Sa sb m.dc m.rc)))),R]) (by simp) ?_;exact Wa [h5,Ba b m gb hb sb vw v5++((qb m gb cb d' w' uj++(ta cb m.c u'++(Lc++X')))++(hw++(Ka hb m.rg v2++(Tt++Sa sb m.dc m.rc))))] rfl rfl ⟨_,_,hs5,⟨v5,Nq.is (n:=m) (gb:=gb) (hb:=hb) (sb:=sb) ⟨Zf.mono ⟨cb,hm2⟩ (by omega),yq,DU⟩⟩,rfl⟩
   .rw[gj cl] at a4;repeat' first|refine ga ?_|refine cq a4 ?_
    refine D.Oe [h5,Ba b m gb hb sb vw v5,qb m gb cb d' w' uj,ta cb m.c u',Lc,X',hw,Ka hb m.rg v2,Tt,Sa sb m.dc m.rc,R] (H2:=[h5,Ba b m gb hb sb vw v5++((qb m gb cb d' w' uj++(ta cb m.c u'++(Lc++X')))++(hw++(Ka hb m.rg v2++(Tt++Sa sb m.dc m.rc)))),R]) (by simp) ?_
    exact Wa [h5,Ba b m gb hb sb vw v5++((qb m gb cb d' w' uj++(ta cb m.c u'++(Lc++X')))++(hw++(Ka hb m.rg v2++(Tt++Sa sb m.dc m.rc))))] rfl rfl ⟨_,_,hs5,⟨v5,Nq.is (n:=m) (gb:=gb) (hb:=hb) (sb:=sb) ⟨Zf.mono ⟨cb,hm2⟩ (by omega),yq,DU⟩⟩,rfl⟩
  |true=>
   rw[if_neg (by decide)];rw[hq] at hs
   have cl:m.c.last:=of_decide_eq_true (by cases hx:decide m.c.last with
    |true=>rfl
    |false=>rw[hx] at hs;cases hs)
   rw[Fi cl] at a4 hs;rw[Bool.true_and] at hs;subst hs;repeat' first|refine ga ?_|refine cq a4 ?_
   refine W.as 54 (.bool false) rfl (by rw[hsu];rfl) ?_;try refine ga ?_
   have jg:=oc.len;have uq:m.Ab.length<=1000000:=by unfold va.Ab;rw[Fe];omega
   have a5:=xo m b gb hb sb cb d' w' uj vw v5 u' oc bg.cs Nj.rs;have a6:=Xn m.rg (wo m u' oc bg.cs Nj.rs) uq;generalize ic m.rg m.Ab=C at a6⊢;refine W.gi (α:=Nat) (λ_=>True) (λy=>[(0,b),(4,y)]) (λy=>[Ac y C,Ba b m gb hb sb vw v5,h5,qb m gb cb d' w' uj,ta cb m.c u',Lc,X',Ka hb m.rg v2,Tt,hw,Sa sb m.dc m.rc,R]) ?_ ?_
   .refine w6 (ml [6,4]) [Ba b m gb hb sb vw v5] ?_;repeat' first|refine ga ?_|refine al λ_=>?_|refine WY.Se ?_|refine WY.back ?_|refine Uk 0 ?_|refine Uk 1 ?_|refine Uk 2 ?_|refine Uk 3 ?_|refine Uk 4 ?_|refine Uk 5 ?_|refine WY.Ts 6 8 (by decide+kernel) rfl rfl ?_ ?_|refine WY.Ts 7 8 (by decide+kernel) rfl rfl ?_ ?_|refine uK 6 ?_|refine uK 7 ?_|refine uK 8 ?_|refine uK 9 ?_|refine WY.fin (by kernel_rfl) ?_|refine cq a5 ?_|refine cq a6 ?_|refine nh V3.z.enc C.enc ?_
    all_goals exact D.aQ _ trivial
   rintro b4 -;obtain⟨D1,I7⟩:∃D1:Nat,m.fc=(D1:Int):=⟨m.fc.toNat,by have:=bg.dd;omega⟩;obtain⟨E1,J7⟩:∃E1:Nat,m.rn=(E1:Int):=⟨m.rn.toNat,by have:=bg.rr;omega⟩;obtain⟨M1,hM1⟩:∃M1:Nat,m.nn=(M1:Int):=⟨m.nn.toNat,by have:=bg.nn;omega⟩;have hD2:D1<=100:=by have:=bg.dd;omega
   have hE2:E1<=100:=by have:=bg.rr;omega
   have hM2:M1<=100:=by have:=bg.nn;omega
   have mh:∀kind x r,(m.Jh kind x r C).length<=100:=λkind x r=>by unfold va.Jh;rw[We,length_range];omega
   have hsh:∀x,(m.Qf x).length<=100:=λx=>va.gv (by omega) x;obtain⟨f1,dY⟩:∃f1:Nat->List Da,f1=λ(x:Nat)=>if(x:Int)=m.dc then[] else m.Qf (x:Int)++m.Jh 13 (x:Int) m.rg C:=⟨_,rfl⟩
   obtain⟨f2,EU⟩:∃f2:Nat->List Da,f2=λ(r:Nat)=>if(r:Int)=m.rg then[] else m.Jh 14 m.dc (r:Int) C:=⟨_,rfl⟩
   have hfl:∀(f:Nat->List Da) (k:Nat),((List.range (k+1)).map f).flatten=((List.range k).map f).flatten++f k:=λf k=>by rw[range_succ,Ae,flatten_append];simp
   have qx:∀kind x r,m.Jh kind x r C=(List.range M1).map λ(i:Nat)=>{({Da.z with kind:=kind,to:=⟨1,x,r,(i:Int)⟩,c0:=C.a,c1:=C.b,c2:=C.c}:Da) with fr:=m.self}:=λkind x r=>by unfold va.Jh;rw[hM1,Int.toNat_natCast];rfl
   try refine ga ?_
   refine W.lo (α:=Nat×Value×Hp) (λy=>y.1<=D1/\(B++((List.range y.1).map f1).flatten).length<=10+200*y.1/\ia 52 (B++((List.range y.1).map f1).flatten) y.2.1 y.2.2)
    (λy=>[(0,b),(4,b4),(5,.int .i64 (y.1:Int))])
    (λy=>[Ac b4 C,Ba b m gb hb sb vw y.2.1,y.2.2,qb m gb cb d' w' uj,ta cb m.c u',Lc,X',Ka hb m.rg v2,Tt,hw,Sa sb m.dc m.rc,R]) (λy=>D1 - y.1) (0,v5,h5) ⟨Gi _,by simp only[range_zero,map_nil,flatten_nil,append_nil];omega,by simp only[range_zero,map_nil,flatten_nil,append_nil];exact hs5⟩ ?_
   rintro⟨k,v6,h6⟩ ⟨hk,eY,Zo⟩;simp only[] at hk eY Zo⊢;have e1:=hfl f1 k;have e2:f1 k=if(k:Int)=m.dc then[] else m.Qf (k:Int)++m.Jh 13 (k:Int) m.rg C:=by rw[dY]
   by_cases hlt:k<D1
   .have hlt':(k:Int)<m.fc:=by omega
    have g1:=hsh (k:Int);have g2:=mh 13 (k:Int) m.rg;generalize hacc:B++((List.range k).map f1).flatten=acc at eY Zo;by_cases hx:(k:Int)=m.dc
    .rw[if_pos hx] at e2;have e3:B++((List.range (k+1)).map f1).flatten=acc:=by rw[e1,e2,append_nil,hacc]
     try refine ga ?_
     exact D.rd (k+1,v6,h6) ⟨by simp only[];omega,by simp only[];rw[e3];omega,by simp only[];rw[e3];exact Zo⟩ (by simp only[];omega)
    .rw[if_neg hx] at e2;have e3:B++((List.range (k+1)).map f1).flatten=(acc++m.Qf (k:Int))++m.Jh 13 (k:Int) m.rg C:=by rw[e1,e2,<-Oc,<-Oc,hacc]
     have a7:=tF m b gb hb sb cb d' w' uj vw v6 u' oc bg.cs Nj.rs bg.nn Zo (by omega) (k:Int);try refine ga ?_
     refine ck a7 ?_;rintro _ _ ⟨rfl,v7,h7,Cn,rfl⟩;simp only[can];have rV:(acc++m.Qf (k:Int)).length<=10+200*k+100:=by rw[Cb];omega
     generalize acc++m.Qf (k:Int)=sV at Cn rV e3;rw[qx] at e3;try refine ga ?_
     refine W.lo (α:=Nat×Value×Hp) (λy=>y.1<=M1/\ia 52 (sV++(List.range y.1).map λ(ii:Nat)=>{({Da.z with kind:=13,to:=⟨1,(k:Int),m.rg,(ii:Int)⟩,c0:=C.a,c1:=C.b,c2:=C.c}:Da) with fr:=m.self}) y.2.1 y.2.2)
      (λy=>[(0,b),(4,b4),(5,.int .i64 (k:Int)),(6,.int .i64 (y.1:Int))])
      (λy=>[Ac b4 C,Ba b m gb hb sb vw y.2.1,y.2.2,qb m gb cb d' w' uj,ta cb m.c u',Lc,X',Ka hb m.rg v2,Tt,hw,Sa sb m.dc m.rc,R]) (λy=>M1 - y.1) (0,v7,h7) ⟨Gi _,by simp only[range_zero,map_nil,append_nil];assumption⟩ ?_
     rintro⟨j,v8,h8⟩ ⟨hj,Mq⟩;simp only[] at hj Mq⊢;by_cases hlj:j<M1
     .have K7:(j:Int)<m.nn:=by omega
      have hn:=Ak (λ(ii:Nat)=>({({Da.z with kind:=13,to:=⟨1,(k:Int),m.rg,(ii:Int)⟩,c0:=C.a,c1:=C.b,c2:=C.c}:Da) with fr:=m.self}:Da)) hlj;have ZA:=uh m b gb hb sb vw Mq (by rw[Cb,We,length_range];omega) {Da.z with kind:=13,to:=⟨1,(k:Int),m.rg,(j:Int)⟩,c0:=C.a,c1:=C.b,c2:=C.c};rw[Oc,<-hn] at ZA;try refine ga ?_
      refine Ns (ml [11]) [Ac b4 C,Ba b m gb hb sb vw v8] ?_;repeat' first|refine ga ?_|refine yj C.enc ?_|refine Vf (t:=35) (Bl.enc ⟨1,(k:Int),m.rg,(j:Int)⟩) ?_|refine Vf (t:=52) (Da.enc {Da.z with kind:=13,to:=⟨1,(k:Int),m.rg,(j:Int)⟩,c0:=C.a,c1:=C.b,c2:=C.c}) ?_
      refine ck ZA ?_;rintro _ _ ⟨rfl,v9,h9,Wo,rfl⟩;refine vb ?_;exact D.rd (j+1,v9,h9) ⟨by simp only[];omega,Wo⟩ (by simp only[];omega)
     .obtain rfl:j=M1:=by omega
      have UU: ¬(j:Int)<m.nn:=by omega
      rw[<-e3] at Mq;try refine ga ?_
      exact D.rd (k+1,v8,h8) ⟨by simp only[];omega,by simp only[];rw[e3,Cb,We,length_range];omega,Mq⟩ (by simp only[];omega)
   .obtain rfl:k=D1:=by omega
    have hlt': ¬(k:Int)<m.fc:=by omega
    generalize L7:B++((List.range k).map f1).flatten=B2 at eY Zo;try refine ga ?_
    refine W.lo (α:=Nat×Value×Hp) (λy=>y.1<=E1/\(B2++((List.range y.1).map f2).flatten).length<=20010+100*y.1/\ia 52 (B2++((List.range y.1).map f2).flatten) y.2.1 y.2.2)
     (λy=>[(0,b),(4,b4),(7,.int .i64 (y.1:Int))])
     (λy=>[Ac b4 C,Ba b m gb hb sb vw y.2.1,y.2.2,qb m gb cb d' w' uj,ta cb m.c u',Lc,X',Ka hb m.rg v2,Tt,hw,Sa sb m.dc m.rc,R]) (λy=>E1 - y.1) (0,v6,h6) ⟨Gi _,by simp only[range_zero,map_nil,flatten_nil,append_nil];omega,by simp only[range_zero,map_nil,flatten_nil,append_nil];exact Zo⟩ ?_
    rintro⟨i,v7,h7⟩ ⟨hi,rV,Cn⟩;simp only[] at hi rV Cn⊢;have e1:=hfl f2 i;have e2:f2 i=if(i:Int)=m.rg then[] else m.Jh 14 m.dc (i:Int) C:=by rw[EU]
    by_cases hli:i<E1
    .have M7:(i:Int)<m.rn:=by omega
     have g2:=mh 14 m.dc (i:Int);generalize hacc:B2++((List.range i).map f2).flatten=acc at rV Cn;by_cases hx:(i:Int)=m.rg
     .have hxx: ¬ ¬(i:Int)=m.rg:=not_not_intro hx;rw[if_pos hx] at e2;have e3:B2++((List.range (i+1)).map f2).flatten=acc:=by rw[e1,e2,append_nil,hacc]
      try refine ga ?_
      refine W.lo (α:=Nat) (λk=>k=0) (λk=>[(0,b),(4,b4),(7,.int .i64 (i:Int)),(8,.int .i64 0)])
       (λ_=>[Ac b4 C,Ba b m gb hb sb vw v7,h7,qb m gb cb d' w' uj,ta cb m.c u',Lc,X',Ka hb m.rg v2,Tt,hw,Sa sb m.dc m.rc,R]) (λk=>1 - k) 0 rfl ?_
      rintro k0 rfl;by_cases hz:0<m.nn
      all_goals
       try refine ga ?_
       exact D.rd (i+1,v7,h7) ⟨by simp only[];omega,by simp only[];rw[e3];omega,by simp only[];rw[e3];exact Cn⟩ (by simp only[];omega)
     .rw[if_neg hx] at e2;have e3:B2++((List.range (i+1)).map f2).flatten=acc++m.Jh 14 m.dc (i:Int) C:=by rw[e1,e2,<-Oc,hacc]
      rw[qx] at e3;generalize acc=sV at Cn rV e3;have rV:sV.length<=100000:=by omega
      try refine ga ?_
      refine W.lo (α:=Nat×Value×Hp) (λy=>y.1<=M1/\ia 52 (sV++(List.range y.1).map λ(ii:Nat)=>{({Da.z with kind:=14,to:=⟨1,m.dc,(i:Int),(ii:Int)⟩,c0:=C.a,c1:=C.b,c2:=C.c}:Da) with fr:=m.self}) y.2.1 y.2.2)
       (λy=>[(0,b),(4,b4),(7,.int .i64 (i:Int)),(8,.int .i64 (y.1:Int))])
       (λy=>[Ac b4 C,Ba b m gb hb sb vw y.2.1,y.2.2,qb m gb cb d' w' uj,ta cb m.c u',Lc,X',Ka hb m.rg v2,Tt,hw,Sa sb m.dc m.rc,R]) (λy=>M1 - y.1) (0,v7,h7) ⟨Gi _,by simp only[range_zero,map_nil,append_nil];assumption⟩ ?_
      rintro⟨j,v8,h8⟩ ⟨hj,Mq⟩;simp only[] at hj Mq⊢;by_cases hlj:j<M1
      .have K7:(j:Int)<m.nn:=by omega
       have hn:=Ak (λ(ii:Nat)=>({({Da.z with kind:=14,to:=⟨1,m.dc,(i:Int),(ii:Int)⟩,c0:=C.a,c1:=C.b,c2:=C.c}:Da) with fr:=m.self}:Da)) hlj;have ZA:=uh m b gb hb sb vw Mq (by rw[Cb,We,length_range];omega) {Da.z with kind:=14,to:=⟨1,m.dc,(i:Int),(j:Int)⟩,c0:=C.a,c1:=C.b,c2:=C.c};rw[Oc,<-hn] at ZA;try refine ga ?_
       refine Ns (ml [11]) [Ac b4 C,Ba b m gb hb sb vw v8] ?_;repeat' first|refine ga ?_|refine yj C.enc ?_|refine Vf (t:=35) (Bl.enc ⟨1,m.dc,(i:Int),(j:Int)⟩) ?_|refine Vf (t:=52) (Da.enc {Da.z with kind:=14,to:=⟨1,m.dc,(i:Int),(j:Int)⟩,c0:=C.a,c1:=C.b,c2:=C.c}) ?_
       refine ck ZA ?_;rintro _ _ ⟨rfl,v9,h9,Wo,rfl⟩;refine vb ?_;exact D.rd (j+1,v9,h9) ⟨by simp only[];omega,Wo⟩ (by simp only[];omega)
      .obtain rfl:j=M1:=by omega
       have UU: ¬(j:Int)<m.nn:=by omega
       rw[<-e3] at Mq;try refine ga ?_
       exact D.rd (i+1,v8,h8) ⟨by simp only[];omega,by simp only[];rw[e3,Cb,We,length_range];omega,Mq⟩ (by simp only[];omega)
    .obtain rfl:i=E1:=by omega
     have M7: ¬(i:Int)<m.rn:=by omega
     try refine ga ?_
     rw[I7,J7,Int.toNat_natCast,Int.toNat_natCast,<-dY,<-EU,<-Oc,L7];refine D.Oe [h7,Ba b m gb hb sb vw v7,qb m gb cb d' w' uj,ta cb m.c u',Lc,X',hw,Ka hb m.rg v2,Tt,Sa sb m.dc m.rc,R] (H2:=[h7,Ba b m gb hb sb vw v7++((qb m gb cb d' w' uj++(ta cb m.c u'++(Lc++X')))++(hw++(Ka hb m.rg v2++(Tt++Sa sb m.dc m.rc)))),R]) (by simp) ?_;exact Wa [h7,Ba b m gb hb sb vw v7++((qb m gb cb d' w' uj++(ta cb m.c u'++(Lc++X')))++(hw++(Ka hb m.rg v2++(Tt++Sa sb m.dc m.rc))))] rfl rfl ⟨_,_,Cn,⟨v7,Nq.is (n:=m) (gb:=gb) (hb:=hb) (sb:=sb) ⟨Zf.mono ⟨cb,hm2⟩ (by omega),yq,DU⟩⟩,rfl⟩
end
def Ir{s:Ea}{N:Int}(ok:s.ok N):∃s',s'.ok N/\qi s s'/\(∀{b:Nat} {h:Hp},og s b h->Ct prog 19 [b] [h] (λr H'=>r= .tuple #[]/\∃h',H'=[h']/\og s' b h'))/\
  ∀{b:Nat} {h:Hp} {T:Int},Zf s b T h->Ct prog 199 [b] [h] (λr H'=>r= .tuple #[]/\∃h',H'=[h']/\Zf s' b T h'):=by
 cases s with
 |up l c t=>
  refine⟨.up l c t,ok,rfl,λ{b h} hm=>?_,λ{b h T} hm=>?_⟩
  .exact(hm.still λcb d w=>jL b cb c.dc c.rg c.nd d w).mono λr H' ⟨h1,h2⟩=>⟨h1,h,h2,hm⟩
  .exact(hm.still λcb d w tn=>EI b cb d w tn).mono λr H' ⟨h1,h2⟩=>⟨h1,h,h2,hm⟩
 |dn l c q=>
  have lg:tV l:=ok.lg;obtain⟨l',t',ux,⟨hf,h1,h2,h3,h4,h5⟩,hp,hq⟩:=kL lg.ok q;have hst:qi (.dn l c q) (.up l' (c.again (Ta l')) t'):=⟨l',t',rfl,ux,hf,h1,h2,h3,h4,h5⟩;refine⟨_,hst.ok ok,hst,λ{b h} hm=>?_,λ{b h T} hm=>?_⟩
  .obtain⟨cb,d,w,v,hv,seg,t,hd,rfl,at_⟩:=hm;obtain⟨rfl,rfl⟩:=at_.nv rfl;have hdk:Od ⟨oe l q,[]⟩ d hd:=at_.dk;have hid:=FI c (Ta l')
   have h0:=(mL b cb c.dc c.rg c.nd (w:=w) (hp hdk) (TM ux) (lg.sub h3)).frame (F:=[oa cb (CS.new c.dc c.rg c.nd) (.slice none 0 0),qf w d seg t])
    (post':=λr H'=>r= .tuple #[]/\∃Ya w' hd' v hv,H'=[Jb b Ya c.dc c.rg c.nd d w' true,oa Ya (c.again (Ta l')) v,hv,qf w' d (ua l') t',hd']++[oa cb (CS.new c.dc c.rg c.nd) (.slice none 0 0),qf w d seg t]/\ia 49 (c.again (Ta l')).lg v hv/\Od (dk l') d hd') λr H' ⟨e1,Ya,w',hd',v',Lc,e2,e3,e4⟩=>⟨e1,Ya,w',hd',v',Lc,by rw[e2];rfl,e3,e4⟩
   have h1:=h0.perm (pre':=[Jb b cb c.dc c.rg c.nd d w false,oa cb (CS.new c.dc c.rg c.nd) (.slice none 0 0),qf w d seg t,hd]) (List.Perm.flatten (.cons _ (perm_append_comm (l₁:=[hd]) (l₂:=[oa cb (CS.new c.dc c.rg c.nd) (.slice none 0 0),qf w d seg t]))));refine h1.pI (by simp[Ea.c0,Ea.ch,Ea.Xa]) λr H' ⟨e1,Ya,w',hd',v',Lc,e2,e3,e4⟩=>?_;subst e2;refine⟨[Jb b Ya (c.again (Ta l')).dc (c.again (Ta l')).rg (c.again (Ta l')).nd d w' true++(oa Ya (c.again (Ta l')) v'++(Lc++(qf w' d (ua l') t'++hd')))],oa cb (CS.new c.dc c.rg c.nd) (.slice none 0 0)++qf w d seg t,?_,e1,_,rfl,Ya,d,w',v',Lc,ua l',t',hd',rfl,⟨e3,e4,λ_=>rfl,λl'' c'' t'' e=>(by cases e;rfl),λe=>(by cases e)⟩⟩;rw[hid.1,hid.2.1,hid.2.2];simp
  .obtain⟨cb,d,w,v,hv,seg,t,tn,hd,rfl,at_⟩:=hm;obtain⟨rfl,rfl⟩:=at_.nv rfl;obtain⟨t0,k0,k1,hdk⟩:=(show ∃t,0<=t/\t<=T/\pg (((oe l q).map fq).map Ub.pl) t d hd from at_.dk)
   have h0:=(GI b cb c (w:=w) (tn:=tn) (hq k0 k1 hdk) (TM ux) (lg.sub h3)).frame (F:=[ff w d seg t])
    (post':=λr H'=>r= .tuple #[]/\∃Ya w' hd' uj v hv,H'=[yb b Ya d w' true uj,ta Ya (c.again (Ta l')) v,hv,ff w' d (ua l') t',hd']++[ff w d seg t]/\ia 49 (c.again (Ta l')).lg v hv/\RD l' d hd' T) λr H' ⟨e1,Ya,w',hd',uj,v',Lc,e2,e3,e4⟩=>⟨e1,Ya,w',hd',uj,v',Lc,by rw[e2];rfl,e3,e4⟩
   have h1:=h0.perm (pre':=[yb b cb d w false tn,ta cb (CS.new c.dc c.rg c.nd) (.slice none 0 0),ff w d seg t,hd]) (List.Perm.flatten (.cons _ (.cons _ (perm_append_comm (l₁:=[hd]) (l₂:=[ff w d seg t])))));refine h1.pI (by simp[Ea.c0,Ea.ch,Ea.Xa]) λr H' ⟨e1,Ya,w',hd',uj,v',Lc,e2,e3,e4⟩=>?_;subst e2;exact⟨[yb b Ya d w' true uj++(ta Ya (c.again (Ta l')) v'++(Lc++(ff w' d (ua l') t'++hd')))],ff w d seg t,by simp,e1,_,rfl,Ya,d,w',v',Lc,ua l',t',uj,hd',rfl,⟨e3,e4,λ_=>rfl,λe=>(by cases e)⟩⟩
def uV(a b c e:Int):Bool:=decide ((1<=a/\a<=3)/\(1<=b/\b<=3)/\(1<=c/\c<=4)/\(1<=e/\e<=4))
def HI(a b c e:Int):Ct prog 53 [.agg (List.toArray [a,b,c,e])] [] (λv H'=>v= .bool (uV a b c e)/\H'=[]):=by
 unfold uV;by_cases h1:1<=a
 .by_cases h2:a<=3
  .by_cases h3:1<=b
   .by_cases h4:b<=3
    .by_cases h5:1<=c
     .by_cases h6:c<=4
      .by_cases h7:1<=e
       .refine ce func53 λg R=>?_;repeat' first|refine rn ?_|refine Ud λ_=>?_
        exact Wa [] rfl rfl ⟨by simp[h1,h2,h3,h4,h5,h6,h7],rfl⟩
       .refine ce func53 λg R=>?_;repeat' first|refine rn ?_|refine Ud λ_=>?_
        exact Wa [] rfl rfl ⟨by simp[h7],rfl⟩
      .refine ce func53 λg R=>?_;repeat' first|refine rn ?_|refine Ud λ_=>?_
       exact Wa [] rfl rfl ⟨by simp[h6],rfl⟩
     .refine ce func53 λg R=>?_;repeat' first|refine rn ?_|refine Ud λ_=>?_
      exact Wa [] rfl rfl ⟨by simp[h5],rfl⟩
    .refine ce func53 λg R=>?_;repeat' first|refine rn ?_|refine Ud λ_=>?_
     exact Wa [] rfl rfl ⟨by simp[h4],rfl⟩
   .refine ce func53 λg R=>?_;repeat' first|refine rn ?_|refine Ud λ_=>?_
    exact Wa [] rfl rfl ⟨by simp[h3],rfl⟩
  .refine ce func53 λg R=>?_;repeat' first|refine rn ?_|refine Ud λ_=>?_
   exact Wa [] rfl rfl ⟨by simp[h2],rfl⟩
 .refine ce func53 λg R=>?_;repeat' first|refine rn ?_|refine Ud λ_=>?_
  exact Wa [] rfl rfl ⟨by simp[h1],rfl⟩
def II{n:Nat}(h1:1<=n)(h4:n<=4):Ct prog 56 [.int .i64 (n:Int)] [] (λr H'=>r=eX (some (Ic n))/\H'=[]):=by
 have hz:Va.enc (Ek n 0)=Va.enc ⟨1,(n:Int),Mem.z,Mem.z,Mem.z,Mem.z,false,Mem.z⟩:=rfl;refine ce func56 λg R=>?_;repeat' first|refine rn ?_|refine al λ_=>?_
 rename_i b2 b4;refine W.flat (H':=[Mc b4 (Ek n 0),Mc b2 Va.z,R]) rfl ?_;refine W.lo (α:=Nat) (λk=>k<=n) (λk=>[(0,.int .i64 (n:Int)),(2,b2),(3,.bool false),(4,b4),(5,.int .i64 (k:Int))]) (λk=>[Mc b4 (Ek n k),Mc b2 Va.z,R]) (λk=>n - k) 0 (Gi _) ?_;intro k hk;by_cases hlt:k<n
 .rcases(by omega:k=0\/k=1\/k=2\/k=3) with rfl|rfl|rfl|rfl
  .try refine run ?_
   refine D.flat (H':=[Mc b4 (Ek n (0+1)),Mc b2 Va.z,R]) rfl ?_;exact D.re (0+1)
  .try refine run ?_
   refine D.flat (H':=[Mc b4 (Ek n (1+1)),Mc b2 Va.z,R]) rfl ?_;exact D.re (1+1)
  .try refine run ?_
   refine D.flat (H':=[Mc b4 (Ek n (2+1)),Mc b2 Va.z,R]) rfl ?_;exact D.re (2+1)
  .try refine run ?_
   refine D.flat (H':=[Mc b4 (Ek n (3+1)),Mc b2 Va.z,R]) rfl ?_;exact D.re (3+1)
 .obtain rfl:k=n:=by omega
  rw[uF h1 h4];try refine run ?_
  exact D.yg [] _ rfl (.Ua rfl rfl (.tmp rfl .nil)) rfl ⟨rfl,rfl⟩
def va.ri(n:va)(gp vw hp sp vo:Value):List Value:=
 [.int .i64 n.fc,.int .i64 n.rn,.int .i64 n.nn,.int .i64 n.cl,.int .i64 1,.int .i64 n.dc,.int .i64 n.rg,.int .i64 n.nd,gp,vw,hp,sp]++(n.kn.enc++(n.mr.enc++[vo]))
abbrev JI(b:Nat)(n:va)(gp vw hp sp vo:Value):Hp:=[(b,.cells (List.toArray (n.ri gp vw hp sp vo)) 112 (0,0))]
def vF(n:va)(b:Nat)(gp vw hp sp vo:Value):Ct prog 55 [.pointer (some ⟨b,0,none⟩)] [JI b n gp vw hp sp vo]
  (λr H'=>r= .tuple #[]/\∃hb sb,H'=[JI b n.lost gp (.slice none 0 0) (.pointer (some ⟨hb,0,none⟩)) (.pointer (some ⟨sb,0,none⟩)) vo,Ka hb n.rg (.slice none 0 0),Sa sb n.dc V3.z]):=by
 refine Ct.mk' func55 rfl rfl rfl (λg R=>?_);try simp only[ca]
 simp only[na];try refine ga ?_
 refine I.st ?_;refine Td (n.ri gp vw hp sp vo) (n.ri gp (.slice none 0 0) hp sp vo) rfl rfl ?_;repeat'(first|refine ga ?_|refine bx rfl (λ_=>?_)|refine Vf [.int .i64 n.rg,.slice none 0 0] ?_|fail)
 rename_i hb;refine I.st ?_;refine Td (n.ri gp (.slice none 0 0) hp sp vo) (n.ri gp (.slice none 0 0) (.pointer (some ⟨hb,0,none⟩)) sp vo) rfl rfl ?_;repeat'(first|refine ga ?_|refine bx rfl (λ_=>?_)|refine Vf (.int .i64 n.dc::V3.z.enc) ?_|fail)
 rename_i sb;refine I.st ?_;refine Td (n.ri gp (.slice none 0 0) (.pointer (some ⟨hb,0,none⟩)) sp vo) (n.ri gp (.slice none 0 0) (.pointer (some ⟨hb,0,none⟩)) (.pointer (some ⟨sb,0,none⟩)) vo) rfl rfl ?_;repeat'(first|refine ga ?_|refine C6 V9.z.enc ?_|fail)
 refine I.st ?_;refine WX.Yc (vs:=V9.z.enc) (b:=b) (i:=12) (cs:=n.ri gp (.slice none 0 0) (.pointer (some ⟨hb,0,none⟩)) (.pointer (some ⟨sb,0,none⟩)) vo) rfl rfl rfl rfl rfl rfl ?_;rw[show setAt (n.ri gp (.slice none 0 0) (.pointer (some ⟨hb,0,none⟩)) (.pointer (some ⟨sb,0,none⟩)) vo) 12 V9.z.enc=va.ri {n with kn:=V9.z} gp (.slice none 0 0) (.pointer (some ⟨hb,0,none⟩)) (.pointer (some ⟨sb,0,none⟩)) vo from rfl];repeat'(first|refine ga ?_|refine C6 V3.z.enc ?_|fail)
 refine I.st ?_;refine WX.Yc (vs:=V3.z.enc) (b:=b) (i:=21) (cs:=va.ri {n with kn:=V9.z} gp (.slice none 0 0) (.pointer (some ⟨hb,0,none⟩)) (.pointer (some ⟨sb,0,none⟩)) vo) rfl rfl rfl rfl rfl rfl ?_;rw[show setAt (va.ri {n with kn:=V9.z} gp (.slice none 0 0) (.pointer (some ⟨hb,0,none⟩)) (.pointer (some ⟨sb,0,none⟩)) vo) 21 V3.z.enc=n.lost.ri gp (.slice none 0 0) (.pointer (some ⟨hb,0,none⟩)) (.pointer (some ⟨sb,0,none⟩)) vo from rfl];try refine ga ?_
 exact D.Bc [JI b n.lost gp (.slice none 0 0) (.pointer (some ⟨hb,0,none⟩)) (.pointer (some ⟨sb,0,none⟩)) vo,Ka hb n.rg (.slice none 0 0),Sa sb n.dc V3.z] _ rfl ⟨rfl,_,_,rfl⟩
section
variable{n:va}{b:Nat}{h:Hp}{T:Int}(hm:Mm n b T h){N:Int}(ok:ef n N)(Mi:0<=T)(hT:T+8000<=68719476736)
include hm ok Mi hT
theorem nL{keep:Int}(Lt: -9223372036854775808<=keep)(hk2:keep<=9223372036854775807):Ct prog 102 [.pointer (some ⟨b,0,none⟩),.int .i64 keep] [h] (λr H'=>r= .tuple #[]/\∃h',Mm (n.Pb keep) b T h'/\H'=[h']):=by
 obtain⟨Nh,gb,hb,sb,vw,hl,hw,v,hh,rfl,at_⟩:=hm;have hm0:=at_.lg;have cB:=oL ok.ok at_.lg Mi (by omega) Lt hk2;obtain⟨cb,d,w,tn,u,hv,X,rfl,Mf⟩:=va.YK at_.lg;unfold va.Pb
 cases hu:n.s.Xa with
 |false=>
  rw[if_pos rfl];have Bk:qb n gb cb d w tn=yb gb cb d w false tn:=by rw[<-hu]
  refine ce func102 λg R=>?_;simp only[can];refine W.flat (H':=[Ba b n gb hb sb vw Nh,qb n gb cb d w tn,ta cb n.c u,hv,X,hw,Ka hb n.rg v,hh,Sa sb n.dc n.rc,R]) (by simp) ?_;rw[Bk];try refine ga ?_
  rw[<-Bk];refine D.Oe [Ba b n gb hb sb vw Nh,qb n gb cb d w tn,ta cb n.c u,hv,X,hw,Ka hb n.rg v,hh,Sa sb n.dc n.rc,R] (H2:=[vh b n gb hb sb vw Nh (qb n gb cb d w tn++(ta cb n.c u++(hv++X))) hw v hh,R]) (by simp) ?_
  exact D.Bc [vh b n gb hb sb vw Nh (qb n gb cb d w tn++(ta cb n.c u++(hv++X))) hw v hh] _ rfl ⟨rfl,_,⟨_,at_.is⟩,rfl⟩
 |true=>
  rw[if_neg (by decide)];have Bk:qb n gb cb d w tn=yb gb cb d w true tn:=by rw[<-hu]
  have mh:Ct prog 55 [.pointer (some ⟨b,0,none⟩)] [Ba b n gb hb sb vw Nh] (λr H'=>r= .tuple #[]/\∃hb' sb',H'=[JI b n.lost (.pointer (some ⟨gb,0,none⟩)) (.slice none 0 0) (.pointer (some ⟨hb',0,none⟩)) (.pointer (some ⟨sb',0,none⟩)) Nh,Ka hb' n.rg (.slice none 0 0),Sa sb' n.dc V3.z]):=vF n b (.pointer (some ⟨gb,0,none⟩)) vw (.pointer (some ⟨hb,0,none⟩)) (.pointer (some ⟨sb,0,none⟩)) Nh;obtain⟨n1,yc⟩:∃n1:va,n1={n with s:=n.s.Pb keep,ws:=[],hd:=[],kn:=V9.z,rc:=V3.z,mr:=V3.z}:=⟨_,rfl⟩;have hid:=Ea.Tp n.s keep
  have e6:∀hb' sb',JI b n.lost (.pointer (some ⟨gb,0,none⟩)) (.slice none 0 0) (.pointer (some ⟨hb',0,none⟩)) (.pointer (some ⟨sb',0,none⟩)) Nh=Ba b n1 gb hb' sb' (.slice none 0 0) Nh:=λhb' sb'=>by
   rw[yc];exact(va.cg (b:=b) n.lost hid gb hb' sb' (.slice none 0 0) Nh).symm
  have p1:n1.hd=[]/\n1.rg=n.rg/\n1.dc=n.dc/\n1.rc=V3.z/\n1.ws=[]/\n1.s=n.s.Pb keep:=by rw[yc];exact⟨rfl,hid.2.1,hid.1,rfl,rfl,rfl⟩
  obtain⟨p1,p2,p3,p4,p5,p6⟩:=p1;rw[<-yc];rw[<-p6] at cB;refine ce func102 λg R=>?_;simp only[can];refine W.flat (H':=[Ba b n gb hb sb vw Nh,qb n gb cb d w tn,ta cb n.c u,hv,X,hw,Ka hb n.rg v,hh,Sa sb n.dc n.rc,R]) (by simp) ?_;rw[Bk];try refine ga ?_
  rw[<-Bk];refine ck cB ?_;rintro _ _ ⟨rfl,l1,rfl,Pf⟩;refine vb ?_;refine ck mh ?_;rintro _ _ ⟨rfl,hb',sb',rfl⟩;refine vb ?_;rw[e6,<-p2,<-p3];refine D.Oe [Ba b n1 gb hb' sb' (.slice none 0 0) Nh,l1,Ka hb' n1.rg (.slice none 0 0),Sa sb' n1.dc V3.z,R] (H2:=[Ba b n1 gb hb' sb' (.slice none 0 0) Nh++(l1++([]++(Ka hb' n1.rg (.slice none 0 0)++([]++Sa sb' n1.dc V3.z)))),R]) (by simp) ?_;exact D.Bc [Ba b n1 gb hb' sb' (.slice none 0 0) Nh++(l1++([]++(Ka hb' n1.rg (.slice none 0 0)++([]++Sa sb' n1.dc V3.z))))] _ rfl ⟨rfl,_,⟨Nh,gb,hb',sb',.slice none 0 0,l1,[],.slice none 0 0,[],by rw[<-p4],⟨Pf,by rw[p5];exact ia.nil _,by rw[p1];exact ia.nil _⟩⟩,rfl⟩
theorem pL{s':Ea}(hid:Ob n.s.c0 s'.c0)(hst:∀{b:Nat} {h:Hp} {T:Int},Zf n.s b T h->Ct prog 199 [b] [h] (λr H'=>r= .tuple #[]/\∃h',H'=[h']/\Zf s' b T h')):
  Ct prog 103 [b] [h] (λr H'=>r= .tuple #[]/\∃h',Mm {n with s:=s'} b T h'/\H'=[h']):=by
 have _:=ok;have _:=Mi;have _:=hT;obtain⟨Nh,gb,hb,sb,vw,hl,hw,v,hh,rfl,at_⟩:=hm;have cB:=hst at_.lg;obtain⟨n1,yc⟩:∃n1:va,n1={n with s:=s'}:=⟨_,rfl⟩;have e1:Ba b n gb hb sb vw Nh=Ba b n1 gb hb sb vw Nh:=by rw[yc];exact(n.cg hid ..).symm
 have p1:n1.hd=n.hd/\n1.rg=n.rg/\n1.dc=n.dc/\n1.rc=n.rc/\n1.ws=n.ws/\n1.s=s':=by rw[yc];exact⟨rfl,hid.2.1,hid.1,rfl,rfl,rfl⟩
 obtain⟨p1,p2,p3,p4,p5,p6⟩:=p1;rw[<-yc];rw[<-p6] at cB;refine ce func103 λg R=>?_;simp only[can];refine W.f0 [Ba b n gb hb sb vw Nh,hl,hw,Ka hb n.rg v,hh,Sa sb n.dc n.rc,R] ?_;try refine ga ?_
 refine ck cB ?_;rintro _ _ ⟨rfl,l1,rfl,Pf⟩;refine vb ?_;rw[e1];refine D.Oe [Ba b n1 gb hb sb vw Nh,l1,hw,Ka hb n.rg v,hh,Sa sb n.dc n.rc,R] (H2:=[Ba b n1 gb hb sb vw Nh++(l1++(hw++(Ka hb n.rg v++(hh++Sa sb n.dc n.rc)))),R]) (by simp) ?_;exact D.Bc [Ba b n1 gb hb sb vw Nh++(l1++(hw++(Ka hb n.rg v++(hh++Sa sb n.dc n.rc))))] _ rfl ⟨rfl,_,⟨Nh,Yo.of p1 p2 p3 p4 Pf (Int.le_refl _) (by rw[p5];exact at_.ws) at_.hd⟩,rfl⟩
end
def AR(dc rg nd:Int):Ct prog 54 [dc,rg,nd] [] (λr H'=>∃b h',r= .pointer (some ⟨b,0,none⟩)/\H'=[h']/\Zf (.up [] (CS.new dc rg nd) 0) b 0 h'):=
 (BR dc rg nd).pack rfl λr H' ⟨b,cb,d,w,hd,h1,h2,h3⟩=>by
  subst h2;exact⟨[yb b cb d w true 0++(ta cb (CS.new dc rg nd) (.slice none 0 0)++([]++(ff w d (ua []) 0++hd)))],by simp,b,_,h1,rfl,cb,d,w,.slice none 0 0,[],ua [],0,0,hd,rfl,⟨ia.nil _,h3,λ_=>rfl,λe=>(by cases e)⟩⟩
def gz{fc rn:Int}{nn:Nat}{cl dc rg nd:Int}(h1:1<=fc/\fc<=3)(h2:1<=rn/\rn<=3)(h3:1<=nn/\nn<=4)(h4:1<=cl/\cl<=4)(h5:0<=dc/\dc<=fc - 1)(h6:0<=rg/\rg<=rn - 1)(h7:0<=nd/\nd<=nn - 1):
  Ct prog 13 [.agg (List.toArray [.int .i64 fc,.int .i64 rn,.int .i64 nn,.int .i64 cl]),.int .i64 dc,.int .i64 rg,.int .i64 nd] [] (λr H'=>∃b h',r= .tuple #[.pointer (some ⟨b,0,none⟩),.int .i64 0]/\Mm (va.new fc rn nn cl dc rg nd) b 486 h'/\H'=[h']):=by
 have b1:=HI fc rn (nn:Int) cl;rw[show uV fc rn (nn:Int) cl=true from decide_eq_true ⟨h1,h2,by omega,h4⟩] at b1;have n1: ¬dc<0:=by omega
 have n2: ¬fc<=dc:=by omega
 have n3: ¬rg<0:=by omega
 have n4: ¬rn<=rg:=by omega
 have n5: ¬nd<0:=by omega
 have n6: ¬(nn:Int)<=nd:=by omega
 have N7:=AR dc rg nd;have gV:Ct prog 56 [.int .i64 (nn:Int)] [] (λr H'=>r= .tuple #[.agg (List.toArray (Ic nn).cfg.enc),.bool true]/\H'=[]):=II h3.1 h3.2;obtain⟨n0,hn0⟩:∃n0:va,n0=⟨fc,rn,(nn:Int),cl,.up [] (CS.new dc rg nd) 0,[],[],V9.z,V3.z,V3.z⟩:=⟨_,rfl⟩;have hlo:n0.lost=n0:=by rw[hn0];rfl
 have hs0:n0.s= .up [] (CS.new dc rg nd) 0:=by rw[hn0]
 have hc0:∀gp vw hp sp vo,n0.ri gp vw hp sp vo=[.int .i64 fc,.int .i64 rn,.int .i64 (nn:Int),.int .i64 cl,.int .i64 1,.int .i64 dc,.int .i64 rg,.int .i64 nd,gp,vw,hp,sp]++(V9.z.enc++(V3.z.enc++[vo])):=λgp vw hp sp vo=>by rw[hn0];rfl
 refine Ct.mk' func13 rfl rfl rfl (λg R=>?_);try simp only[ca]
 simp only[na];repeat'(first|refine ga ?_|refine bx rfl (λ_=>?_)|refine Pa [.int .i64 fc,.int .i64 rn,.int .i64 (nn:Int),.int .i64 cl] [.int .i64 fc,.int .i64 rn,.int .i64 (nn:Int),.int .i64 cl] rfl ?_|refine WX.ja rfl b1 rfl ?_|fail)
 rename_i b4;refine W.od (List.replicate 8 true++[false]) [[(b4,.cells (List.toArray [.int .i64 fc,.int .i64 rn,.int .i64 nn,.int .i64 cl]) 23 (0,0))]] Tryz.mix (by kernel_rfl) ?_;repeat'(first|refine ga ?_|refine Pa [.int .i64 fc,.int .i64 rn,.int .i64 (nn:Int),.int .i64 cl] [.int .i64 fc,.int .i64 rn,.int .i64 (nn:Int),.int .i64 cl] rfl ?_|refine Vf [.int .i64 1,.int .i64 dc,.int .i64 rg,.int .i64 nd] ?_|fail)
 refine WX.call rfl N7 rfl ?_;rintro _ _ ⟨gb,hl,rfl,rfl,hm⟩;simp only[ca,na];repeat'(first|refine ga ?_|refine bx rfl (λ_=>?_)|refine Vf ([.int .i64 fc,.int .i64 rn,.int .i64 (nn:Int),.int .i64 cl,.int .i64 1,.int .i64 dc,.int .i64 rg,.int .i64 nd,.pointer (some ⟨gb,0,none⟩),.slice none 0 0,.pointer none,.pointer none]++(V9.z.enc++(V3.z.enc++[.slice none 0 0]))) ?_|fail)
 rename_i b;have mh:=vF n0 b (.pointer (some ⟨gb,0,none⟩)) (.slice none 0 0) (.pointer none) (.pointer none) (.slice none 0 0);rw[hlo,show JI b n0 (.pointer (some ⟨gb,0,none⟩)) (.slice none 0 0) (.pointer none) (.pointer none) (.slice none 0 0)=[(b,.cells (List.toArray ([.int .i64 fc,.int .i64 rn,.int .i64 (nn:Int),.int .i64 cl,.int .i64 1,.int .i64 dc,.int .i64 rg,.int .i64 nd,.pointer (some ⟨gb,0,none⟩),.slice none 0 0,.pointer none,.pointer none]++(V9.z.enc++(V3.z.enc++[.slice none 0 0])))) 112 (0,0))] by unfold JI;rw[hc0]] at mh;refine WX.call rfl mh rfl ?_;rintro _ _ ⟨rfl,hb,sb,rfl⟩;simp only[ca,na];have hid:=Ea.xh n0.s (Ic nn).cfg;have kj:=az (s:= .up [] (CS.new dc rg nd) 0) (N:=0) (LI.nil dc rg nd) hm (by omega) (by omega) (Ic nn).cfg;rw[(Ea.xq _ _).1,(Ea.xq _ _).2] at kj;obtain⟨n1,yc⟩:∃n1,va.new fc rn nn cl dc rg nd=n1:=⟨_,rfl⟩;have e0:n1={n0 with s:=(n0.s.enter (Ic nn).cfg).2}:=by rw[<-yc,hs0,hn0];rfl
 have e6:JI b n0 (.pointer (some ⟨gb,0,none⟩)) (.slice none 0 0) (.pointer (some ⟨hb,0,none⟩)) (.pointer (some ⟨sb,0,none⟩)) (.slice none 0 0)=Ba b n1 gb hb sb (.slice none 0 0) (.slice none 0 0):=by
  rw[e0];exact(va.cg (b:=b) n0 hid gb hb sb (.slice none 0 0) (.slice none 0 0)).symm
 have p1:n1.rg=n0.rg/\n1.dc=n0.dc/\n1.hd=[]/\n1.rc=V3.z/\n1.ws=[]/\n1.s=((Ea.up [] (CS.new dc rg nd) 0).enter (Ic nn).cfg).2:=by
  refine⟨by rw[e0];exact hid.2.1,by rw[e0];exact hid.1,by rw[e0,hn0],by rw[e0,hn0],by rw[e0,hn0],by rw[e0,hs0]⟩
 obtain⟨p1,p2,p3,p4,p5,p6⟩:=p1;rw[<-p6] at kj;rw[e6,<-p1,<-p2,yc];repeat'(first|refine ga ?_|refine al (λ_=>?_)|refine WX.ja rfl gV rfl ?_|refine ud Va.z.enc (Ic nn).cfg.enc rfl rfl ?_|fail)
 rename_i nj;refine W.od [true,true,true,true,true] [Mc nj (Ic nn).cfg,Ba b n1 gb hb sb (.slice none 0 0) (.slice none 0 0)] Tryz.mix (by kernel_rfl) ?_;repeat'(first|refine ga ?_|refine Pa (Ic nn).cfg.enc (Ic nn).cfg.enc rfl ?_|fail)
 refine WX.call rfl kj rfl ?_;rintro _ _ ⟨rfl,l1,rfl,Pf⟩;simp only[ca,na];try refine ga ?_
 refine D.Oe [Ba b n1 gb hb sb (.slice none 0 0) (.slice none 0 0),l1,Ka hb n1.rg (.slice none 0 0),Sa sb n1.dc V3.z,R] (H2:=[Ba b n1 gb hb sb (.slice none 0 0) (.slice none 0 0)++(l1++([]++(Ka hb n1.rg (.slice none 0 0)++([]++Sa sb n1.dc V3.z)))),R]) (by simp) ?_;exact D.Vb [Ba b n1 gb hb sb (.slice none 0 0) (.slice none 0 0)++(l1++([]++(Ka hb n1.rg (.slice none 0 0)++([]++Sa sb n1.dc V3.z))))] _ rfl rfl rfl ⟨_,_,rfl,⟨.slice none 0 0,gb,hb,sb,.slice none 0 0,l1,[],.slice none 0 0,[],by rw[<-p4],⟨Pf,by rw[p5];exact ia.nil _,by rw[p3];exact ia.nil _⟩⟩,rfl⟩
def GO(fc rn nn cl nd:Int):Prop:=(1<=fc/\fc<=3)/\(1<=rn/\rn<=3)/\(1<=nn/\nn<=4)/\(1<=cl/\cl<=4)/\(0<=nd/\nd<=nn - 1)
instance(fc rn nn cl nd:Int):Decidable (GO fc rn nn cl nd):=inferInstanceAs (Decidable (_/\_))
def Fk{x l m:Int}(h: ¬(l<=x/\x<=m)):Ct prog 48 [.int .i64 x,.int .i64 l,.int .i64 m] [] (λr H'=>r= .bool false/\H'=[]):=by
 by_cases h1:l<=x
 .have h2: ¬x<=m:=λh2=>h ⟨h1,h2⟩;refine Ct.mk' func48 rfl rfl rfl (λg R=>?_);try simp only[ca]
  simp only[na];try refine ga ?_
  exact D.Ia [] _ rfl rfl ⟨by simp[h2],rfl⟩
 .refine Ct.mk' func48 rfl rfl rfl (λg R=>?_);try simp only[ca]
  simp only[na];try refine ga ?_
  exact D.Ia [] _ rfl rfl ⟨rfl,rfl⟩
section
variable{fc rn nn cl nd:Int}(hl: -4611686018427387904<=nn/\nn<=4611686018427387904)(h: ¬GO fc rn nn cl nd)
include h
theorem Up:Ct prog 13 [.agg (List.toArray [fc,rn,nn,cl]),.int .i64 0,.int .i64 0,nd] [] (λr H'=>r= .tuple #[.pointer none,.int .i64 1]/\H'=[]):=by
 have b1:=HI fc rn nn cl;by_cases hr:uV fc rn nn cl=true
 .rw[hr] at b1;obtain⟨h1,h2,h3,h4⟩:=of_decide_eq_true hr;have n1: ¬fc<=0:=by omega
  have n2: ¬rn<=0:=by omega
  by_cases h5:nd<0
  .have _:=h5;refine ce func13 λg R=>?_;repeat' first|refine vb ?_|refine Ud λ_=>?_|refine yj [fc,rn,nn,cl] ?_|refine cq b1 ?_
   exact D.Vb [] _ rfl rfl rfl ⟨rfl,rfl⟩
  .have h6:nn<=nd:=Classical.not_not.1 λx=>h ⟨h1,h2,h3,h4,by omega,by omega⟩;refine ce func13 λg R=>?_;repeat' first|refine vb ?_|refine Ud λ_=>?_|refine yj [fc,rn,nn,cl] ?_|refine cq b1 ?_
   exact D.Vb [] _ rfl rfl rfl ⟨rfl,rfl⟩
 .rw[Bool.not_eq_true] at hr;rw[hr] at b1;refine ce func13 λg R=>?_;repeat' first|refine vb ?_|refine Ud λ_=>?_|refine yj [fc,rn,nn,cl] ?_|refine cq b1 ?_
  exact D.Vb [] _ rfl rfl rfl ⟨rfl,rfl⟩
theorem Jr:Ct prog 12 [.agg (List.toArray [fc,rn,nn,cl]),.int .i64 0,.int .i64 0,nd] [] (λr H'=>r= .tuple #[.pointer none,.int .i64 1]/\H'=[]):=by
 by_cases h1:1<=fc/\fc<=3
 .have b1:=pe h1.1 h1.2;by_cases h2:1<=rn/\rn<=3
  .have b2:=pe h2.1 h2.2;by_cases h3:1<=nn/\nn<=4
   .have b3:=pe h3.1 h3.2;by_cases h4:1<=cl/\cl<=4
    .have b4:=pe h4.1 h4.2;have b5:=pe (x:=0) (l:=0) (m:=fc - 1) (by omega) (by omega);have b6:=pe (x:=0) (l:=0) (m:=rn - 1) (by omega) (by omega);have b7:=Fk (x:=nd) (l:=0) (m:=nn - 1) λx=>h ⟨h1,h2,h3,h4,x⟩;refine ce func12 λg R=>?_;repeat' first|refine vb ?_|refine Ud λ_=>?_|refine cq b1 ?_|refine cq b2 ?_|refine cq b3 ?_|refine cq b4 ?_|refine cq b5 ?_|refine cq b6 ?_|refine cq b7 ?_
     exact D.Vb [] _ rfl rfl rfl ⟨rfl,rfl⟩
    .have b4:=Fk h4;refine ce func12 λg R=>?_;repeat' first|refine vb ?_|refine Ud λ_=>?_|refine cq b1 ?_|refine cq b2 ?_|refine cq b3 ?_|refine cq b4 ?_
     exact D.Vb [] _ rfl rfl rfl ⟨rfl,rfl⟩
   .have b3:=Fk h3;refine ce func12 λg R=>?_;repeat' first|refine vb ?_|refine Ud λ_=>?_|refine cq b1 ?_|refine cq b2 ?_|refine cq b3 ?_
    exact D.Vb [] _ rfl rfl rfl ⟨rfl,rfl⟩
  .have b2:=Fk h2;refine ce func12 λg R=>?_;repeat' first|refine vb ?_|refine Ud λ_=>?_|refine cq b1 ?_|refine cq b2 ?_
   exact D.Vb [] _ rfl rfl rfl ⟨rfl,rfl⟩
 .have b1:=Fk h1;refine ce func12 λg R=>?_;repeat' first|refine vb ?_|refine Ud λ_=>?_|refine cq b1 ?_
  exact D.Vb [] _ rfl rfl rfl ⟨rfl,rfl⟩
end
variable{xs:List ya}{u:Value}{hu hv:Hp}
def k20:List CK:= .i::([.i,.i,.i,.i]++([.i,.i,.i,.i]++([.i,.i,.i,.i,.i]++(CV++(WR++([.b,.s,.s,.b,.b]++([.i,.i,.i,.i,.i,.i,.i,.i,.i]++([.i,.i,.i,.i,.i,.i,.i,.i,.i]++[.i,.i,.i,.i]))))))))
def Zt{ks:List CK}{xs:List Value}(h:LG ks xs=true):Db ks xs xs=some true:=by
 obtain⟨b,e,i⟩:=Qh h h;rw[e,i.2 rfl]
def Dz{v:Value}(hx:Rs xs u hu)(hy:Rs xs v hv)(hl:xs.length<=1000000):
  Ct prog 41 [u,v] [hu,hv] (λr H'=>r= .bool true/\H'=[hu,hv]):=by
 refine Ct.mk' func41 rfl rfl rfl (λg R=>?_);try simp only[ca]
 simp only[na];try refine ga ?_
 refine W.loop (α:=Nat) (λi=>i<=xs.length) (λi=>[(0,u),(1,v),(5,.int .i64 (i:Int))]) (λ_=>[hu,hv,R]) (λi=>xs.length - i) 0 (Nat.zero_le _) (by repeat(first|exact Ca.nil|refine Ca.cons rfl ?_)) (Ga.qa inferInstance) ?_;intro i hi;by_cases hlt:i<xs.length
 .obtain⟨x,GU⟩:∃x,xs[i]? =some x:=⟨_,List.getElem?_eq_getElem hlt⟩;have hcmp:Db WR x.enc x.enc=some true:=Zt rfl;try refine ga ?_
  refine W.quiet Tryz.mix (by kernel_rfl) ?_;repeat'(first|refine ga ?_|refine WX.zc rfl hx GU rfl rfl ?_|refine WX.zc rfl hy GU rfl rfl ?_|refine WX.xl rfl rfl hcmp rfl ?_|fail)
  exact D.rd (i+1) (by omega) (by omega)
 .try refine ga ?_
  exact D.Ia [hu,hv] _ rfl rfl ⟨rfl,rfl⟩
def Sx{xs:List Da}{v:Value}(hx:Rs xs u hu)(hy:Rs xs v hv)(hl:xs.length<=1000000):
  Ct prog 114 [u,v] [hu,hv] (λr H'=>r= .bool true/\H'=[hu,hv]):=by
 refine Ct.mk' func114 rfl rfl rfl (λg R=>?_);try simp only[ca]
 simp only[na];try refine ga ?_
 refine W.loop (α:=Nat) (λi=>i<=xs.length) (λi=>[(0,u),(1,v),(5,.int .i64 (i:Int))]) (λ_=>[hu,hv,R]) (λi=>xs.length - i) 0 (Nat.zero_le _) (by repeat(first|exact Ca.nil|refine Ca.cons rfl ?_)) (Ga.qa inferInstance) ?_;intro i hi;by_cases hlt:i<xs.length
 .obtain⟨x,GU⟩:∃x,xs[i]? =some x:=⟨_,List.getElem?_eq_getElem hlt⟩;have hcmp:Db k20 x.enc x.enc=some true:=Zt rfl;try refine ga ?_
  refine W.quiet Tryz.mix (by kernel_rfl) ?_;repeat'(first|refine ga ?_|refine WX.zc rfl hx GU rfl rfl ?_|refine WX.zc rfl hy GU rfl rfl ?_|refine WX.xl rfl rfl hcmp rfl ?_|fail)
  exact D.rd (i+1) (by omega) (by omega)
 .try refine ga ?_
  exact D.Ia [hu,hv] _ rfl rfl ⟨rfl,rfl⟩
def XR(hx:Rs xs u hu)(hl:xs.length<=1000000)(e:ya)(he:e∈xs):
  Ct prog 44 [u,.agg (List.toArray e.enc)] [hu] (λr H'=>r= .bool true/\H'=[hu]):=by
 obtain⟨k,hk⟩:=mem_iff_getElem?.1 he;have tB:=(List.getElem?_eq_some_iff.1 hk).1;refine ce func44 λg R=>?_;repeat' first|refine vb ?_|refine Ud λ_=>?_
 rename_i b3;refine W.lo (α:=Nat) (λi=>i<=k) (λi=>[(0,u),(3,b3),(5,.int .i64 (i:Int))]) (λ_=>[Fb b3 e,hu,R]) (λi=>xs.length - i) 0 (Gi _) ?_;intro i hi;obtain⟨x,GU⟩:∃x,xs[i]? =some x:=⟨_,oh (by omega)⟩;obtain⟨c,hc1,hc2⟩:=Qh (ks:=WR) (xs:=x.enc) (ys:=e.enc) rfl rfl;have hlt:i<xs.length:=by omega
 cases c with
 |true=>
  try refine ga ?_
  refine wq ?_;repeat' first|refine ga ?_|refine rG hx GU ?_|refine yj e.enc ?_|refine WX.Vu rfl rfl hc1 rfl ?_
  exact vj [hu]
 |false=>
  have hne:i≠k:=λh=>by
   subst h;rw[hk] at GU;cases GU;exact absurd (hc2.2 rfl) (by decide)
  try refine ga ?_
  refine wq ?_;repeat' first|refine ga ?_|refine rG hx GU ?_|refine yj e.enc ?_|refine WX.Vu rfl rfl hc1 rfl ?_
  exact D.re (i+1)
structure MG where
 (k n:Int)
 m:Da
def MG.enc(a:MG):List Value:=[.int .i64 a.k,.int .i64 a.n]++a.m.enc
instance : Nb MG := ⟨76, MG.enc, fun _ => rfl, fun _ => rfl, by decide⟩
def Da.size(m:Da):Nat:=m.key.size+m.val.size+m.en.key.size+m.en.val.size
def au{Uf:List MG}{v:Value}{h:Hp}(hr:Rs Uf v h)(hlen:Uf.length<=1099511627776)(hz:∀a∈Uf,a.m.key.size<=562949953421312/\a.m.val.size<=562949953421312/\a.m.en.key.size<=562949953421312/\a.m.en.val.size<=562949953421312):
  Ct prog 11 [v] [h] (λr H'=>∃b,r= .bool b/\H'=[h]/\(b=false->Uf.length<=250)):=by
 refine Ct.mk' func11 rfl rfl rfl (λg R=>?_);try simp only[ca]
 simp only[na];try refine ga ?_
 refine W.loop (α:=Nat×Nat) (λx=>x.1<=Uf.length/\Uf.length<=x.2/\x.2<=1125899906842624) (λx=>[(0,v),(3,.int .i64 (x.2:Int)),(4,.int .i64 (x.1:Int))]) (λ_=>[h,R]) (λx=>Uf.length - x.1) (0,Uf.length) ⟨Nat.zero_le _,Nat.le_refl _,by simp only[];omega⟩ (by repeat(first|exact Ca.nil|refine Ca.cons rfl ?_)) (Ga.qa inferInstance) ?_;rintro⟨i,n⟩ ⟨hi,hn0,hn⟩;simp only[] at hi hn hn0⊢;by_cases hlt:i<Uf.length
 .by_cases h4:n<=250
  .obtain⟨a,ha⟩:∃a,Uf[i]? =some a:=⟨_,List.getElem?_eq_getElem hlt⟩;obtain⟨z1,z2,z3,z4⟩:=hz a (mem_of_getElem? ha);have hq:a.m.size/60<=37529996894754:=by unfold Da.size;omega
   repeat'(first|refine ga ?_|refine al (λ_=>?_)|refine lF (us:=a.m.enc) rfl hr ?_ (hk:=ha) (ho:=rfl)|refine ud Da.z.enc a.m.enc rfl rfl ?_|(refine I.bin ?_;refine WX.kY (a:=a.m.size) (b:=60) rfl rfl (by unfold Da.size;push_cast;rfl) rfl (by decide) (by unfold Da.size;omega) rfl ?_)|fail)
   exact D.rd (i+1,n+a.m.size/60) ⟨by simp only[];omega,by simp only[];omega,by simp only[];omega⟩ (by simp only[];omega)
  .try refine ga ?_
   exact D.Ia [h] _ rfl rfl ⟨_,rfl,rfl,λh=>by have:=of_decide_eq_false h;omega⟩
 .obtain rfl:i=Uf.length:=by omega
  by_cases h4:n<=250
  all_goals
   try refine ga ?_
   exact D.Ia [h] _ rfl rfl ⟨_,rfl,rfl,λh=>by have:=of_decide_eq_false h;omega⟩
end Go.Proofs.YthebagfahkebiaaGreat
