/- Texts of one road. -/
import Derived.Test.YthebagfahkebiaaGreatRBH
set_option linter.all false
set_option maxHeartbeats 8000000
set_option maxRecDepth 20000
namespace Go.Proofs.YthebagfahkebiaaGreat
open Go Go.Sl Go.Proofs.Tryz List
section
variable{n:ua}{b:Nat}{h:Hp}{T:Int}(hm:Cg n b T h){N:Int}(ok:We n N)
include hm ok
theorem xz(Qh:0<=T)(hT:T+8000<=68719476736):Ct prog 101 [b] [h] (λr H'=>∃h1 h',ia 52 n.flush.2 r h1/\Cg n.flush.1 b (T+8000) h'/\H'=[h1,h']):=by
 obtain⟨Wh,gb,hb,sb,vw,hl,hw,v,hh,rfl,at_⟩:=hm;have hm0:=at_.lg;obtain⟨cb,d,w,tn,u,hv,X,rfl,Ue⟩:=ua.HI at_.lg;have KI:=at_.mono (T':=T+8000) (by omega);have Gt:=WO ok.ok hm0 Qh (by omega);unfold ua.flush
 cases hu:n.s.jb with
 |false=>
  rw[if_pos rfl];have Gl:vb n gb cb d w tn=Bb gb cb d w false tn:=by rw[<-hu]
  refine ce func101 λg R=>?_;simp only[can];refine W.f0 [Ca b n gb hb sb vw Wh,vb n gb cb d w tn,ta cb n.c u,hv,X,hw,Oa hb n.rg v,hh,Ta sb n.dc n.rc,R] ?_;try refine ga ?_
  refine ei (n.mc gb hb sb vw Wh) (n.mc gb hb sb vw (.slice none 0 0)) ?_;rw[Gl];try refine ga ?_
  rw[<-Gl];refine D.Vd [Ca b n gb hb sb vw (.slice none 0 0),vb n gb cb d w tn,ta cb n.c u,hv,X,hw,Oa hb n.rg v,hh,Ta sb n.dc n.rc,R] (H2:=[[],Hh b n gb hb sb vw (.slice none 0 0) (vb n gb cb d w tn++(ta cb n.c u++(hv++X))) hw v hh,R]) (by simp) ?_
  exact Xa [[],Hh b n gb hb sb vw (.slice none 0 0) (vb n gb cb d w tn++(ta cb n.c u++(hv++X))) hw v hh] rfl rfl ⟨_,_,ia.nil _,⟨_,KI.is⟩,rfl⟩
 |true=>
  rw[if_neg (by decide)];have Gl:vb n gb cb d w tn=Bb gb cb d w true tn:=by rw[<-hu]
  show Ct _ _ _ _ (λr H'=>∃h1 h',ia 52 (({n with s:=n.s.sync}:ua).eg n.c.du n.c.st n.c.ak) r h1/\Cg ({n with s:=n.s.sync}:ua).Qa b (T+8000) h'/\H'=[h1,h']);have hid:=Ga.Qj n.s
  have o2:Ke n.s.sync.ch:=by
   have:=ok.cs;revert this;unfold ua.c
   cases hs:n.s with
   |up l c t=>intro k;exact k.sync (by have:=ok.xb;unfold ua.c at this;rw[hs] at this;exact this)
   |dn l c q=>intro k;exact k
  have Qi:=ok.PI hid ok.ok.sync o2;obtain⟨n1,ic⟩:∃n1:ua,n1={n with s:=n.s.sync}:=⟨_,rfl⟩;have e1:Ca b n gb hb sb vw (.slice none 0 0)=Ca b n1 gb hb sb vw (.slice none 0 0):=by rw[ic];exact(n.ig hid ..).symm
  have p1:n1.hd=n.hd/\n1.rg=n.rg/\n1.dc=n.dc/\n1.rc=n.rc/\n1.ws=n.ws/\n1.s=n.s.sync:=by rw[ic];exact⟨rfl,hid.2.1,hid.1,rfl,rfl,rfl⟩
  obtain⟨p1,p2,p3,p4,p5,p6⟩:=p1;rw[<-ic] at Qi⊢;rw[<-p6] at Gt;have Br:ia 212 n1.ws vw hw:=by rw[p5];exact at_.ws
  refine ce func101 λg R=>?_;simp only[can];refine W.f0 [Ca b n gb hb sb vw Wh,vb n gb cb d w tn,ta cb n.c u,hv,X,hw,Oa hb n.rg v,hh,Ta sb n.dc n.rc,R] ?_;try refine ga ?_
  refine ei (n.mc gb hb sb vw Wh) (n.mc gb hb sb vw (.slice none 0 0)) ?_;rw[Gl];try refine ga ?_
  rw[<-Gl];refine WX.h0 [Ca b n gb hb sb vw (.slice none 0 0),vb n gb cb d w tn,ta cb n.c u,hv,X,hw,Oa hb n.rg v,hh,Ta sb n.dc n.rc,R] ?_;refine ck Gt ?_;rintro _ _ ⟨rfl,l1,rfl,cg⟩;have hm2:=cg;obtain⟨ob,d',w',Aj,u',Rc,X',rfl,Hl⟩:=ua.HI cg;have kt:=wR n1 b gb hb sb (ia.nil 52) (by simp only[td];omega) (cb:=ob) (d:=d') (w:=w') (tn:=Aj) Qi.xb Qi.cs Hl.rs Qi.wl Qi.wi Br n.c.du n.c.st n.c.ak;rw[nil_append] at kt;rw[e1];refine WX.f0 [vb n1 gb ob d' w' Aj,ta ob n1.c u',Rc,X',Ca b n1 gb hb sb vw (.slice none 0 0),hw,Oa hb n.rg v,hh,Ta sb n.dc n.rc,R] ?_;try refine ga ?_
  refine WX.Pe ?_;refine ck kt ?_;rintro _ _ ⟨rfl,v2,h2,Qw,Qr,Sa,wL,rfl⟩;refine Za ?_;refine D.Vd [h2,Ca b n1.Qa gb hb sb Qw v2,vb n1 gb ob d' w' Aj,ta ob n1.c u',Rc,X',Qr,Oa hb n.rg v,hh,Ta sb n.dc n.rc,R] (H2:=[h2,Ca b n1.Qa gb hb sb Qw v2++((vb n1 gb ob d' w' Aj++(ta ob n1.c u'++(Rc++X')))++(Qr++(Oa hb n.rg v++(hh++Ta sb n.dc n.rc)))),R]) (by simp) ?_;exact Xa [h2,Ca b n1.Qa gb hb sb Qw v2++((vb n1 gb ob d' w' Aj++(ta ob n1.c u'++(Rc++X')))++(Qr++(Oa hb n.rg v++(hh++Ta sb n.dc n.rc))))] rfl rfl ⟨_,_,Sa,⟨v2,Dp.of (n:=n) (n1:=n1.Qa) p1 p2 p3 p4 hm2 (by omega) wL at_.hd⟩,rfl⟩
theorem JG:Ct prog 115 [b] [h] (λr H'=>r= .tuple #[]/\∃h',Cg n.collect b T h'/\H'=[h']):=by
 obtain⟨Wh,gb,hb,sb,vw,hl,hw,v,hh,rfl,at_⟩:=hm;have hm0:=at_.lg;obtain⟨cb,d,w,tn,u,hv,X,rfl,Ue⟩:=ua.HI at_.lg;have hst:=Eo n b gb hb sb cb d w tn vw Wh u ok.xb ok.cs Ue.rs;have tg:=ok.xb.len;have Iq:n.Kb.length<=1000000:=by unfold ua.Kb;rw[Oe];omega
 have AQ:=ko n.rg (Co n u ok.xb ok.cs Ue.rs) Iq;unfold ua.collect
 cases hu:n.s.jb with
 |false=>
  rw[if_pos rfl];have Gl:vb n gb cb d w tn=Bb gb cb d w false tn:=by rw[<-hu]
  refine ce func115 λg R=>?_;simp only[can];refine W.f0 [Ca b n gb hb sb vw Wh,vb n gb cb d w tn,ta cb n.c u,hv,X,hw,Oa hb n.rg v,hh,Ta sb n.dc n.rc,R] ?_;rw[Gl];try refine ga ?_
  rw[<-Gl];refine D.Vd [Ca b n gb hb sb vw Wh,vb n gb cb d w tn,ta cb n.c u,hv,X,hw,Oa hb n.rg v,hh,Ta sb n.dc n.rc,R] (H2:=[Hh b n gb hb sb vw Wh (vb n gb cb d w tn++(ta cb n.c u++(hv++X))) hw v hh,R]) (by simp) ?_
  exact D.ri [Hh b n gb hb sb vw Wh (vb n gb cb d w tn++(ta cb n.c u++(hv++X))) hw v hh] _ rfl ⟨rfl,_,⟨_,at_.is⟩,rfl⟩
 |true=>
  rw[if_neg (by decide)];have Gl:vb n gb cb d w tn=Bb gb cb d w true tn:=by rw[<-hu]
  simp only[];generalize Bc n.rg n.Kb=C at AQ⊢;refine ce func115 λg R=>?_;simp only[can];refine W.f0 [Ca b n gb hb sb vw Wh,vb n gb cb d w tn,ta cb n.c u,hv,X,hw,Oa hb n.rg v,hh,Ta sb n.dc n.rc,R] ?_;rw[Gl];try refine ga ?_
  rw[<-Gl];refine W.cj (α:=Nat) (λ_=>True) (λy=>[(0,b),(2,y)]) (λy=>[Mc y C,Ca b n gb hb sb vw Wh,vb n gb cb d w tn,ta cb n.c u,hv,X,hw,Oa hb n.rg v,hh,Ta sb n.dc n.rc,R]) ?_ ?_
  .refine U6 (ml [6,4]) [Ca b n gb hb sb vw Wh] ?_;repeat' first|refine ga ?_|refine al λ_=>?_|refine WY.lf ?_|refine WY.back ?_|refine vn 0 ?_|refine vn 1 ?_|refine vn 2 ?_|refine vn 3 ?_|refine vn 4 ?_|refine vn 5 ?_|refine WY.Cv 6 8 (by decide+kernel) rfl rfl ?_ ?_|refine WY.Cv 7 8 (by decide+kernel) rfl rfl ?_ ?_|refine KM 6 ?_|refine KM 7 ?_|refine KM 8 ?_|refine KM 9 ?_|refine WY.fin (by kernel_rfl) ?_|refine cq hst ?_|refine cq AQ ?_|refine xg V3.z.enc C.enc ?_
   all_goals exact D.aQ _ trivial
  rintro b2 -;try refine ga ?_
  refine W.loop (α:=Nat) (λk=>k<=3) (λk=>[(0,b),(2,b2),(3,.int .i64 (k:Int))])
   (λk=>[Mc b2 C,Ca b {n with mr:=Uu n.mr C k} gb hb sb vw Wh,vb n gb cb d w tn,ta cb n.c u,hv,X,hw,Oa hb n.rg v,hh,Ta sb n.dc n.rc,R]) (λk=>3 - k) 0 (di _) (by repeat(first|exact Aa.nil|refine Aa.cons rfl ?_)) (by show Ia _ [Mc b2 C,Ca b n gb hb sb vw Wh,vb n gb cb d w tn,ta cb n.c u,hv,X,hw,Oa hb n.rg v,hh,Ta sb n.dc n.rc,R];exact(Ia.qa inferInstance)) ?_
  intro k hk;by_cases hlt:k<3
  .obtain rfl|rfl|rfl:k=0\/k=1\/k=2:=by omega
   .try refine ga ?_
    refine Wp (ml [15]) [Mc b2 C,Ca b {n with mr:=Uu n.mr C 0} gb hb sb vw Wh] ?_;try refine ga ?_
    refine ei (ua.mc {n with mr:=Uu n.mr C 0} gb hb sb vw Wh) (ua.mc {n with mr:=Uu n.mr C 1} gb hb sb vw Wh) ?_;try refine ga ?_
    exact D.rd 1 (by decide) (by decide)
   .try refine ga ?_
    refine Wp (ml [15]) [Mc b2 C,Ca b {n with mr:=Uu n.mr C 1} gb hb sb vw Wh] ?_;try refine ga ?_
    refine ei (ua.mc {n with mr:=Uu n.mr C 1} gb hb sb vw Wh) (ua.mc {n with mr:=Uu n.mr C 2} gb hb sb vw Wh) ?_;try refine ga ?_
    exact D.rd 2 (by decide) (by decide)
   .try refine ga ?_
    refine Wp (ml [15]) [Mc b2 C,Ca b {n with mr:=Uu n.mr C 2} gb hb sb vw Wh] ?_;try refine ga ?_
    refine ei (ua.mc {n with mr:=Uu n.mr C 2} gb hb sb vw Wh) (ua.mc {n with mr:=Uu n.mr C 3} gb hb sb vw Wh) ?_;try refine ga ?_
    exact D.rd 3 (by decide) (by decide)
  .obtain rfl:k=3:=by omega
   try refine ga ?_
   refine D.Vd [Ca b {n with mr:=Uu n.mr C 3} gb hb sb vw Wh,vb n gb cb d w tn,ta cb n.c u,hv,X,hw,Oa hb n.rg v,hh,Ta sb n.dc n.rc,R] (H2:=[Ca b {n with mr:=Uu n.mr C 3} gb hb sb vw Wh++((vb n gb cb d w tn++(ta cb n.c u++(hv++X)))++(hw++(Oa hb n.rg v++(hh++Ta sb n.dc n.rc)))),R]) (by simp) ?_;exact D.fc [Ca b {n with mr:=Uu n.mr C 3} gb hb sb vw Wh++((vb n gb cb d w tn++(ta cb n.c u++(hv++X)))++(hw++(Oa hb n.rg v++(hh++Ta sb n.dc n.rc))))] _ rfl ⟨rfl,_,⟨Wh,Zq.is (n:={n with mr:=Uu n.mr C 3}) (gb:=gb) (hb:=hb) (sb:=sb) ⟨at_.lg,at_.ws,at_.hd⟩⟩,rfl⟩
end
section
variable{n:ua}{b:Nat}{h:Hp}{T:Int}(hm:Cg n b T h){N:Int}(ok:We n N)(hN:N+16<=1099511627776)(Qh:0<=T)(hT:T+8000<=68719476736)
include hm ok hN Qh hT
theorem zF:Ct prog 100 [b] [h] (λr H'=>∃h1 h',ia 52 n.tick.2 r h1/\Cg n.tick.1 b (T+8000) h'/\H'=[h1,h']):=by
 obtain⟨Wh,gb,hb,sb,vw,hl,hw,v,hh,rfl,at_⟩:=hm;have KI:=at_.mono (T':=T+8000) (by omega);have hmI:=at_.lg;obtain⟨cb,X5⟩:=hmI;have X5:vr n.s gb cb T hl:=X5;have hm0:=X5;obtain⟨d,w,tn,u,hv,X,rfl,Ue⟩:=ua.YM X5;unfold ua.tick
 cases hu:n.s.jb with
 |false=>
  rw[if_pos rfl];have Gl:vb n gb cb d w tn=Bb gb cb d w false tn:=by rw[<-hu]
  refine ce func100 λg R=>?_;simp only[can];refine W.f0 [Ca b n gb hb sb vw Wh,vb n gb cb d w tn,ta cb n.c u,hv,X,hw,Oa hb n.rg v,hh,Ta sb n.dc n.rc,R] ?_;try refine ga ?_
  refine ei (n.mc gb hb sb vw Wh) (n.mc gb hb sb vw (.slice none 0 0)) ?_;rw[Gl];try refine ga ?_
  rw[<-Gl];refine D.Vd [Ca b n gb hb sb vw (.slice none 0 0),vb n gb cb d w tn,ta cb n.c u,hv,X,hw,Oa hb n.rg v,hh,Ta sb n.dc n.rc,R] (H2:=[[],Hh b n gb hb sb vw (.slice none 0 0) (vb n gb cb d w tn++(ta cb n.c u++(hv++X))) hw v hh,R]) (by simp) ?_
  exact Xa [[],Hh b n gb hb sb vw (.slice none 0 0) (vb n gb cb d w tn++(ta cb n.c u++(hv++X))) hw v hh] rfl rfl ⟨_,_,ia.nil _,⟨_,KI.is⟩,rfl⟩
 |true=>
  rw[if_neg (by decide)];have Gl:vb n gb cb d w tn=Bb gb cb d w true tn:=by rw[<-hu]
  have k1:=Wr n b gb hb sb vw (.slice none 0 0);have k2:=Gh n b gb hb sb vw (ia.nil 52) (by simp only[td];omega) {Da.z with kind:=10,to:=n.Fc,ep:=n.ep};rw[nil_append] at k2;have k4:=λvo=>aN n b gb hb sb vw vo N T ok.togi ok.cs hN Qh (by omega) hm0 at_.hd;have Eg:=ok.pull hN;obtain⟨r1,r2,r3,r4,r5,r6,r7,r8⟩:=n.Sd;have Br:ia 212 n.pull.ws vw hw:=by rw[r4];exact at_.ws
  unfold ua.yz;try simp only[]
  generalize hh0:({n.out 10 n.Fc with ep:=n.ep}:Da)=Xr;have k2:Ct prog 174 [b,.agg (List.toArray (Da.enc {Da.z with kind:=10,to:=n.Fc,ep:=n.ep}))] [Ca b n gb hb sb vw (.slice none 0 0),[]] (jz b n gb hb sb vw [Xr] []):=by rw[<-hh0];exact k2
  generalize n.pull=m at k4 Eg r1 r2 r3 r5 r6 r7 Br⊢;refine ce func100 λg R=>?_;simp only[can];refine W.f0 [Ca b n gb hb sb vw Wh,vb n gb cb d w tn,ta cb n.c u,hv,X,hw,Oa hb n.rg v,hh,Ta sb n.dc n.rc,R] ?_;try refine ga ?_
  refine ei (n.mc gb hb sb vw Wh) (n.mc gb hb sb vw (.slice none 0 0)) ?_;rw[Gl];try refine ga ?_
  rw[<-Gl];refine Wp (ml [2,1,6]) [Ca b n gb hb sb vw (.slice none 0 0),ta cb n.c u] ?_;repeat' first|refine ga ?_|refine cq k1 ?_|refine jf (Da.enc {Da.z with kind:=10,to:=n.Fc,ep:=n.ep}) ?_
  refine WX.Pe ?_;refine ck k2 ?_;rintro _ _ ⟨rfl,v1,h1,hs1,rfl⟩;refine Za ?_;refine ck (k4 v1) ?_;rintro _ _ ⟨rfl,l1,v2,Er,rfl,xe,KU⟩;have hm2:=xe;obtain⟨d',w',Aj,u',Rc,X',rfl,Hl⟩:=ua.YM xe;have oc:=Eg.xb;rw[<-r6,<-r5,<-r7,<-r1,<-r2];refine WX.f0 [Ca b m gb hb sb vw v1,vb m gb cb d' w' Aj,ta cb m.c u',Rc,X',Oa hb m.rg v2,Er,h1,hw,Ta sb m.dc m.rc,R] ?_;have a1:=Bv m b gb hb sb vw hs1 (by simp only[Ib,td];omega) (cb:=cb) (d:=d') (w:=w') (tn:=Aj) (v:=u') oc;have g1:=m.Ug;have g2:=m.Rj;have g3:=m.Jg;try refine ga ?_
  refine ck a1 ?_;rintro _ _ ⟨rfl,v3,h3,Cc,rfl⟩;have a2:=Ow m b gb hb sb vw Cc (by simp only[Ib,td,Eb];omega) (cb:=cb) (d:=d') (w:=w') (tn:=Aj) (v:=u') oc Hl.rs Eg.cs;refine Za ?_;refine ck a2 ?_;rintro _ _ ⟨rfl,v4,h4,hs4,rfl⟩;have a3:=iu m b gb hb sb vw hs4 (by simp only[Ib,td,Eb];omega) (cb:=cb) (d:=d') (w:=w') (tn:=Aj) (v:=u') oc;refine Za ?_;refine ck a3 ?_;rintro _ _ ⟨rfl,v5,h5,hs5,rfl⟩;simp only[can];obtain⟨B,hB⟩:∃B,[Xr]++m.Yd++m.Qm++m.Af=B:=⟨_,rfl⟩;have hBl:B.length<=10:=by rw[<-hB];simp only[Ib,td,Eb];omega
  rw[hB] at hs5;have hsp:∀l:List Da,Xr::(m.Yd++(m.Qm++(m.Af++l)))=B++l:=λl=>by rw[<-hB];simp
  rw[hsp];have a4:=wk oc.co cb u';obtain⟨su,hsu⟩:∃su,m.c.su=su:=⟨_,rfl⟩;have hs:m.sure=(decide m.c.last && su):=by unfold ua.sure;rw[hsu]
  cases hq:m.sure with
  |false=>
   rw[if_pos rfl,append_nil];by_cases cl:m.c.last
   .rw[Mi cl] at a4;rw[hq,Mi cl,Bool.true_and] at hs;subst hs;repeat' first|refine ga ?_|refine cq a4 ?_
    refine W.as 54 (.bool true) rfl (by rw[hsu];rfl) ?_;try refine ga ?_
    refine D.Vd [h5,Ca b m gb hb sb vw v5,vb m gb cb d' w' Aj,ta cb m.c u',Rc,X',hw,Oa hb m.rg v2,Er,Ta sb m.dc m.rc,R] (H2:=[h5,Ca b m gb hb sb vw v5++((vb m gb cb d' w' Aj++(ta cb m.c u'++(Rc++X')))++(hw++(Oa hb m.rg v2++(Er++Ta sb m.dc m.rc)))),R]) (by simp) ?_;exact Xa [h5,Ca b m gb hb sb vw v5++((vb m gb cb d' w' Aj++(ta cb m.c u'++(Rc++X')))++(hw++(Oa hb m.rg v2++(Er++Ta sb m.dc m.rc))))] rfl rfl ⟨_,_,hs5,⟨v5,Zq.is (n:=m) (gb:=gb) (hb:=hb) (sb:=sb) ⟨Tf.mono ⟨cb,hm2⟩ (by omega),Br,KU⟩⟩,rfl⟩
   .rw[rj cl] at a4;repeat' first|refine ga ?_|refine cq a4 ?_
    refine D.Vd [h5,Ca b m gb hb sb vw v5,vb m gb cb d' w' Aj,ta cb m.c u',Rc,X',hw,Oa hb m.rg v2,Er,Ta sb m.dc m.rc,R] (H2:=[h5,Ca b m gb hb sb vw v5++((vb m gb cb d' w' Aj++(ta cb m.c u'++(Rc++X')))++(hw++(Oa hb m.rg v2++(Er++Ta sb m.dc m.rc)))),R]) (by simp) ?_
    exact Xa [h5,Ca b m gb hb sb vw v5++((vb m gb cb d' w' Aj++(ta cb m.c u'++(Rc++X')))++(hw++(Oa hb m.rg v2++(Er++Ta sb m.dc m.rc))))] rfl rfl ⟨_,_,hs5,⟨v5,Zq.is (n:=m) (gb:=gb) (hb:=hb) (sb:=sb) ⟨Tf.mono ⟨cb,hm2⟩ (by omega),Br,KU⟩⟩,rfl⟩
  |true=>
   rw[if_neg (by decide)];rw[hq] at hs
   have cl:m.c.last:=of_decide_eq_true (by cases hx:decide m.c.last with
    |true=>rfl
    |false=>rw[hx] at hs;cases hs)
   rw[Mi cl] at a4 hs;rw[Bool.true_and] at hs;subst hs;repeat' first|refine ga ?_|refine cq a4 ?_
   refine W.as 54 (.bool false) rfl (by rw[hsu];rfl) ?_;try refine ga ?_
   have tg:=oc.len;have Iq:m.Kb.length<=1000000:=by unfold ua.Kb;rw[Oe];omega
   have a5:=Eo m b gb hb sb cb d' w' Aj vw v5 u' oc Eg.cs Hl.rs;have a6:=ko m.rg (Co m u' oc Eg.cs Hl.rs) Iq;generalize Bc m.rg m.Kb=C at a6⊢;refine W.cj (α:=Nat) (λ_=>True) (λy=>[(0,b),(4,y)]) (λy=>[Mc y C,Ca b m gb hb sb vw v5,h5,vb m gb cb d' w' Aj,ta cb m.c u',Rc,X',Oa hb m.rg v2,Er,hw,Ta sb m.dc m.rc,R]) ?_ ?_
   .refine U6 (ml [6,4]) [Ca b m gb hb sb vw v5] ?_;repeat' first|refine ga ?_|refine al λ_=>?_|refine WY.lf ?_|refine WY.back ?_|refine vn 0 ?_|refine vn 1 ?_|refine vn 2 ?_|refine vn 3 ?_|refine vn 4 ?_|refine vn 5 ?_|refine WY.Cv 6 8 (by decide+kernel) rfl rfl ?_ ?_|refine WY.Cv 7 8 (by decide+kernel) rfl rfl ?_ ?_|refine KM 6 ?_|refine KM 7 ?_|refine KM 8 ?_|refine KM 9 ?_|refine WY.fin (by kernel_rfl) ?_|refine cq a5 ?_|refine cq a6 ?_|refine xg V3.z.enc C.enc ?_
    all_goals exact D.aQ _ trivial
   rintro b4 -;obtain⟨D1,A7⟩:∃D1:Nat,m.Ec=(D1:Int):=⟨m.Ec.toNat,by have:=Eg.dd;omega⟩;obtain⟨E1,B7⟩:∃E1:Nat,m.rn=(E1:Int):=⟨m.rn.toNat,by have:=Eg.rr;omega⟩;obtain⟨M1,hM1⟩:∃M1:Nat,m.nn=(M1:Int):=⟨m.nn.toNat,by have:=Eg.nn;omega⟩;have hD2:D1<=100:=by have:=Eg.dd;omega
   have hE2:E1<=100:=by have:=Eg.rr;omega
   have hM2:M1<=100:=by have:=Eg.nn;omega
   have Ah:∀kind x r,(m.Ri kind x r C).length<=100:=λkind x r=>by unfold ua.Ri;rw[bf,length_range];omega
   have hsh:∀x,(m.Df x).length<=100:=λx=>ua.Ev (by omega) x;obtain⟨f1,fY⟩:∃f1:Nat->List Da,f1=λ(x:Nat)=>if(x:Int)=m.dc then[] else m.Df (x:Int)++m.Ri 13 (x:Int) m.rg C:=⟨_,rfl⟩
   obtain⟨f2,LU⟩:∃f2:Nat->List Da,f2=λ(r:Nat)=>if(r:Int)=m.rg then[] else m.Ri 14 m.dc (r:Int) C:=⟨_,rfl⟩
   have hfl:∀(f:Nat->List Da) (k:Nat),((List.range (k+1)).map f).flatten=((List.range k).map f).flatten++f k:=λf k=>by rw[range_succ,He,flatten_append];simp
   have Jn:∀kind x r,m.Ri kind x r C=(List.range M1).map λ(i:Nat)=>{({Da.z with kind:=kind,to:=⟨1,x,r,(i:Int)⟩,c0:=C.a,c1:=C.b,c2:=C.c}:Da) with fr:=m.self}:=λkind x r=>by unfold ua.Ri;rw[hM1,Int.toNat_natCast];rfl
   try refine ga ?_
   refine W.lo (α:=Nat×Value×Hp) (λy=>y.1<=D1/\(B++((List.range y.1).map f1).flatten).length<=10+200*y.1/\ia 52 (B++((List.range y.1).map f1).flatten) y.2.1 y.2.2)
    (λy=>[(0,b),(4,b4),(5,.int .i64 (y.1:Int))])
    (λy=>[Mc b4 C,Ca b m gb hb sb vw y.2.1,y.2.2,vb m gb cb d' w' Aj,ta cb m.c u',Rc,X',Oa hb m.rg v2,Er,hw,Ta sb m.dc m.rc,R]) (λy=>D1 - y.1) (0,v5,h5) ⟨di _,by simp only[range_zero,map_nil,flatten_nil,append_nil];omega,by simp only[range_zero,map_nil,flatten_nil,append_nil];exact hs5⟩ ?_
   rintro⟨k,v6,h6⟩ ⟨hk,gY,Nq⟩;simp only[] at hk gY Nq⊢;have e1:=hfl f1 k;have e2:f1 k=if(k:Int)=m.dc then[] else m.Df (k:Int)++m.Ri 13 (k:Int) m.rg C:=by rw[fY]
   by_cases hlt:k<D1
   .have hlt':(k:Int)<m.Ec:=by omega
    have g1:=hsh (k:Int);have g2:=Ah 13 (k:Int) m.rg;generalize hacc:B++((List.range k).map f1).flatten=acc at gY Nq;by_cases hx:(k:Int)=m.dc
    .rw[if_pos hx] at e2;have e3:B++((List.range (k+1)).map f1).flatten=acc:=by rw[e1,e2,append_nil,hacc]
     try refine ga ?_
     exact D.rd (k+1,v6,h6) ⟨by simp only[];omega,by simp only[];rw[e3];omega,by simp only[];rw[e3];exact Nq⟩ (by simp only[];omega)
    .rw[if_neg hx] at e2;have e3:B++((List.range (k+1)).map f1).flatten=(acc++m.Df (k:Int))++m.Ri 13 (k:Int) m.rg C:=by rw[e1,e2,<-Sc,<-Sc,hacc]
     have a7:=yF m b gb hb sb cb d' w' Aj vw v6 u' oc Eg.cs Hl.rs Eg.nn Nq (by omega) (k:Int);try refine ga ?_
     refine ck a7 ?_;rintro _ _ ⟨rfl,v7,h7,Gn,rfl⟩;simp only[can];have vV:(acc++m.Df (k:Int)).length<=10+200*k+100:=by rw[Eb];omega
     generalize acc++m.Df (k:Int)=wV at Gn vV e3;rw[Jn] at e3;try refine ga ?_
     refine W.lo (α:=Nat×Value×Hp) (λy=>y.1<=M1/\ia 52 (wV++(List.range y.1).map λ(ii:Nat)=>{({Da.z with kind:=13,to:=⟨1,(k:Int),m.rg,(ii:Int)⟩,c0:=C.a,c1:=C.b,c2:=C.c}:Da) with fr:=m.self}) y.2.1 y.2.2)
      (λy=>[(0,b),(4,b4),(5,.int .i64 (k:Int)),(6,.int .i64 (y.1:Int))])
      (λy=>[Mc b4 C,Ca b m gb hb sb vw y.2.1,y.2.2,vb m gb cb d' w' Aj,ta cb m.c u',Rc,X',Oa hb m.rg v2,Er,hw,Ta sb m.dc m.rc,R]) (λy=>M1 - y.1) (0,v7,h7) ⟨di _,by simp only[range_zero,map_nil,append_nil];assumption⟩ ?_
     rintro⟨j,v8,h8⟩ ⟨hj,ju⟩;simp only[] at hj ju⊢;by_cases hlj:j<M1
     .have C7:(j:Int)<m.nn:=by omega
      have hn:=Ck (λ(ii:Nat)=>({({Da.z with kind:=13,to:=⟨1,(k:Int),m.rg,(ii:Int)⟩,c0:=C.a,c1:=C.b,c2:=C.c}:Da) with fr:=m.self}:Da)) hlj;have ZA:=Gh m b gb hb sb vw ju (by rw[Eb,bf,length_range];omega) {Da.z with kind:=13,to:=⟨1,(k:Int),m.rg,(j:Int)⟩,c0:=C.a,c1:=C.b,c2:=C.c};rw[Sc,<-hn] at ZA;try refine ga ?_
      refine Wp (ml [11]) [Mc b4 C,Ca b m gb hb sb vw v8] ?_;repeat' first|refine ga ?_|refine Pg C.enc ?_|refine jf (t:=35) (Ki.enc ⟨1,(k:Int),m.rg,(j:Int)⟩) ?_|refine jf (t:=52) (Da.enc {Da.z with kind:=13,to:=⟨1,(k:Int),m.rg,(j:Int)⟩,c0:=C.a,c1:=C.b,c2:=C.c}) ?_
      refine ck ZA ?_;rintro _ _ ⟨rfl,v9,h9,Bp,rfl⟩;refine Za ?_;exact D.rd (j+1,v9,h9) ⟨by simp only[];omega,Bp⟩ (by simp only[];omega)
     .obtain rfl:j=M1:=by omega
      have cV: ¬(j:Int)<m.nn:=by omega
      rw[<-e3] at ju;try refine ga ?_
      exact D.rd (k+1,v8,h8) ⟨by simp only[];omega,by simp only[];rw[e3,Eb,bf,length_range];omega,ju⟩ (by simp only[];omega)
   .obtain rfl:k=D1:=by omega
    have hlt': ¬(k:Int)<m.Ec:=by omega
    generalize D7:B++((List.range k).map f1).flatten=B2 at gY Nq;try refine ga ?_
    refine W.lo (α:=Nat×Value×Hp) (λy=>y.1<=E1/\(B2++((List.range y.1).map f2).flatten).length<=20010+100*y.1/\ia 52 (B2++((List.range y.1).map f2).flatten) y.2.1 y.2.2)
     (λy=>[(0,b),(4,b4),(7,.int .i64 (y.1:Int))])
     (λy=>[Mc b4 C,Ca b m gb hb sb vw y.2.1,y.2.2,vb m gb cb d' w' Aj,ta cb m.c u',Rc,X',Oa hb m.rg v2,Er,hw,Ta sb m.dc m.rc,R]) (λy=>E1 - y.1) (0,v6,h6) ⟨di _,by simp only[range_zero,map_nil,flatten_nil,append_nil];omega,by simp only[range_zero,map_nil,flatten_nil,append_nil];exact Nq⟩ ?_
    rintro⟨i,v7,h7⟩ ⟨hi,vV,Gn⟩;simp only[] at hi vV Gn⊢;have e1:=hfl f2 i;have e2:f2 i=if(i:Int)=m.rg then[] else m.Ri 14 m.dc (i:Int) C:=by rw[LU]
    by_cases hli:i<E1
    .have E7:(i:Int)<m.rn:=by omega
     have g2:=Ah 14 m.dc (i:Int);generalize hacc:B2++((List.range i).map f2).flatten=acc at vV Gn;by_cases hx:(i:Int)=m.rg
     .have hxx: ¬ ¬(i:Int)=m.rg:=not_not_intro hx;rw[if_pos hx] at e2;have e3:B2++((List.range (i+1)).map f2).flatten=acc:=by rw[e1,e2,append_nil,hacc]
      try refine ga ?_
      refine W.lo (α:=Nat) (λk=>k=0) (λk=>[(0,b),(4,b4),(7,.int .i64 (i:Int)),(8,.int .i64 0)])
       (λ_=>[Mc b4 C,Ca b m gb hb sb vw v7,h7,vb m gb cb d' w' Aj,ta cb m.c u',Rc,X',Oa hb m.rg v2,Er,hw,Ta sb m.dc m.rc,R]) (λk=>1 - k) 0 rfl ?_
      rintro k0 rfl;by_cases hz:0<m.nn
      all_goals
       try refine ga ?_
       exact D.rd (i+1,v7,h7) ⟨by simp only[];omega,by simp only[];rw[e3];omega,by simp only[];rw[e3];exact Gn⟩ (by simp only[];omega)
     .rw[if_neg hx] at e2;have e3:B2++((List.range (i+1)).map f2).flatten=acc++m.Ri 14 m.dc (i:Int) C:=by rw[e1,e2,<-Sc,hacc]
      rw[Jn] at e3;generalize acc=wV at Gn vV e3;have vV:wV.length<=100000:=by omega
      try refine ga ?_
      refine W.lo (α:=Nat×Value×Hp) (λy=>y.1<=M1/\ia 52 (wV++(List.range y.1).map λ(ii:Nat)=>{({Da.z with kind:=14,to:=⟨1,m.dc,(i:Int),(ii:Int)⟩,c0:=C.a,c1:=C.b,c2:=C.c}:Da) with fr:=m.self}) y.2.1 y.2.2)
       (λy=>[(0,b),(4,b4),(7,.int .i64 (i:Int)),(8,.int .i64 (y.1:Int))])
       (λy=>[Mc b4 C,Ca b m gb hb sb vw y.2.1,y.2.2,vb m gb cb d' w' Aj,ta cb m.c u',Rc,X',Oa hb m.rg v2,Er,hw,Ta sb m.dc m.rc,R]) (λy=>M1 - y.1) (0,v7,h7) ⟨di _,by simp only[range_zero,map_nil,append_nil];assumption⟩ ?_
      rintro⟨j,v8,h8⟩ ⟨hj,ju⟩;simp only[] at hj ju⊢;by_cases hlj:j<M1
      .have C7:(j:Int)<m.nn:=by omega
       have hn:=Ck (λ(ii:Nat)=>({({Da.z with kind:=14,to:=⟨1,m.dc,(i:Int),(ii:Int)⟩,c0:=C.a,c1:=C.b,c2:=C.c}:Da) with fr:=m.self}:Da)) hlj;have ZA:=Gh m b gb hb sb vw ju (by rw[Eb,bf,length_range];omega) {Da.z with kind:=14,to:=⟨1,m.dc,(i:Int),(j:Int)⟩,c0:=C.a,c1:=C.b,c2:=C.c};rw[Sc,<-hn] at ZA;try refine ga ?_
       refine Wp (ml [11]) [Mc b4 C,Ca b m gb hb sb vw v8] ?_;repeat' first|refine ga ?_|refine Pg C.enc ?_|refine jf (t:=35) (Ki.enc ⟨1,m.dc,(i:Int),(j:Int)⟩) ?_|refine jf (t:=52) (Da.enc {Da.z with kind:=14,to:=⟨1,m.dc,(i:Int),(j:Int)⟩,c0:=C.a,c1:=C.b,c2:=C.c}) ?_
       refine ck ZA ?_;rintro _ _ ⟨rfl,v9,h9,Bp,rfl⟩;refine Za ?_;exact D.rd (j+1,v9,h9) ⟨by simp only[];omega,Bp⟩ (by simp only[];omega)
      .obtain rfl:j=M1:=by omega
       have cV: ¬(j:Int)<m.nn:=by omega
       rw[<-e3] at ju;try refine ga ?_
       exact D.rd (i+1,v8,h8) ⟨by simp only[];omega,by simp only[];rw[e3,Eb,bf,length_range];omega,ju⟩ (by simp only[];omega)
    .obtain rfl:i=E1:=by omega
     have E7: ¬(i:Int)<m.rn:=by omega
     try refine ga ?_
     rw[A7,B7,Int.toNat_natCast,Int.toNat_natCast,<-fY,<-LU,<-Sc,D7];refine D.Vd [h7,Ca b m gb hb sb vw v7,vb m gb cb d' w' Aj,ta cb m.c u',Rc,X',hw,Oa hb m.rg v2,Er,Ta sb m.dc m.rc,R] (H2:=[h7,Ca b m gb hb sb vw v7++((vb m gb cb d' w' Aj++(ta cb m.c u'++(Rc++X')))++(hw++(Oa hb m.rg v2++(Er++Ta sb m.dc m.rc)))),R]) (by simp) ?_;exact Xa [h7,Ca b m gb hb sb vw v7++((vb m gb cb d' w' Aj++(ta cb m.c u'++(Rc++X')))++(hw++(Oa hb m.rg v2++(Er++Ta sb m.dc m.rc))))] rfl rfl ⟨_,_,Gn,⟨v7,Zq.is (n:=m) (gb:=gb) (hb:=hb) (sb:=sb) ⟨Tf.mono ⟨cb,hm2⟩ (by omega),Br,KU⟩⟩,rfl⟩
end
def zz{s:Ga}{N:Int}(ok:s.ok N):∃s',s'.ok N/\Sj s s'/\(∀{b:Nat} {h:Hp},Dg s b h->Ct prog 19 [b] [h] (λr H'=>r= .tuple #[]/\∃h',H'=[h']/\Dg s' b h'))/\
  ∀{b:Nat} {h:Hp} {T:Int},Tf s b T h->Ct prog 199 [b] [h] (λr H'=>r= .tuple #[]/\∃h',H'=[h']/\Tf s' b T h'):=by
 cases s with
 |up l c t=>
  refine⟨.up l c t,ok,rfl,λ{b h} hm=>?_,λ{b h T} hm=>?_⟩
  .exact(hm.still λcb d w=>xL b cb c.dc c.rg c.nd d w).mono λr H' ⟨h1,h2⟩=>⟨h1,h,h2,hm⟩
  .exact(hm.still λcb d w tn=>QI b cb d w tn).mono λr H' ⟨h1,h2⟩=>⟨h1,h,h2,hm⟩
 |dn l c q=>
  have lg:xV l:=ok.lg;obtain⟨l',t',Vu,⟨hf,h1,h2,h3,h4,h5⟩,hp,hq⟩:=yL lg.ok q;have hst:Sj (.dn l c q) (.up l' (c.again (Ua l')) t'):=⟨l',t',rfl,Vu,hf,h1,h2,h3,h4,h5⟩;refine⟨_,hst.ok ok,hst,λ{b h} hm=>?_,λ{b h T} hm=>?_⟩
  .obtain⟨cb,d,w,v,hv,seg,t,hd,rfl,at_⟩:=hm;obtain⟨rfl,rfl⟩:=at_.nv rfl;have hdk:Od ⟨qe l q,[]⟩ d hd:=at_.dk;have hid:=RI c (Ua l')
   have h0:=(zL b cb c.dc c.rg c.nd (w:=w) (hp hdk) (iN Vu) (lg.sub h3)).frame (F:=[ja cb (CS.new c.dc c.rg c.nd) (.slice none 0 0),zf w d seg t])
    (post':=λr H'=>r= .tuple #[]/\∃ob w' hd' v hv,H'=[Mb b ob c.dc c.rg c.nd d w' true,ja ob (c.again (Ua l')) v,hv,zf w' d (va l') t',hd']++[ja cb (CS.new c.dc c.rg c.nd) (.slice none 0 0),zf w d seg t]/\ia 49 (c.again (Ua l')).lg v hv/\Od (dk l') d hd') λr H' ⟨e1,ob,w',hd',v',Rc,e2,e3,e4⟩=>⟨e1,ob,w',hd',v',Rc,by rw[e2];rfl,e3,e4⟩
   have h1:=h0.perm (pre':=[Mb b cb c.dc c.rg c.nd d w false,ja cb (CS.new c.dc c.rg c.nd) (.slice none 0 0),zf w d seg t,hd]) (List.Perm.flatten (.cons _ (perm_append_comm (l₁:=[hd]) (l₂:=[ja cb (CS.new c.dc c.rg c.nd) (.slice none 0 0),zf w d seg t]))));refine h1.yI (by simp[Ga.c0,Ga.ch,Ga.jb]) λr H' ⟨e1,ob,w',hd',v',Rc,e2,e3,e4⟩=>?_;subst e2;refine⟨[Mb b ob (c.again (Ua l')).dc (c.again (Ua l')).rg (c.again (Ua l')).nd d w' true++(ja ob (c.again (Ua l')) v'++(Rc++(zf w' d (va l') t'++hd')))],ja cb (CS.new c.dc c.rg c.nd) (.slice none 0 0)++zf w d seg t,?_,e1,_,rfl,ob,d,w',v',Rc,va l',t',hd',rfl,⟨e3,e4,λ_=>rfl,λl'' c'' t'' e=>(by cases e;rfl),λe=>(by cases e)⟩⟩;rw[hid.1,hid.2.1,hid.2.2];simp
  .obtain⟨cb,d,w,v,hv,seg,t,tn,hd,rfl,at_⟩:=hm;obtain⟨rfl,rfl⟩:=at_.nv rfl;obtain⟨t0,k0,k1,hdk⟩:=(show ∃t,0<=t/\t<=T/\vg (((qe l q).map fq).map Ub.pl) t d hd from at_.dk)
   have h0:=(SI b cb c (w:=w) (tn:=tn) (hq k0 k1 hdk) (iN Vu) (lg.sub h3)).frame (F:=[uf w d seg t])
    (post':=λr H'=>r= .tuple #[]/\∃ob w' hd' Aj v hv,H'=[Bb b ob d w' true Aj,ta ob (c.again (Ua l')) v,hv,uf w' d (va l') t',hd']++[uf w d seg t]/\ia 49 (c.again (Ua l')).lg v hv/\RD l' d hd' T) λr H' ⟨e1,ob,w',hd',Aj,v',Rc,e2,e3,e4⟩=>⟨e1,ob,w',hd',Aj,v',Rc,by rw[e2];rfl,e3,e4⟩
   have h1:=h0.perm (pre':=[Bb b cb d w false tn,ta cb (CS.new c.dc c.rg c.nd) (.slice none 0 0),uf w d seg t,hd]) (List.Perm.flatten (.cons _ (.cons _ (perm_append_comm (l₁:=[hd]) (l₂:=[uf w d seg t])))));refine h1.yI (by simp[Ga.c0,Ga.ch,Ga.jb]) λr H' ⟨e1,ob,w',hd',Aj,v',Rc,e2,e3,e4⟩=>?_;subst e2;exact⟨[Bb b ob d w' true Aj++(ta ob (c.again (Ua l')) v'++(Rc++(uf w' d (va l') t'++hd')))],uf w d seg t,by simp,e1,_,rfl,ob,d,w',v',Rc,va l',t',Aj,hd',rfl,⟨e3,e4,λ_=>rfl,λe=>(by cases e)⟩⟩
def yV(a b c e:Int):Bool:=decide ((1<=a/\a<=3)/\(1<=b/\b<=3)/\(1<=c/\c<=4)/\(1<=e/\e<=4))
def TI(a b c e:Int):Ct prog 53 [.agg (List.toArray [a,b,c,e])] [] (λv H'=>v= .bool (yV a b c e)/\H'=[]):=by
 unfold yV;by_cases h1:1<=a
 .by_cases h2:a<=3
  .by_cases h3:1<=b
   .by_cases h4:b<=3
    .by_cases h5:1<=c
     .by_cases h6:c<=4
      .by_cases h7:1<=e
       .refine ce func53 λg R=>?_;repeat' first|refine rn ?_|refine Uc λ_=>?_
        exact Xa [] rfl rfl ⟨by simp[h1,h2,h3,h4,h5,h6,h7],rfl⟩
       .refine ce func53 λg R=>?_;repeat' first|refine rn ?_|refine Uc λ_=>?_
        exact Xa [] rfl rfl ⟨by simp[h7],rfl⟩
      .refine ce func53 λg R=>?_;repeat' first|refine rn ?_|refine Uc λ_=>?_
       exact Xa [] rfl rfl ⟨by simp[h6],rfl⟩
     .refine ce func53 λg R=>?_;repeat' first|refine rn ?_|refine Uc λ_=>?_
      exact Xa [] rfl rfl ⟨by simp[h5],rfl⟩
    .refine ce func53 λg R=>?_;repeat' first|refine rn ?_|refine Uc λ_=>?_
     exact Xa [] rfl rfl ⟨by simp[h4],rfl⟩
   .refine ce func53 λg R=>?_;repeat' first|refine rn ?_|refine Uc λ_=>?_
    exact Xa [] rfl rfl ⟨by simp[h3],rfl⟩
  .refine ce func53 λg R=>?_;repeat' first|refine rn ?_|refine Uc λ_=>?_
   exact Xa [] rfl rfl ⟨by simp[h2],rfl⟩
 .refine ce func53 λg R=>?_;repeat' first|refine rn ?_|refine Uc λ_=>?_
  exact Xa [] rfl rfl ⟨by simp[h1],rfl⟩
def UI{n:Nat}(h1:1<=n)(h4:n<=4):Ct prog 56 [.int .i64 (n:Int)] [] (λr H'=>r=jX (some (Kc n))/\H'=[]):=by
 have hz:Wa.enc (Fk n 0)=Wa.enc ⟨1,(n:Int),Mem.z,Mem.z,Mem.z,Mem.z,false,Mem.z⟩:=rfl;refine ce func56 λg R=>?_;repeat' first|refine rn ?_|refine al λ_=>?_
 rename_i b2 b4;refine W.flat (H':=[od b4 (Fk n 0),od b2 Wa.z,R]) rfl ?_;refine W.lo (α:=Nat) (λk=>k<=n) (λk=>[(0,.int .i64 (n:Int)),(2,b2),(3,.bool false),(4,b4),(5,.int .i64 (k:Int))]) (λk=>[od b4 (Fk n k),od b2 Wa.z,R]) (λk=>n - k) 0 (di _) ?_;intro k hk;by_cases hlt:k<n
 .rcases(by omega:k=0\/k=1\/k=2\/k=3) with rfl|rfl|rfl|rfl
  .try refine run ?_
   refine D.flat (H':=[od b4 (Fk n (0+1)),od b2 Wa.z,R]) rfl ?_;exact D.re (0+1)
  .try refine run ?_
   refine D.flat (H':=[od b4 (Fk n (1+1)),od b2 Wa.z,R]) rfl ?_;exact D.re (1+1)
  .try refine run ?_
   refine D.flat (H':=[od b4 (Fk n (2+1)),od b2 Wa.z,R]) rfl ?_;exact D.re (2+1)
  .try refine run ?_
   refine D.flat (H':=[od b4 (Fk n (3+1)),od b2 Wa.z,R]) rfl ?_;exact D.re (3+1)
 .obtain rfl:k=n:=by omega
  rw[AF h1 h4];try refine run ?_
  exact D.Bg [] _ rfl (.Va rfl rfl (.tmp rfl .nil)) rfl ⟨rfl,rfl⟩
def ua.Bi(n:ua)(gp vw hp sp vo:Value):List Value:=
 [.int .i64 n.Ec,.int .i64 n.rn,.int .i64 n.nn,.int .i64 n.cl,.int .i64 1,.int .i64 n.dc,.int .i64 n.rg,.int .i64 n.nd,gp,vw,hp,sp]++(n.kn.enc++(n.mr.enc++[vo]))
abbrev VI(b:Nat)(n:ua)(gp vw hp sp vo:Value):Hp:=[(b,.cells (List.toArray (n.Bi gp vw hp sp vo)) 112 (0,0))]
def BF(n:ua)(b:Nat)(gp vw hp sp vo:Value):Ct prog 55 [b] [VI b n gp vw hp sp vo]
  (λr H'=>r= .tuple #[]/\∃hb sb,H'=[VI b n.lost gp (.slice none 0 0) (.pointer (some ⟨hb,0,none⟩)) (.pointer (some ⟨sb,0,none⟩)) vo,Oa hb n.rg (.slice none 0 0),Ta sb n.dc V3.z]):=by
 refine ng func55 λg R=>?_;refine ei (n.Bi gp vw hp sp vo) (n.Bi gp (.slice none 0 0) hp sp vo) ?_;repeat' first|refine ga ?_|refine Uc λ_=>?_|refine jf [n.rg,.slice none 0 0] ?_
 rename_i hb;refine ei (n.Bi gp (.slice none 0 0) hp sp vo) (n.Bi gp (.slice none 0 0) (.pointer (some ⟨hb,0,none⟩)) sp vo) ?_;repeat' first|refine ga ?_|refine Uc λ_=>?_|refine jf (n.dc::V3.z.enc) ?_
 rename_i sb;refine ei (n.Bi gp (.slice none 0 0) (.pointer (some ⟨hb,0,none⟩)) sp vo) (n.Bi gp (.slice none 0 0) (.pointer (some ⟨hb,0,none⟩)) (.pointer (some ⟨sb,0,none⟩)) vo) ?_;repeat' first|refine ga ?_|refine bdZ V9.z.enc ?_
 refine WX.qd (vs:=V9.z.enc) (b:=b) (i:=12) (cs:=n.Bi gp (.slice none 0 0) (.pointer (some ⟨hb,0,none⟩)) (.pointer (some ⟨sb,0,none⟩)) vo) rfl rfl rfl rfl rfl rfl ?_;rw[show setAt (n.Bi gp (.slice none 0 0) (.pointer (some ⟨hb,0,none⟩)) (.pointer (some ⟨sb,0,none⟩)) vo) 12 V9.z.enc=ua.Bi {n with kn:=V9.z} gp (.slice none 0 0) (.pointer (some ⟨hb,0,none⟩)) (.pointer (some ⟨sb,0,none⟩)) vo from rfl];repeat' first|refine ga ?_|refine bdZ V3.z.enc ?_
 refine WX.qd (vs:=V3.z.enc) (b:=b) (i:=21) (cs:=ua.Bi {n with kn:=V9.z} gp (.slice none 0 0) (.pointer (some ⟨hb,0,none⟩)) (.pointer (some ⟨sb,0,none⟩)) vo) rfl rfl rfl rfl rfl rfl ?_;rw[show setAt (ua.Bi {n with kn:=V9.z} gp (.slice none 0 0) (.pointer (some ⟨hb,0,none⟩)) (.pointer (some ⟨sb,0,none⟩)) vo) 21 V3.z.enc=n.lost.Bi gp (.slice none 0 0) (.pointer (some ⟨hb,0,none⟩)) (.pointer (some ⟨sb,0,none⟩)) vo from rfl];try refine ga ?_
 exact D.fc [VI b n.lost gp (.slice none 0 0) (.pointer (some ⟨hb,0,none⟩)) (.pointer (some ⟨sb,0,none⟩)) vo,Oa hb n.rg (.slice none 0 0),Ta sb n.dc V3.z] _ rfl ⟨rfl,_,_,rfl⟩
section
variable{n:ua}{b:Nat}{h:Hp}{T:Int}(hm:Cg n b T h){N:Int}(ok:We n N)(Qh:0<=T)(hT:T+8000<=68719476736)
include hm ok Qh hT
theorem Az{keep:Int}(Om: -9223372036854775808<=keep)(hk2:keep<=9223372036854775807):Ct prog 102 [b,keep] [h] (λr H'=>r= .tuple #[]/\∃h',Cg (n.Dc keep) b T h'/\H'=[h']):=by
 obtain⟨Wh,gb,hb,sb,vw,hl,hw,v,hh,rfl,at_⟩:=hm;have hm0:=at_.lg;have cB:=AL ok.ok at_.lg Qh (by omega) Om hk2;obtain⟨cb,d,w,tn,u,hv,X,rfl,Ue⟩:=ua.HI at_.lg;unfold ua.Dc
 cases hu:n.s.jb with
 |false=>
  rw[if_pos rfl];have Gl:vb n gb cb d w tn=Bb gb cb d w false tn:=by rw[<-hu]
  refine ce func102 λg R=>?_;simp only[can];refine W.f0 [Ca b n gb hb sb vw Wh,vb n gb cb d w tn,ta cb n.c u,hv,X,hw,Oa hb n.rg v,hh,Ta sb n.dc n.rc,R] ?_;rw[Gl];try refine ga ?_
  rw[<-Gl];refine D.Vd [Ca b n gb hb sb vw Wh,vb n gb cb d w tn,ta cb n.c u,hv,X,hw,Oa hb n.rg v,hh,Ta sb n.dc n.rc,R] (H2:=[Hh b n gb hb sb vw Wh (vb n gb cb d w tn++(ta cb n.c u++(hv++X))) hw v hh,R]) (by simp) ?_
  exact D.fc [Hh b n gb hb sb vw Wh (vb n gb cb d w tn++(ta cb n.c u++(hv++X))) hw v hh] _ rfl ⟨rfl,_,⟨_,at_.is⟩,rfl⟩
 |true=>
  rw[if_neg (by decide)];have Gl:vb n gb cb d w tn=Bb gb cb d w true tn:=by rw[<-hu]
  have Ah:Ct prog 55 [b] [Ca b n gb hb sb vw Wh] (λr H'=>r= .tuple #[]/\∃hb' sb',H'=[VI b n.lost (gb) (.slice none 0 0) (.pointer (some ⟨hb',0,none⟩)) (.pointer (some ⟨sb',0,none⟩)) Wh,Oa hb' n.rg (.slice none 0 0),Ta sb' n.dc V3.z]):=BF n b (gb) vw (hb) (sb) Wh;obtain⟨n1,ic⟩:∃n1:ua,n1={n with s:=n.s.Dc keep,ws:=[],hd:=[],kn:=V9.z,rc:=V3.z,mr:=V3.z}:=⟨_,rfl⟩;have hid:=Ga.jq n.s keep
  have e6:∀hb' sb',VI b n.lost (gb) (.slice none 0 0) (.pointer (some ⟨hb',0,none⟩)) (.pointer (some ⟨sb',0,none⟩)) Wh=Ca b n1 gb hb' sb' (.slice none 0 0) Wh:=λhb' sb'=>by
   rw[ic];exact(ua.ig (b:=b) n.lost hid gb hb' sb' (.slice none 0 0) Wh).symm
  have p1:n1.hd=[]/\n1.rg=n.rg/\n1.dc=n.dc/\n1.rc=V3.z/\n1.ws=[]/\n1.s=n.s.Dc keep:=by rw[ic];exact⟨rfl,hid.2.1,hid.1,rfl,rfl,rfl⟩
  obtain⟨p1,p2,p3,p4,p5,p6⟩:=p1;rw[<-ic];rw[<-p6] at cB;refine ce func102 λg R=>?_;simp only[can];refine W.f0 [Ca b n gb hb sb vw Wh,vb n gb cb d w tn,ta cb n.c u,hv,X,hw,Oa hb n.rg v,hh,Ta sb n.dc n.rc,R] ?_;rw[Gl];try refine ga ?_
  rw[<-Gl];refine ck cB ?_;rintro _ _ ⟨rfl,l1,rfl,cg⟩;refine Za ?_;refine ck Ah ?_;rintro _ _ ⟨rfl,hb',sb',rfl⟩;refine Za ?_;rw[e6,<-p2,<-p3];refine D.Vd [Ca b n1 gb hb' sb' (.slice none 0 0) Wh,l1,Oa hb' n1.rg (.slice none 0 0),Ta sb' n1.dc V3.z,R] (H2:=[Ca b n1 gb hb' sb' (.slice none 0 0) Wh++(l1++([]++(Oa hb' n1.rg (.slice none 0 0)++([]++Ta sb' n1.dc V3.z)))),R]) (by simp) ?_;exact D.fc [Ca b n1 gb hb' sb' (.slice none 0 0) Wh++(l1++([]++(Oa hb' n1.rg (.slice none 0 0)++([]++Ta sb' n1.dc V3.z))))] _ rfl ⟨rfl,_,⟨Wh,gb,hb',sb',.slice none 0 0,l1,[],.slice none 0 0,[],by rw[<-p4],⟨cg,by rw[p5];exact ia.nil _,by rw[p1];exact ia.nil _⟩⟩,rfl⟩
theorem Bz{s':Ga}(hid:Lb n.s.c0 s'.c0)(hst:∀{b:Nat} {h:Hp} {T:Int},Tf n.s b T h->Ct prog 199 [b] [h] (λr H'=>r= .tuple #[]/\∃h',H'=[h']/\Tf s' b T h')):
  Ct prog 103 [b] [h] (λr H'=>r= .tuple #[]/\∃h',Cg {n with s:=s'} b T h'/\H'=[h']):=by
 have _:=ok;have _:=Qh;have _:=hT;obtain⟨Wh,gb,hb,sb,vw,hl,hw,v,hh,rfl,at_⟩:=hm;have cB:=hst at_.lg;obtain⟨n1,ic⟩:∃n1:ua,n1={n with s:=s'}:=⟨_,rfl⟩;have e1:Ca b n gb hb sb vw Wh=Ca b n1 gb hb sb vw Wh:=by rw[ic];exact(n.ig hid ..).symm
 have p1:n1.hd=n.hd/\n1.rg=n.rg/\n1.dc=n.dc/\n1.rc=n.rc/\n1.ws=n.ws/\n1.s=s':=by rw[ic];exact⟨rfl,hid.2.1,hid.1,rfl,rfl,rfl⟩
 obtain⟨p1,p2,p3,p4,p5,p6⟩:=p1;rw[<-ic];rw[<-p6] at cB;refine ce func103 λg R=>?_;simp only[can];refine W.f0 [Ca b n gb hb sb vw Wh,hl,hw,Oa hb n.rg v,hh,Ta sb n.dc n.rc,R] ?_;try refine ga ?_
 refine ck cB ?_;rintro _ _ ⟨rfl,l1,rfl,cg⟩;refine Za ?_;rw[e1];refine D.Vd [Ca b n1 gb hb sb vw Wh,l1,hw,Oa hb n.rg v,hh,Ta sb n.dc n.rc,R] (H2:=[Ca b n1 gb hb sb vw Wh++(l1++(hw++(Oa hb n.rg v++(hh++Ta sb n.dc n.rc)))),R]) (by simp) ?_;exact D.fc [Ca b n1 gb hb sb vw Wh++(l1++(hw++(Oa hb n.rg v++(hh++Ta sb n.dc n.rc))))] _ rfl ⟨rfl,_,⟨Wh,Dp.of p1 p2 p3 p4 cg (Int.le_refl _) (by rw[p5];exact at_.ws) at_.hd⟩,rfl⟩
end
def OR(dc rg nd:Int):Ct prog 54 [dc,rg,nd] [] (λr H'=>∃b h',r= .pointer (some ⟨b,0,none⟩)/\H'=[h']/\Tf (.up [] (CS.new dc rg nd) 0) b 0 h'):=
 (PR dc rg nd).pack rfl λr H' ⟨b,cb,d,w,hd,h1,h2,h3⟩=>by
  subst h2;exact⟨[Bb b cb d w true 0++(ta cb (CS.new dc rg nd) (.slice none 0 0)++([]++(uf w d (va []) 0++hd)))],by simp,b,_,h1,rfl,cb,d,w,.slice none 0 0,[],va [],0,0,hd,rfl,⟨ia.nil _,h3,λ_=>rfl,λe=>(by cases e)⟩⟩
def Cz{Ec rn:Int}{nn:Nat}{cl dc rg nd:Int}(h1:1<=Ec/\Ec<=3)(h2:1<=rn/\rn<=3)(h3:1<=nn/\nn<=4)(h4:1<=cl/\cl<=4)(h5:0<=dc/\dc<=Ec - 1)(h6:0<=rg/\rg<=rn - 1)(h7:0<=nd/\nd<=nn - 1):
  Ct prog 13 [.agg (List.toArray [.int .i64 Ec,.int .i64 rn,.int .i64 nn,.int .i64 cl]),.int .i64 dc,.int .i64 rg,.int .i64 nd] [] (λr H'=>∃b h',r= .tuple #[.pointer (some ⟨b,0,none⟩),.int .i64 0]/\Cg (ua.new Ec rn nn cl dc rg nd) b 486 h'/\H'=[h']):=by
 have b1:=TI Ec rn (nn:Int) cl;rw[show yV Ec rn (nn:Int) cl=true from decide_eq_true ⟨h1,h2,by omega,h4⟩] at b1;have n1: ¬dc<0:=by omega
 have n2: ¬Ec<=dc:=by omega
 have n3: ¬rg<0:=by omega
 have n4: ¬rn<=rg:=by omega
 have n5: ¬nd<0:=by omega
 have n6: ¬(nn:Int)<=nd:=by omega
 have F7:=OR dc rg nd;have qV:Ct prog 56 [.int .i64 (nn:Int)] [] (λr H'=>r= .tuple #[.agg (List.toArray (Kc nn).cfg.enc),.bool true]/\H'=[]):=UI h3.1 h3.2;obtain⟨n0,hn0⟩:∃n0:ua,n0=⟨Ec,rn,(nn:Int),cl,.up [] (CS.new dc rg nd) 0,[],[],V9.z,V3.z,V3.z⟩:=⟨_,rfl⟩;have hlo:n0.lost=n0:=by rw[hn0];rfl
 have hs0:n0.s= .up [] (CS.new dc rg nd) 0:=by rw[hn0]
 have hc0:∀gp vw hp sp vo,n0.Bi gp vw hp sp vo=[.int .i64 Ec,.int .i64 rn,.int .i64 (nn:Int),.int .i64 cl,.int .i64 1,.int .i64 dc,.int .i64 rg,.int .i64 nd,gp,vw,hp,sp]++(V9.z.enc++(V3.z.enc++[vo])):=λgp vw hp sp vo=>by rw[hn0];rfl
 refine Ct.mk' func13 rfl rfl rfl (λg R=>?_);try simp only[ca]
 simp only[na];repeat'(first|refine ga ?_|refine bx rfl (λ_=>?_)|refine La [.int .i64 Ec,.int .i64 rn,.int .i64 (nn:Int),.int .i64 cl] [.int .i64 Ec,.int .i64 rn,.int .i64 (nn:Int),.int .i64 cl] rfl ?_|refine WX.oa rfl b1 rfl ?_|fail)
 rename_i b4;refine W.Ac (List.replicate 8 true++[false]) [[(b4,.cells (List.toArray [.int .i64 Ec,.int .i64 rn,.int .i64 nn,.int .i64 cl]) 23 (0,0))]] Tryz.mix (by kernel_rfl) ?_;repeat'(first|refine ga ?_|refine La [.int .i64 Ec,.int .i64 rn,.int .i64 (nn:Int),.int .i64 cl] [.int .i64 Ec,.int .i64 rn,.int .i64 (nn:Int),.int .i64 cl] rfl ?_|refine jf [.int .i64 1,.int .i64 dc,.int .i64 rg,.int .i64 nd] ?_|fail)
 refine WX.call rfl F7 rfl ?_;rintro _ _ ⟨gb,hl,rfl,rfl,hm⟩;simp only[ca,na];repeat'(first|refine ga ?_|refine bx rfl (λ_=>?_)|refine jf ([.int .i64 Ec,.int .i64 rn,.int .i64 (nn:Int),.int .i64 cl,.int .i64 1,.int .i64 dc,.int .i64 rg,.int .i64 nd,.pointer (some ⟨gb,0,none⟩),.slice none 0 0,.pointer none,.pointer none]++(V9.z.enc++(V3.z.enc++[.slice none 0 0]))) ?_|fail)
 rename_i b;have Ah:=BF n0 b (.pointer (some ⟨gb,0,none⟩)) (.slice none 0 0) (.pointer none) (.pointer none) (.slice none 0 0);rw[hlo,show VI b n0 (.pointer (some ⟨gb,0,none⟩)) (.slice none 0 0) (.pointer none) (.pointer none) (.slice none 0 0)=[(b,.cells (List.toArray ([.int .i64 Ec,.int .i64 rn,.int .i64 (nn:Int),.int .i64 cl,.int .i64 1,.int .i64 dc,.int .i64 rg,.int .i64 nd,.pointer (some ⟨gb,0,none⟩),.slice none 0 0,.pointer none,.pointer none]++(V9.z.enc++(V3.z.enc++[.slice none 0 0])))) 112 (0,0))] by unfold VI;rw[hc0]] at Ah;refine WX.call rfl Ah rfl ?_;rintro _ _ ⟨rfl,hb,sb,rfl⟩;simp only[ca,na];have hid:=Ga.Ih n0.s (Kc nn).cfg;have ji:=vz (s:= .up [] (CS.new dc rg nd) 0) (N:=0) (LI.nil dc rg nd) hm (by omega) (by omega) (Kc nn).cfg;rw[(Ga.Kq _ _).1,(Ga.Kq _ _).2] at ji;obtain⟨n1,ic⟩:∃n1,ua.new Ec rn nn cl dc rg nd=n1:=⟨_,rfl⟩;have e0:n1={n0 with s:=(n0.s.enter (Kc nn).cfg).2}:=by rw[<-ic,hs0,hn0];rfl
 have e6:VI b n0 (.pointer (some ⟨gb,0,none⟩)) (.slice none 0 0) (.pointer (some ⟨hb,0,none⟩)) (.pointer (some ⟨sb,0,none⟩)) (.slice none 0 0)=Ca b n1 gb hb sb (.slice none 0 0) (.slice none 0 0):=by
  rw[e0];exact(ua.ig (b:=b) n0 hid gb hb sb (.slice none 0 0) (.slice none 0 0)).symm
 have p1:n1.rg=n0.rg/\n1.dc=n0.dc/\n1.hd=[]/\n1.rc=V3.z/\n1.ws=[]/\n1.s=((Ga.up [] (CS.new dc rg nd) 0).enter (Kc nn).cfg).2:=by
  refine⟨by rw[e0];exact hid.2.1,by rw[e0];exact hid.1,by rw[e0,hn0],by rw[e0,hn0],by rw[e0,hn0],by rw[e0,hs0]⟩
 obtain⟨p1,p2,p3,p4,p5,p6⟩:=p1;rw[<-p6] at ji;rw[e6,<-p1,<-p2,ic];repeat'(first|refine ga ?_|refine al (λ_=>?_)|refine WX.oa rfl qV rfl ?_|refine Nc Wa.z.enc (Kc nn).cfg.enc rfl rfl ?_|fail)
 rename_i Ph;refine W.Ac [true,true,true,true,true] [od Ph (Kc nn).cfg,Ca b n1 gb hb sb (.slice none 0 0) (.slice none 0 0)] Tryz.mix (by kernel_rfl) ?_;repeat'(first|refine ga ?_|refine La (Kc nn).cfg.enc (Kc nn).cfg.enc rfl ?_|fail)
 refine WX.call rfl ji rfl ?_;rintro _ _ ⟨rfl,l1,rfl,cg⟩;simp only[ca,na];try refine ga ?_
 refine D.Vd [Ca b n1 gb hb sb (.slice none 0 0) (.slice none 0 0),l1,Oa hb n1.rg (.slice none 0 0),Ta sb n1.dc V3.z,R] (H2:=[Ca b n1 gb hb sb (.slice none 0 0) (.slice none 0 0)++(l1++([]++(Oa hb n1.rg (.slice none 0 0)++([]++Ta sb n1.dc V3.z)))),R]) (by simp) ?_;exact D.Vb [Ca b n1 gb hb sb (.slice none 0 0) (.slice none 0 0)++(l1++([]++(Oa hb n1.rg (.slice none 0 0)++([]++Ta sb n1.dc V3.z))))] _ rfl rfl rfl ⟨_,_,rfl,⟨.slice none 0 0,gb,hb,sb,.slice none 0 0,l1,[],.slice none 0 0,[],by rw[<-p4],⟨cg,by rw[p5];exact ia.nil _,by rw[p3];exact ia.nil _⟩⟩,rfl⟩
def XO(Ec rn nn cl nd:Int):Prop:=(1<=Ec/\Ec<=3)/\(1<=rn/\rn<=3)/\(1<=nn/\nn<=4)/\(1<=cl/\cl<=4)/\(0<=nd/\nd<=nn - 1)
instance(Ec rn nn cl nd:Int):Decidable (XO Ec rn nn cl nd):=inferInstanceAs (Decidable (_/\_))
def Gk{x l m:Int}(h: ¬(l<=x/\x<=m)):Ct prog 48 [x,l,m] [] (λr H'=>r= .bool false/\H'=[]):=by
 by_cases h1:l<=x
 .have h2: ¬x<=m:=λh2=>h ⟨h1,h2⟩;refine ng func48 λg R=>?_;exact Xa [] rfl rfl ⟨by simp[h2],rfl⟩
 .refine ng func48 λg R=>?_;exact Wi []
section
variable{Ec rn nn cl nd:Int}(hl: -4611686018427387904<=nn/\nn<=4611686018427387904)(h: ¬XO Ec rn nn cl nd)
include h
theorem kq:Ct prog 13 [.agg (List.toArray [Ec,rn,nn,cl]),.int .i64 0,.int .i64 0,nd] [] (λr H'=>r= .tuple #[.pointer none,.int .i64 1]/\H'=[]):=by
 have b1:=TI Ec rn nn cl;by_cases hr:yV Ec rn nn cl=true
 .rw[hr] at b1;obtain⟨h1,h2,h3,h4⟩:=of_decide_eq_true hr;have n1: ¬Ec<=0:=by omega
  have n2: ¬rn<=0:=by omega
  by_cases h5:nd<0
  .have _:=h5;refine ce func13 λg R=>?_;repeat' first|refine Za ?_|refine Uc λ_=>?_|refine Pg [Ec,rn,nn,cl] ?_|refine cq b1 ?_
   exact D.Vb [] _ rfl rfl rfl ⟨rfl,rfl⟩
  .have h6:nn<=nd:=Classical.not_not.1 λx=>h ⟨h1,h2,h3,h4,by omega,by omega⟩;refine ce func13 λg R=>?_;repeat' first|refine Za ?_|refine Uc λ_=>?_|refine Pg [Ec,rn,nn,cl] ?_|refine cq b1 ?_
   exact D.Vb [] _ rfl rfl rfl ⟨rfl,rfl⟩
 .rw[Bool.not_eq_true] at hr;rw[hr] at b1;refine ce func13 λg R=>?_;repeat' first|refine Za ?_|refine Uc λ_=>?_|refine Pg [Ec,rn,nn,cl] ?_|refine cq b1 ?_
  exact D.Vb [] _ rfl rfl rfl ⟨rfl,rfl⟩
theorem Yr:Ct prog 12 [.agg (List.toArray [Ec,rn,nn,cl]),.int .i64 0,.int .i64 0,nd] [] (λr H'=>r= .tuple #[.pointer none,.int .i64 1]/\H'=[]):=by
 by_cases h1:1<=Ec/\Ec<=3
 .have b1:=ue h1.1 h1.2;by_cases h2:1<=rn/\rn<=3
  .have b2:=ue h2.1 h2.2;by_cases h3:1<=nn/\nn<=4
   .have b3:=ue h3.1 h3.2;by_cases h4:1<=cl/\cl<=4
    .have b4:=ue h4.1 h4.2;have b5:=ue (x:=0) (l:=0) (m:=Ec - 1) (by omega) (by omega);have b6:=ue (x:=0) (l:=0) (m:=rn - 1) (by omega) (by omega);have b7:=Gk (x:=nd) (l:=0) (m:=nn - 1) λx=>h ⟨h1,h2,h3,h4,x⟩;refine ce func12 λg R=>?_;repeat' first|refine Za ?_|refine Uc λ_=>?_|refine cq b1 ?_|refine cq b2 ?_|refine cq b3 ?_|refine cq b4 ?_|refine cq b5 ?_|refine cq b6 ?_|refine cq b7 ?_
     exact D.Vb [] _ rfl rfl rfl ⟨rfl,rfl⟩
    .have b4:=Gk h4;refine ce func12 λg R=>?_;repeat' first|refine Za ?_|refine Uc λ_=>?_|refine cq b1 ?_|refine cq b2 ?_|refine cq b3 ?_|refine cq b4 ?_
     exact D.Vb [] _ rfl rfl rfl ⟨rfl,rfl⟩
   .have b3:=Gk h3;refine ce func12 λg R=>?_;repeat' first|refine Za ?_|refine Uc λ_=>?_|refine cq b1 ?_|refine cq b2 ?_|refine cq b3 ?_
    exact D.Vb [] _ rfl rfl rfl ⟨rfl,rfl⟩
  .have b2:=Gk h2;refine ce func12 λg R=>?_;repeat' first|refine Za ?_|refine Uc λ_=>?_|refine cq b1 ?_|refine cq b2 ?_
   exact D.Vb [] _ rfl rfl rfl ⟨rfl,rfl⟩
 .have b1:=Gk h1;refine ce func12 λg R=>?_;repeat' first|refine Za ?_|refine Uc λ_=>?_|refine cq b1 ?_
  exact D.Vb [] _ rfl rfl rfl ⟨rfl,rfl⟩
end
variable{xs:List ya}{u:Value}{hu hv:Hp}
def I2:List CK:= .i::([.i,.i,.i,.i]++([.i,.i,.i,.i]++([.i,.i,.i,.i,.i]++(GV++(rP++([.b,.s,.s,.b,.b]++([.i,.i,.i,.i,.i,.i,.i,.i,.i]++([.i,.i,.i,.i,.i,.i,.i,.i,.i]++[.i,.i,.i,.i]))))))))
def Ep{ks:List CK}{xs:List Value}(h:RG ks xs=true):Ab ks xs xs=some true:=by
 obtain⟨b,e,i⟩:=Zh h h;rw[e,i.2 rfl]
def Tz{v:Value}(hx:Rs xs u hu)(hy:Rs xs v hv)(hl:xs.length<=1000000):
  Ct prog 41 [u,v] [hu,hv] (λr H'=>r= .bool true/\H'=[hu,hv]):=by
 refine ng func41 λg R=>?_;refine W.lo (α:=Nat) (λi=>i<=xs.length) (λi=>[(0,u),(1,v),(5,.int .i64 (i:Int))]) (λ_=>[hu,hv,R]) (λi=>xs.length - i) 0 (di _) ?_;intro i hi;by_cases hlt:i<xs.length
 .obtain⟨x,GQ⟩:=Lh hlt;have hcmp:Ab rP x.enc x.enc=some true:=Ep rfl;try refine ga ?_
  refine wq ?_;repeat' first|refine ga ?_|refine Vx hx GQ ?_|refine Vx hy GQ ?_|refine WX.aj rfl rfl hcmp rfl ?_
  exact D.re (i+1)
 .try refine ga ?_
  exact Wi [hu,hv]
def qy{xs:List Da}{v:Value}(hx:Rs xs u hu)(hy:Rs xs v hv)(hl:xs.length<=1000000):
  Ct prog 114 [u,v] [hu,hv] (λr H'=>r= .bool true/\H'=[hu,hv]):=by
 refine ng func114 λg R=>?_;refine W.lo (α:=Nat) (λi=>i<=xs.length) (λi=>[(0,u),(1,v),(5,.int .i64 (i:Int))]) (λ_=>[hu,hv,R]) (λi=>xs.length - i) 0 (di _) ?_;intro i hi;by_cases hlt:i<xs.length
 .obtain⟨x,GQ⟩:=Lh hlt;have hcmp:Ab I2 x.enc x.enc=some true:=Ep rfl;try refine ga ?_
  refine wq ?_;repeat' first|refine ga ?_|refine Vx hx GQ ?_|refine Vx hy GQ ?_|refine WX.aj rfl rfl hcmp rfl ?_
  exact D.re (i+1)
 .try refine ga ?_
  exact Wi [hu,hv]
def bJ(hx:Rs xs u hu)(hl:xs.length<=1000000)(e:ya)(he:e∈xs):
  Ct prog 44 [u,.agg (List.toArray e.enc)] [hu] (λr H'=>r= .bool true/\H'=[hu]):=by
 obtain⟨k,hk⟩:=mem_iff_getElem?.1 he;have Zt:=(List.getElem?_eq_some_iff.1 hk).1;refine ce func44 λg R=>?_;repeat' first|refine Za ?_|refine Uc λ_=>?_
 rename_i b3;refine W.lo (α:=Nat) (λi=>i<=k) (λi=>[(0,u),(3,b3),(5,.int .i64 (i:Int))]) (λ_=>[Gb b3 e,hu,R]) (λi=>xs.length - i) 0 (di _) ?_;intro i hi;obtain⟨x,GQ⟩:∃x,xs[i]? =some x:=⟨_,Wg (by omega)⟩;obtain⟨c,hc1,hc2⟩:=Zh (ks:=rP) (xs:=x.enc) (ys:=e.enc) rfl rfl;have hlt:i<xs.length:=by omega
 cases c with
 |true=>
  try refine ga ?_
  refine wq ?_;repeat' first|refine ga ?_|refine Vx hx GQ ?_|refine Pg e.enc ?_|refine WX.aq rfl rfl hc1 rfl ?_
  exact Wi [hu]
 |false=>
  have hne:i≠k:=λh=>by
   subst h;rw[hk] at GQ;cases GQ;exact absurd (hc2.2 rfl) (by decide)
  try refine ga ?_
  refine wq ?_;repeat' first|refine ga ?_|refine Vx hx GQ ?_|refine Pg e.enc ?_|refine WX.aq rfl rfl hc1 rfl ?_
  exact D.re (i+1)
structure Ir where
 (k n:Int)
 m:Da
def Ir.enc(a:Ir):List Value:=[.int .i64 a.k,.int .i64 a.n]++a.m.enc
instance:Qb Ir:=⟨76,Ir.enc,λ_=>rfl,λ_=>rfl,by decide⟩
def Da.size(m:Da):Nat:=m.key.size+m.val.size+m.en.key.size+m.en.val.size
def tu{bg:List Ir}{v:Value}{h:Hp}(hr:Rs bg v h)(hlen:bg.length<=1099511627776)(hz:∀a∈bg,a.m.key.size<=562949953421312/\a.m.val.size<=562949953421312/\a.m.en.key.size<=562949953421312/\a.m.en.val.size<=562949953421312):
  Ct prog 11 [v] [h] (λr H'=>∃b,r= .bool b/\H'=[h]/\(b=false->bg.length<=250)):=by
 refine ng func11 λg R=>?_;refine W.lo (α:=Nat×Nat) (λx=>x.1<=bg.length/\bg.length<=x.2/\x.2<=1125899906842624) (λx=>[(0,v),(3,.int .i64 (x.2:Int)),(4,.int .i64 (x.1:Int))]) (λ_=>[h,R]) (λx=>bg.length - x.1) (0,bg.length) ⟨di _,Nat.le_refl _,by simp only[];omega⟩ ?_;rintro⟨i,n⟩ ⟨hi,hn0,hn⟩;simp only[] at hi hn hn0⊢;by_cases hlt:i<bg.length
 .by_cases h4:n<=250
  .obtain⟨a,ha⟩:=Lh hlt;obtain⟨z1,z2,z3,z4⟩:=hz a (mem_of_getElem? ha);have hq:a.m.size/60<=37529996894754:=by unfold Da.size;omega
   repeat' first|refine ga ?_|refine al λ_=>?_|refine lF (us:=a.m.enc) rfl hr ?_ (hk:=ha) (ho:=rfl)|refine xg Da.z.enc a.m.enc ?_|(refine I.bin ?_;refine WX.mY (a:=a.m.size) (b:=60) rfl rfl (by unfold Da.size;push_cast;rfl) rfl (by decide) (by unfold Da.size;omega) rfl ?_)
   exact D.rd (i+1,n+a.m.size/60) ⟨by simp only[];omega,by simp only[];omega,by simp only[];omega⟩ (by simp only[];omega)
  .try refine ga ?_
   exact Xa [h] rfl rfl ⟨_,rfl,rfl,λh=>by have:=of_decide_eq_false h;omega⟩
 .obtain rfl:i=bg.length:=by omega
  by_cases h4:n<=250
  all_goals
   try refine ga ?_
   exact Xa [h] rfl rfl ⟨_,rfl,rfl,λh=>by have:=of_decide_eq_false h;omega⟩
end Go.Proofs.YthebagfahkebiaaGreat
