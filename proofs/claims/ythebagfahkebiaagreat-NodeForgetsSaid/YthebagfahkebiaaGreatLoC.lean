/-
  Proved: for every input, causewaylaw20.NodeForgets returns true and its arguments read as they did. No condition.
-/
import Derived.Test.YthebagfahkebiaaGreatQBJ
set_option linter.all false
set_option maxHeartbeats 8000000
set_option maxRecDepth 20000
namespace Go.Proofs.YthebagfahkebiaaGreat
open Go Go.Sl Go.Proofs.Tryz List
variable{n:va}
def Ea.back{s1 s3:Ea}{N:Int}(ok:s1.ok N)(hu:s1.Xa=true){keep:Int}(k:qi (s1.Pb keep) s3):
  s3.Xa=true/\s3.ch.co=s1.ch.co/\∃K,s3.ch.lg=s1.ch.lg.take K/\K<=s1.ch.lg.length/\s1.ch.du<=(K:Int):=by
 cases s1 with
 |dn l c q=>cases hu
 |up l c t=>
  obtain⟨l',t',rfl,ux,hf,h1,h2,h3,-,h4⟩:=k;have ok:LI l c N:=ok;obtain⟨-,-,r3,-,-,r6,-,r8⟩:=LI.KG ok ux hf h1 h2 h3 h4;have hd:=(LI.ok ok).du;exact⟨rfl,r3,_,r6,Nat.sub_le _ _,by show c.du<=_;omega⟩
def qi.up{s s':Ea}(h:qi s s'):s'.Xa=true:=by
 cases s with
 |up l c t=>cases h;rfl
 |dn l c q=>obtain⟨l',t',rfl,-⟩:=h;rfl
def va.mP(h:n.s.Xa=false)(m:Da):n.handle m=(n,[]):=if_pos h
def va.QV(h:n.s.Xa=false):n.tick=(n,[]):=if_pos h
def va.xS(h:n.s.Xa=false):n.flush=(n,[]):=if_pos h
def va.ML(h:n.s.Xa=false):n.collect=n:=if_pos h
def va.yS(h:n.s.Xa=true)(keep:Int):(n.Pb keep).s=n.s.Pb keep/\(n.Pb keep).s.Xa=false/\(n.Pb keep).ws=[]/\(n.Pb keep).hd=[]/\(n.Pb keep).kn=V9.z/\(n.Pb keep).mr=V3.z/\(n.Pb keep).rc=V3.z:=by
 unfold va.Pb;rw[if_neg (by rw[h];decide)];refine⟨rfl,?_,rfl,rfl,rfl,rfl,rfl⟩;show(n.s.Pb keep).Xa=false
 cases hs:n.s with
 |up l c t=>rfl
 |dn l c q=>rw[hs] at h;cases h
section
variable{fc rn nn cl nd:Int}{Uf:List MG}{v:Value}{hs:Hp}(hx:Rs Uf v hs)(hlen:Uf.length<=1099511627776)(hz:∀a∈Uf,YM a)
include hx hlen hz
theorem Qz{kp:Int}(Lt: -9223372036854775808<=kp)(hk2:kp<=9223372036854775807)(m:Da)(pQ:m.key.size<=562949953421312/\m.val.size<=562949953421312/\m.en.key.size<=562949953421312/\m.en.val.size<=562949953421312):Ct prog 8 [.agg (List.toArray [fc,rn,nn,cl]),nd,v,kp,.agg (List.toArray m.enc)] [hs] (λr H'=>r= .bool true/\H'=[hs]):=by
 refine ce func8 λg R=>?_;repeat' first|refine vb ?_|refine gS (λ_=>?_) λ_=>?_|refine Ud λ_=>?_|refine al λ_=>?_|refine cq Tx ?_|refine yj [fc,rn,nn,cl] ?_
 rename_i b3 b7;refine ck (au hx hlen λa ha=>(hz a ha).2) ?_;rintro _ _ ⟨bm,rfl,rfl,U2⟩;simp only[can]
 cases bm with
 |true=>
  repeat' first|refine ga ?_|refine gS (λ_=>?_) λ_=>?_|refine Ud λ_=>?_|refine al λ_=>?_
  exact vj [hs]
 |false=>
 have hle:=U2 rfl;repeat' first|refine ga ?_|refine gS (λ_=>?_) λ_=>?_|refine Ud λ_=>?_|refine al λ_=>?_|refine yj m.enc ?_|refine Vf (MG.enc ⟨0,0,m⟩) ?_
 refine Kp [(⟨0,0,m⟩:MG)] (λv4 h4 hs4=>?_);repeat' first|refine ga ?_|refine gS (λ_=>?_) λ_=>?_|refine Ud λ_=>?_|refine al λ_=>?_
 refine ck (au hs4.rs (by simp only[Gb,jd];omega) λa ha=>by rw[mem_singleton.1 ha];exact pQ) ?_;rintro _ _ ⟨j8,rfl,rfl,-⟩;simp only[can]
 cases j8 with
 |true=>
  repeat' first|refine ga ?_|refine gS (λ_=>?_) λ_=>?_|refine Ud λ_=>?_|refine al λ_=>?_
  exact vj [hs]
 |false=>
 by_cases hok:GO fc rn nn cl nd
 case neg=>
  have kn:=Jr hok;have kd:=Up hok;repeat' first|refine ga ?_|refine gS (λ_=>?_) λ_=>?_|refine Ud λ_=>?_|refine al λ_=>?_|refine yj [fc,rn,nn,cl] ?_|refine cq kn ?_|refine cq kd ?_
  exact vj [hs]
 case pos=>
 obtain⟨z1,z2,z3,z4,z5⟩:=id hok;obtain⟨nn,rfl⟩:∃k:Nat,nn=(k:Int):=⟨nn.toNat,by omega⟩;have kn:=Ux (dc:=0) (rg:=0) z1 z2 (show 1<=nn/\nn<=4 by omega) z4 (by omega) (by omega) z5;have kd:=gz (dc:=0) (rg:=0) z1 z2 (show 1<=nn/\nn<=4 by omega) z4 (by omega) (by omega) z5;have OE:mg (va.new fc rn nn cl 0 0 nd) 2:=mg.new z1 z2 (by omega);have KV:=va.OG fc rn nn cl nd;generalize va.new fc rn nn cl 0 0 nd=n0 at*
 have qn:n0.nd=nd:=by
  unfold va.lay at KV;injection KV with a1 a2
  injection a2 with a2 a3
  injection a3 with a3 a4
  injection a4 with a4 a5
 repeat' first|refine ga ?_|refine gS (λ_=>?_) λ_=>?_|refine Ud λ_=>?_|refine al λ_=>?_|refine yj [fc,rn,.int .i64 (nn:Int),cl] ?_
 refine ck kn ?_;rintro _ _ ⟨b,h0,rfl,hm0,rfl⟩;repeat' first|refine vb ?_|refine gS (λ_=>?_) λ_=>?_|refine Ud λ_=>?_|refine al λ_=>?_|refine yj [fc,rn,.int .i64 (nn:Int),cl] ?_
 refine ck kd ?_;rintro _ _ ⟨bd,g0,rfl,jS,rfl⟩;repeat' first|refine vb ?_|refine gS (λ_=>?_) λ_=>?_|refine Ud λ_=>?_|refine al λ_=>?_
 refine W.lo (α:=Nat×va×Hp×Hp) (λy=>y.1<=Uf.length/\mg y.2.1 (2+40*y.1)/\y.2.1.nd=nd/\qg y.2.1 b y.2.2.1/\Mm y.2.1 bd (486+8000*y.1) y.2.2.2)
  (λy=>[(2,v),(3,kp),(9,b7),(11,b),(13,bd),(15,.int .i64 (y.1:Int))]) (λy=>[y.2.2.1,y.2.2.2,hs,Jc b7 m,R]) (λy=>Uf.length - y.1) (0,n0,h0,g0) ⟨Gi _,OE,qn,hm0,jS⟩ ?_
 rintro⟨k,n,h,hd⟩ ⟨hk,Sr,qn,hm,Gz⟩;simp only[] at hk Sr qn hm Gz⊢;by_cases hlt:k<Uf.length
 case pos=>
  obtain⟨a,ha⟩:=Sh hlt;have kc:=Jz Sr (by omega) (by omega) (by omega) hm Gz a (hz a (mem_of_getElem? ha)).1;repeat' first|refine ga ?_|refine gS (λ_=>?_) λ_=>?_|refine Ud λ_=>?_|refine al λ_=>?_|refine rG hx ha ?_
  refine ck kc ?_;rintro _ _ ⟨rfl,n',h',hd',st,hm',kS,rfl⟩;repeat' first|refine vb ?_|refine gS (λ_=>?_) λ_=>?_|refine Ud λ_=>?_|refine al λ_=>?_
  exact D.round (k+1,n',h',hd') ⟨by simp only[];omega,st.ok.mono (by omega),st.nd.trans qn,hm',(by
   have e:(486:Int)+8000*(k:Nat)+8000=486+8000*((k+1:Nat):Int):=by omega
   simp only[];rw[<-e];exact kS)⟩ (by simp only[];omega) (by repeat(first|exact Ca.nil|refine Ca.cons rfl ?_)) (Ga.qa inferInstance)
 case neg=>
 obtain rfl:k=Uf.length:=by omega
 have Sr:mg n 20000:=Sr.mono (by omega);obtain⟨s1,x8,qS,g1,-⟩:=Ir Sr.ok;obtain⟨Bh,xY⟩:=Sr.start x8 qS;have G0:=qS.up;obtain⟨lb,hb,sb,vw,hl,hw,v0,hh,rfl,at_⟩:=hm;have M6:=g1 at_.lg;obtain⟨n1,yc⟩:∃n1:va,n1={n with s:=s1}:=⟨_,rfl⟩;have e1:za b n lb hb sb vw=za b n1 lb hb sb vw:=by rw[yc];exact(n.Mg xY ..).symm
 have p1:n1.hd=n.hd/\n1.rg=n.rg/\n1.dc=n.dc/\n1.rc=n.rc/\n1.ws=n.ws/\n1.s=s1:=by rw[yc];exact⟨rfl,xY.2.1,xY.1,rfl,rfl,rfl⟩
 obtain⟨p1,p2,p3,p4,p5,p6⟩:=p1;rw[<-yc] at Bh;rw[<-p6] at M6 G0;repeat' first|refine ga ?_|refine gS (λ_=>?_) λ_=>?_|refine Ud λ_=>?_|refine al λ_=>?_
 refine WX.f0 [za b n lb hb sb vw,hl,hw,La hb n.rg v0,hh,Ma sb n.dc n.rc,hd,hs,Jc b7 m,R] ?_;refine ck M6 ?_;rintro _ _ ⟨rfl,l1,rfl,Pf⟩;simp only[can];rw[e1,<-p2,<-p3,<-p4];have yq:ia 181 n1.ws vw hw:=by rw[p5];exact at_.ws
 have DU:ia 49 n1.hd v0 hh:=by rw[p1];exact at_.hd
 have A8:=Pf;obtain⟨cb,d,w,u,hv,X,rfl,Mf⟩:=va.FF Pf;have jg:=Bh.ob.len;have g1:=ym n1.c cb Mf.rs (by omega);have g2:=Vn n1.c cb u;have g3:=jk n1.c cb u;repeat' first|refine ga ?_|refine gS (λ_=>?_) λ_=>?_|refine Ud λ_=>?_|refine al λ_=>?_
 refine W.f0 [xb n1 lb cb d w,oa cb n1.c u,hv,X,za b n1 lb hb sb vw,hw,La hb n1.rg v0,hh,Ma sb n1.dc n1.rc,hd,hs,Jc b7 m,R] ?_
 refine W.gi (α:=Value×Hp×Nat) (λy=>ia 49 n1.c.lg y.1 y.2.1) (λy=>[(3,kp),(9,b7),(11,b),(16,y.1),(17,n1.c.du),(18,.pointer (some ⟨y.2.2,0,none⟩))])
  (λy=>[y.2.1,Mc y.2.2 (Yb n1.c.co),Jc b7 m,za b n1 lb hb sb vw,xb n1 lb cb d w,oa cb n1.c u,hv,X,hw,La hb n1.rg v0,hh,Ma sb n1.dc n1.rc,hs,R]) ?_ ?_
 .refine W.Ar 20 (List.replicate 7 true++[false]++List.replicate 7 true++[false]++List.replicate 7 true++[false,false]) 24 [za b n1 lb hb sb vw,xb n1 lb cb d w] Tryz.mix (by kernel_rfl) rfl ?_;repeat' first|refine ga ?_|refine gS (λ_=>?_) λ_=>?_|refine Ud λ_=>?_|refine al λ_=>?_|(refine I.cl ?_;refine ck g1 ?_;rintro _ _ ⟨h5,hs5,rfl⟩;simp only[ca,na])|refine cq g2 ?_|refine cq g3 ?_|refine nh Va.z.enc (Yb n1.c.co).enc ?_|refine WA.un ?_|refine WA.Se ?_|refine WA.back ?_|refine WA.an ?_ ?_|refine WA.nil ?_
  all_goals first|exact D.Hu (_,_,_) ‹ia 49 n1.c.lg _ _› (by repeat(first|exact Ca.nil|refine Ca.cons rfl ?_)) (Ga.qa inferInstance)|trace_state
 rintro⟨v16,nP,wQ⟩ RV;simp only[] at RV⊢;have Ji:qg n1 b (yx b n1 lb hb sb vw (xb n1 lb cb d w++(oa cb n1.c u++(hv++X))) hw v0 hh):=⟨lb,hb,sb,vw,_,hw,v0,hh,rfl,A8,yq,DU⟩;have kcr:=CF Ji Bh.toef Bh.dn Lt hk2;obtain⟨Oj,-⟩:=Bh.Pb kp;obtain⟨c0,c1,c2,c3,c4,c5,c6⟩:=va.yS G0 kp;obtain⟨n2,hn2⟩:∃n2,n1.Pb kp=n2:=⟨_,rfl⟩;rw[hn2] at kcr Oj c0 c1 c2 c3 c4 c5 c6;refine W.f0 [nP,Mc wQ (Yb n1.c.co),Jc b7 m,yx b n1 lb hb sb vw (xb n1 lb cb d w++(oa cb n1.c u++(hv++X))) hw v0 hh,hs,R] ?_;repeat' first|refine ga ?_|refine gS (λ_=>?_) λ_=>?_|refine Ud λ_=>?_|refine al λ_=>?_
 refine ck kcr ?_;rintro _ _ ⟨rfl,h2,hm2,rfl⟩;simp only[can];have kco:=Ew hm2 Oj.toef;rw[va.ML c1] at kco;repeat' first|refine ga ?_|refine gS (λ_=>?_) λ_=>?_|refine Ud λ_=>?_|refine al λ_=>?_
 refine ck kco ?_;rintro _ _ ⟨rfl,h3,XM,rfl⟩;simp only[can];have kh:=Kk XM Oj.toef (by decide) (by rw[Oj.rg];decide) (by rw[Oj.dc];decide) m;rw[va.mP c1] at kh;repeat' first|refine ga ?_|refine gS (λ_=>?_) λ_=>?_|refine Ud λ_=>?_|refine al λ_=>?_|refine yj m.enc ?_
 refine ck kh ?_;rintro r4 _ ⟨h4,h5,hs4,B8,rfl⟩;simp only[can];have hs4:ia 52 [] r4 h4:=hs4;have B8:qg n2 b h5:=B8;obtain⟨q4,y4,rfl⟩:=hs4.len;have kt:=Kz B8 Oj.toef (by decide);rw[va.QV c1] at kt;repeat' first|refine ga ?_|refine gS (λ_=>?_) λ_=>?_|refine Ud λ_=>?_|refine al λ_=>?_
 refine ck kt ?_;rintro r6 _ ⟨h6,h7,Zo,C8,rfl⟩;simp only[can];have Zo:ia 52 [] r6 h6:=Zo;have C8:qg n2 b h7:=C8;obtain⟨q6,y6,rfl⟩:=Zo.len;have kf:=Bv C8 Oj.toef;rw[va.xS c1] at kf;repeat' first|refine ga ?_|refine gS (λ_=>?_) λ_=>?_|refine Ud λ_=>?_|refine al λ_=>?_
 refine ck kf ?_;rintro r8 _ ⟨h8,h9,Mq,D8,rfl⟩;simp only[can];have Mq:ia 52 [] r8 h8:=Mq;have D8:qg n2 b h9:=D8;obtain⟨q8,y8,rfl⟩:=Mq.len;obtain⟨s3,E8,G3,g3,-⟩:=Ir Oj.ok;obtain⟨kX,yY⟩:=Oj.start E8 G3;have lX:=G3;rw[c0] at lX;obtain⟨t1,t2,K,t3,t4,t5⟩:=Ea.back Bh.ok G0 lX;obtain⟨lb,hb,sb,vw,hl,hw,v0,hh,rfl,at_⟩:=D8;have M6:=g3 at_.lg;have F8:=at_.lg;obtain⟨cb,d,w,u,hv,X,hlx,Mf⟩:=va.FF F8;subst hlx;obtain⟨pw,cw,G8⟩:=at_.ws.len;rw[c2] at G8;have k1:=Ur n2 lb cb d w;rw[c1] at k1;have k2:=zo n2 b lb hb sb (p:=pw) (c:=cw);rw[c2,<-G8] at k2;have k3:=Jv n2 b lb hb sb vw at_.hd.rs;rw[c3] at k3;have k4:=Wr n2 b lb hb sb vw;rw[c4] at k4;have k5:=eP n2 b lb hb sb vw;rw[c5] at k5;have hz9:Db [.i,.i,.i,.i,.i,.i,.i,.i,.i] V9.z.enc V9.z.enc=some true:=Zt rfl;have hz3:Db [.i,.i,.i] V3.z.enc V3.z.enc=some true:=Zt rfl;refine WX.f0 [h8,za b n2 lb hb sb vw,xb n2 lb cb d w,oa cb n2.c u,hv,X,hw,La hb n2.rg v0,hh,Ma sb n2.dc n2.rc,h6,h4,nP,Mc wQ (Yb n1.c.co),Jc b7 m,hs,R] ?_;repeat' first|refine ga ?_|refine gS (λ_=>?_) λ_=>?_|refine Ud λ_=>?_|refine al λ_=>?_|refine C6 V9.z.enc ?_|refine C6 V3.z.enc ?_|refine cq k1 ?_|refine cq k2 ?_|refine cq k3 ?_|refine cq k4 ?_|refine cq k5 ?_|refine WX.xl rfl rfl hz9 rfl ?_|refine WX.xl rfl rfl hz3 rfl ?_
 refine WX.f0 [h8,za b n2 lb hb sb vw,xb n2 lb cb d w++(oa cb n2.c u++(hv++X)),hw,La hb n2.rg v0,hh,Ma sb n2.dc n2.rc,h6,h4,nP,Mc wQ (Yb n1.c.co),Jc b7 m,hs,R] ?_;refine ck M6 ?_;rintro _ _ ⟨rfl,l3,rfl,yR⟩;simp only[can];obtain⟨n3,BY⟩:∃n3:va,n3={n2 with s:=s3}:=⟨_,rfl⟩;have e3:za b n2 lb hb sb vw=za b n3 lb hb sb vw:=by rw[BY];exact(n2.Mg yY ..).symm
 have p3:n3.hd=n2.hd/\n3.rg=n2.rg/\n3.dc=n2.dc/\n3.rc=n2.rc/\n3.ws=n2.ws/\n3.s=s3:=by rw[BY];exact⟨rfl,yY.2.1,yY.1,rfl,rfl,rfl⟩
 obtain⟨p1',p2',p3',p4',p5',N6⟩:=p3;rw[<-BY] at kX;rw[e3,<-p3'];have yR:og n3.s lb l3:=by rw[N6];exact yR
 obtain⟨J0,d3,w3,u3,hv3,X3,rfl,H8⟩:=va.FF yR;have Aaa:=kX.ob.len;have I8:n3.s.Xa=true:=by rw[N6];exact t1
 have J8:n3.c.co=n1.c.co:=by
  show n3.s.ch.co=n1.s.ch.co;rw[N6];exact t2
 have K8:n3.c.lg=n1.c.lg.take K:=by
  show n3.s.ch.lg=n1.s.ch.lg.take K;rw[N6];exact t3
 have hKl:(n1.c.lg.take K).length=K:=by rw[Fe];exact Nat.min_eq_left t4
 have t5:n1.c.du<=(K:Int):=t5;have t4:K<=n1.c.lg.length:=t4;have m1:=ym n3.c J0 H8.rs (by omega);have m2:=Ur n3 lb J0 d3 w3;have m3:=jk n3.c J0 u3;have m4:=zo n3 b lb hb sb (p:=pw) (c:=cw);have m5:=bH n3 b lb hb sb vw 1;rw[K8] at m1;rw[I8] at m2;rw[J8] at m3;rw[p5',c2,<-G8] at m4;rw[show(if Xd n3.dc 1 then n3.rc.get 1 else 0)=0 from by rw[p4',c6];split<;>rfl,p4'] at m5;have L8:Db CV (Yb n1.c.co).enc (Yb n1.c.co).enc=some true:=Zt rfl;obtain⟨r16,y16,rfl⟩:=RV.len;refine WX.f0 [xb n3 lb J0 d3 w3,oa J0 n3.c u3,hv3,X3,h8,za b n3 lb hb sb vw,hw,La hb n2.rg v0,hh,Ma sb n3.dc n2.rc,h6,h4,nP,Mc wQ (Yb n1.c.co),Jc b7 m,hs,R] ?_;repeat' first|refine ga ?_|refine gS (λ_=>?_) λ_=>?_|refine Ud λ_=>?_|refine al λ_=>?_
 refine ck m1 ?_;rintro _ _ ⟨h19,I3,rfl⟩;simp only[can];obtain⟨r19,y19,rfl⟩:=I3.len;have hE:=Dz I3.rs (RV.rs.take t4) (by omega);rw[hKl] at hE⊢;have hKd: ¬(K:Int)<n1.c.du:=by omega
 repeat' first|refine ga ?_|refine gS (λ_=>?_) λ_=>?_|refine Ud λ_=>?_|refine al λ_=>?_
 refine Ns (ml [4,1,8,1,22,1,3,1,4,1,2]) [nP,Mc wQ (Yb n1.c.co),za b n3 lb hb sb vw,xb n3 lb J0 d3 w3] ?_;repeat' first|refine ga ?_|refine gS (λ_=>?_) λ_=>?_|refine Ud λ_=>?_|refine al λ_=>?_|refine Of (Yb n1.c.co).enc (Yb n1.c.co).enc ?_|refine sl rfl rfl RV.rs ?_ t4|refine cq m2 ?_|refine cq m3 ?_|refine cq hE ?_|refine cq m4 ?_|refine cq m5 ?_|refine WX.Vu rfl rfl L8 rfl ?_
 exact vj [hs]
end
set_option maxRecDepth 100000 in
theorem Yr(os:Os)(started:os.Started)(H:Type)(enc:TypeId×Value->H):
  ReturnsInHanded {} checked os 8 .any (Rows.nodeForgetsSpec.pre6 enc prog f8 Rows.nodeForgetsRow.domain false) (Rows.nodeForgetsSpec.post enc prog f8 false true false false):=by
 refine Vr (C:=checked) (tb:=4) Tryz.own started (by kernel_rfl) func8
  (ChangeSpec.witness6 (enc:=enc) (C:=checked) false ⟨#[], #[.agg #[.int .i64 0,.int .i64 0,.int .i64 0,.int .i64 0],.int .i64 0,.slice none 0 0,.int .i64 0,.agg (List.toArray (Da.enc Da.z))],[]⟩ 8 (by kernel_rfl) (by kernel_rfl) (by kernel_rfl) (by kernel_rfl))
  Tryz.laidOut (by kernel_rfl) rfl underlying4 rfl (λds hd=>match ds,hd with|[_,_,_,_,_],_=>⟨rfl,rfl,rfl⟩) ?_
 intro W base args ds p Gw iX aJ;have hval:∀(j:Nat) t v,f8.params[j]? =some t->args[j]? =some v->Value.okWide prog W .any base t v:=Gw;have hA:DataW.TrodAll enc prog W 0 (λ_=>true) true f8.params.toList args.toList ds p:=iX;have lC:∀l∈DataW.weightsEach prog f8.params.toList ds,l<=reachBytes:=aJ;clear Gw iX aJ;rw[params8] at hA hval lC;obtain⟨v0,v1,v2,v3,v4,d0,d1,d2,d3,d4,rfl,rfl,⟨p0,h0⟩,⟨p1,h1⟩,⟨p2,h2⟩,⟨p3,h3⟩,⟨p4,h4⟩⟩:=J3 hA;obtain⟨l,rfl,_⟩:=Lk 0 FL (hval 0 23 v0 rfl rfl) h0 (xe lC (i:=0) rfl rfl);obtain⟨nd,rfl,_⟩:=Vx (hval 1 3 v1 rfl rfl) h1;obtain⟨xs,hx,hxz,Wx⟩:=Gv (by kernel_rfl) GL (hval 2 24 v2 rfl rfl) h2 (xe lC (i:=2) rfl rfl);obtain⟨kp,rfl,ik⟩:=Vx (hval 3 3 v3 rfl rfl) h3;obtain⟨m,rfl,hm⟩:=Lk 0 iN (hval 4 52 v4 rfl rfl) h4 (xe lC (i:=4) rfl rfl);exact Hv (Qz hx.rs (HL Wx) hxz ik.1 ik.2 m hm)
def Rz:(Rows.nodeForgetsRow.inPlace==prog.inPlace 8)=true:=by kernel_rfl
def Sz:(Rows.nodeForgetsRow.unfollowed==prog.unfollowed 8)=true:=by kernel_rfl
def Tz:(Rows.nodeForgetsRow.recurses==prog.recurses 8)=true:=by kernel_rfl
def Uz:(Rows.nodeForgetsRow.named==prog.varsNamed 8)=true:=by kernel_rfl
def Vz:laidOutB prog=true:=by kernel_rfl
def Wz:mapsRowed prog=true:=by kernel_rfl
def Xz:(Rows.nodeForgetsRow.plainKeys==prog.plainKeys)=true:=by kernel_rfl
def Yz:(Rows.nodeForgetsRow.lifted==prog.liftsFinal)=true:=by kernel_rfl
def Zz:prog.stopsHeard=true:=by kernel_rfl
def Zr:joinedFacts prog 8 f8 Rows.nodeForgetsSpec Rows.nodeForgetsRow=true:=by
 unfold joinedFacts;rw[Rz,Sz,Tz,Uz,Vz,Wz,Xz,Yz,Zz]
 kernel_rfl
theorem nodeForgets_holds:Rows.NodeForgetsSaid:=
 OpenClaim.holds_of_wide 8 f8 rfl rfl rfl rfl rfl rfl rfl ⟨rfl,rfl,rfl,rfl,rfl⟩ rfl rfl rfl rfl rfl (by kernel_rfl) func8 Zr
  (of_decide_eq_true (by kernel_rfl)) (by unfold Func.isWrapper;first|(rw[if_pos (by decide+kernel)];kernel_rfl)|(rw[if_neg (by decide+kernel)];exact⟨rfl,rfl⟩))
  (λos started H enc _=>Yr os started H enc)
end Go.Proofs.YthebagfahkebiaaGreat
