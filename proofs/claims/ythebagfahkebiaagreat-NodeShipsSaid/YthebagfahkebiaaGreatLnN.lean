/-
  Proved: for every input, causewaylaw20.NodeShips returns true and its arguments read as they did. No condition.
-/
import Derived.Test.YthebagfahkebiaaGreatQBJ
set_option linter.all false
set_option maxHeartbeats 8000000
set_option maxRecDepth 20000
namespace Go.Proofs.YthebagfahkebiaaGreat
open Go Go.Sl Go.Proofs.Tryz List
variable{m:va}
def Mz(m:va)(C:V3)(y:Da):Prop:=
 (y.kind=13->(y.c0=C.a/\y.c1=C.b/\y.c2=C.c)/\y.to.dc≠0/\y.to.rg=0)/\
 (y.kind=14->(y.c0=C.a/\y.c1=C.b/\y.c2=C.c)/\y.to.dc=0/\y.to.rg≠0)/\
 (y.kind=12->y.en.dc=0/\y.en.sq=(if Xd m.dc y.to.dc then m.rc.get y.to.dc else 0)+1/\y.en∈m.Ab)
def Mz.other{C:V3}{y:Da}(h:y.kind=10\/y.kind=8\/y.kind=7\/y.kind=11):Mz m C y:=⟨λk=>by omega,λk=>by omega,λk=>by omega⟩
def Mz.far(hd:m.dc=0)(hr:m.rg=0):∀y∈m.zx,Mz m (ic m.rg m.Ab) y:=by
 intro y hy;unfold va.zx at hy;split at hy
 .exact nomatch hy
 .rcases mem_append.1 hy with hy|hy
  .obtain⟨l,hl,hy⟩:=mem_flatten.1 hy;obtain⟨x,-,rfl⟩:=mem_map.1 hl;try simp only[] at hy
   split at hy
   .exact nomatch hy
   .rename_i hx;rcases mem_append.1 hy with hy|hy
    .have hk:=m.Tr _ y hy;refine⟨λk=>by omega,λk=>by omega,λ_=>?_⟩;unfold va.Qf Bw at hy;by_cases c:Xd m.dc (x:Int)
     .rw[if_pos c] at hy;split at hy
      .exact nomatch hy
      .rename_i e he;obtain⟨i,-,rfl⟩:=mem_map.1 hy;have h1:=List.find?_some he;have h2:=of_decide_eq_true (show decide (e.dc=m.dc/\e.sq - 1=m.rc.at ((x:Int)).toNat)=true from h1);refine⟨h2.1.trans hd,?_,mem_of_find?_eq_some he⟩;show e.sq=(if Xd m.dc (x:Int) then m.rc.get (x:Int) else 0)+1;rw[if_pos c];unfold V3.get;omega
     .rw[if_neg c] at hy;exact nomatch hy
    .obtain⟨i,-,rfl⟩:=mem_map.1 hy;refine⟨λ_=>⟨⟨rfl,rfl,rfl⟩,λh=>hx ?_,hr⟩,λk=>absurd (show(13:Int)=14 from k) (by decide),λk=>absurd (show(13:Int)=12 from k) (by decide)⟩;rw[hd];exact h
  .obtain⟨l,hl,hy⟩:=mem_flatten.1 hy;obtain⟨x,-,rfl⟩:=mem_map.1 hl;try simp only[] at hy
   split at hy
   .exact nomatch hy
   .rename_i hx;obtain⟨i,-,rfl⟩:=mem_map.1 hy;refine⟨λk=>absurd (show(14:Int)=13 from k) (by decide),λ_=>⟨⟨rfl,rfl,rfl⟩,hd,λh=>hx ?_⟩,λk=>absurd (show(14:Int)=12 from k) (by decide)⟩;rw[hr];exact h
def Dv{k:Int}{f:Nat->List Da}{c:Nat}(h0:jf k (f 0)=0)(hs:∀x,x≠0->jf k (f x)=c):∀D:Nat,jf k ((List.range (D+1)).map f).flatten=D*c
 |0=>by
  show jf k (f 0++[])=_
  rw[append_nil,h0,Nat.zero_mul]
 |D+1=>by
  rw[range_succ,Ae,flatten_append,zh,Dv h0 hs D];show D*c+jf k (f (D+1)++[])=_;rw[append_nil,hs _ (by omega),Nat.succ_mul]
def Ev{k:Int}{f:Nat->List Da}(h:∀x,jf k (f x)=0):∀D:Nat,jf k ((List.range D).map f).flatten=0
 |0=>rfl
 |D+1=>by
  rw[range_succ,Ae,flatten_append,zh,Ev h D];show 0+jf k (f D++[])=_;rw[append_nil,h]
def va.ZI(m:va)(k x r:Int)(C:V3):jf k (m.Jh k x r C)=m.nn.toNat:=by
 rw[oS (m.Cv k x r C)];unfold va.Jh;rw[We,length_range]
def va.pS(hd:m.dc=0)(hr:m.rg=0){D R K:Nat}(h1:m.fc=(D:Int)+1)(h2:m.rn=(R:Int)+1)(h3:m.nn=(K:Int)):
  jf 13 m.zx=(if m.sure=false then 0 else D*K)/\jf 14 m.zx=if m.sure=false then 0 else R*K:=by
 have e1:m.fc.toNat=D+1:=by omega
 have e2:m.rn.toNat=R+1:=by omega
 have e3:m.nn.toNat=K:=by omega
 unfold va.zx;split
 .exact⟨rfl,rfl⟩
 .rw[e1,e2,zh,zh];constructor
  .rw[Dv (c:=K) ?_ ?_,Ev ?_]
   .rfl
   .intro x;split
    .rfl
    .exact Rh λy hy=>by rw[m.Cv _ _ _ _ y hy];decide
   .rw[if_pos (by rw[hd];rfl)];rfl
   .intro x hx;rw[if_neg (by rw[hd];omega),zh,Rh λy hy=>by rw[m.Tr _ y hy];decide,m.ZI,e3,Nat.zero_add]
  .rw[Ev ?_,Dv (c:=K) ?_ ?_]
   .exact Nat.zero_add _
   .rw[if_pos (by rw[hr];rfl)];rfl
   .intro x hx;rw[if_neg (by rw[hr];omega),m.ZI,e3]
   .intro x;split
    .rfl
    .rw[zh,Rh λy hy=>by rw[m.Tr _ y hy];decide,Rh λy hy=>by rw[m.Cv _ _ _ _ y hy];decide]
def va.ticks{Wi:Da}(hk:Wi.kind=10)(hd:m.dc=0)(hr:m.rg=0){D R K:Nat}(h1:m.fc=(D:Int)+1)(h2:m.rn=(R:Int)+1)(h3:m.nn=(K:Int)){ms:List Da}(e:ms=Wi::(m.Jd++(m.Cj++(m.ve++m.zx)))):
  (∀y∈ms,Mz m (ic m.rg m.Ab) y)/\jf 13 ms=(if m.sure=false then 0 else D*K)/\jf 14 ms=if m.sure=false then 0 else R*K:=by
 have g1:=m.bP;have g2:=m.dP;have g3:=m.PG;obtain⟨g4,g5⟩:=m.pS hd hr h1 h2 h3
 have hc:∀k:Int,k≠10->k≠8->k≠7->k≠11->jf k ms=jf k m.zx:=by
  intro k k1 k2 k3 k4;rw[e,show Wi::(m.Jd++(m.Cj++(m.ve++m.zx)))=[Wi]++(m.Jd++(m.Cj++(m.ve++m.zx))) from rfl];rw[zh,zh,zh,zh,Rh λy hy=>by rw[mem_singleton.1 hy,hk];omega,Rh λy hy=>by have:=(g1 y hy).1;omega,Rh λy hy=>by have:=g2 y hy;omega,Rh λy hy=>by have:=g3 y hy;omega];omega
 refine⟨λy hy=>?_,(hc 13 (by decide) (by decide) (by decide) (by decide)).trans g4,(hc 14 (by decide) (by decide) (by decide) (by decide)).trans g5⟩;rw[e] at hy;rcases mem_cons.1 hy with rfl|hy
 .exact .other (.inl hk)
 rcases mem_append.1 hy with hy|hy
 .exact .other (.inr (.inl (g1 y hy).1))
 rcases mem_append.1 hy with hy|hy
 .exact .other (.inr (.inr (.inl (g2 y hy))))
 rcases mem_append.1 hy with hy|hy
 .exact .other (.inr (.inr (.inr (g3 y hy))))
 .exact .far hd hr y hy
def QG(n:va)(b lb hb sb:Nat)(vw:Value)(x:Int):Ct prog 43 [b,x] [za b n lb hb sb vw,Ma sb n.dc n.rc] (λr H'=>r= .int .i64 (if Xd n.dc x then n.rc.get x else 0)/\H'=[za b n lb hb sb vw,Ma sb n.dc n.rc]):=by
 have h1:=Fw sb n.dc x n.rc;refine ce func43 λg R=>?_;repeat' first|refine vb ?_|refine gS (λ_=>?_) λ_=>?_|refine Ud λ_=>?_|refine al λ_=>?_|refine cq h1 ?_
 exact vj [za b n lb hb sb vw,Ma sb n.dc n.rc]
section
variable{fc rn nn cl nd:Int}{Uf:List MG}{v:Value}{hs:Hp}(hx:Rs Uf v hs)(hlen:Uf.length<=1099511627776)(hz:∀a∈Uf,YM a)
include hx hlen hz
theorem RG:Ct prog 7 [.agg (List.toArray [fc,rn,nn,cl]),nd,v] [hs] (λr H'=>r= .bool true/\H'=[hs]):=by
 refine ce func7 λg R=>?_;repeat' first|refine vb ?_|refine gS (λ_=>?_) λ_=>?_|refine Ud λ_=>?_|refine al λ_=>?_|refine cq Tx ?_|refine yj [fc,rn,nn,cl] ?_
 rename_i b3;refine ck (au hx hlen λa ha=>(hz a ha).2) ?_;rintro _ _ ⟨bm,rfl,rfl,U2⟩;simp only[can]
 cases bm with
 |true=>
  repeat' first|refine ga ?_|refine gS (λ_=>?_) λ_=>?_|refine Ud λ_=>?_|refine al λ_=>?_
  exact vj [hs]
 |false=>
  have kd:=JV (fc:=fc) (rn:=rn) (nn:=nn) (cl:=cl) (nd:=nd) hx (U2 rfl) λa ha=>(hz a ha).1;repeat' first|refine ga ?_|refine gS (λ_=>?_) λ_=>?_|refine Ud λ_=>?_|refine al λ_=>?_|refine cq Tx ?_|refine yj [fc,rn,nn,cl] ?_
  refine ck kd ?_;rintro r H' (⟨rfl,rfl⟩|⟨n,b,bd,h,hd,rfl,⟨ok,hL⟩,q1,q2,q3,q4,hm,Gz,rfl⟩)
  .simp only[ca,na];repeat' first|refine ga ?_|refine gS (λ_=>?_) λ_=>?_|refine Ud λ_=>?_|refine al λ_=>?_
   exact vj [hs]
  simp only[can];obtain⟨⟨l1,l2⟩,⟨l3,l4⟩,⟨l5,l6⟩,-⟩:=hL;have hm0:=hm;obtain⟨lb,hb,sb,vw,hl,hw,v0,hh,rfl,at_⟩:=hm;obtain⟨cb,d,w,u,hv,X,rfl,Mf⟩:=va.FF at_.lg;have Dn:=Ur n lb cb d w;refine WX.f0 [za b n lb hb sb vw,xb n lb cb d w,oa cb n.c u,hv,X,hw,La hb n.rg v0,hh,Ma sb n.dc n.rc,hd,hs,[(b3,.cells (List.toArray [fc,rn,nn,cl]) 23 (0,0))],R] ?_
  cases hu:n.s.Xa with
  |false=>
   rw[hu] at Dn;repeat' first|refine ga ?_|refine gS (λ_=>?_) λ_=>?_|refine Ud λ_=>?_|refine al λ_=>?_|refine cq Dn ?_
   exact vj [hs]
  |true=>
   rw[hu] at Dn;have h1s:=ok.cs.st;have h2s:=ok.ob.du;have jg:=ok.ob.len;have h4s:n.c.len=(n.c.lg.length:Int):=rfl;obtain⟨K,hK⟩:∃K:Nat,n.c.st=(K:Int):=⟨n.c.st.toNat,by omega⟩;have hle:K<=n.c.lg.length:=by omega
   have k6:=Ag n.c cb u;rw[hK] at k6;have klg:=ym n.c cb Mf.rs (by omega);obtain⟨C,hC⟩:∃C,ic 0 (n.c.lg.take K)=C:=⟨_,rfl⟩
   have k9:∀{u:Value} {h:Hp},Rs (n.c.lg.take K) u h->Ct prog 42 [.int .i64 0,u] [h] (λr H'=>r= .agg (List.toArray C.enc)/\H'=[h]):=λhu=>by
    have:=Yj 0 hu (by rw[Fe];omega);rw[hC] at this;exact this
   repeat' first|refine ga ?_|refine gS (λ_=>?_) λ_=>?_|refine Ud λ_=>?_|refine al λ_=>?_|refine cq Dn ?_
   refine W.gi (α:=Nat) (λ_=>True) (λy=>[(1,nd),(3,b3),(7,b),(9,.pointer (some ⟨y,0,none⟩))]) (λy=>[Ac y C,za b n lb hb sb vw,xb n lb cb d w,oa cb n.c u,hv,X,hw,La hb n.rg v0,hh,Ma sb n.dc n.rc,hs,[(b3,.cells (List.toArray [fc,rn,nn,cl]) 23 (0,0))],R]) ?_ ?_
   .refine w6 (ml [7,1,7,1,1,3]) [za b n lb hb sb vw,xb n lb cb d w] ?_;repeat' first|refine ga ?_|refine gS (λ_=>?_) λ_=>?_|refine Ud λ_=>?_|refine al λ_=>?_|refine WY.Se ?_|refine WY.back ?_|refine Uk 0 ?_|refine Uk 1 ?_|refine Uk 2 ?_|refine Uk 3 ?_|refine Uk 4 ?_|refine Uk 5 ?_|refine Uk 6 ?_|refine Uk 8 ?_|refine Uk 9 ?_|refine Uk 10 ?_|refine Uk 11 ?_|refine Uk 12 ?_|refine Uk 13 ?_|refine Uk 14 ?_|refine Uk 16 ?_|refine WY.Ts 7 18 (by decide+kernel) rfl rfl ?_ ?_|refine WY.Ts 15 18 (by decide+kernel) rfl rfl ?_ ?_|refine WY.Ts 17 18 (by decide+kernel) rfl rfl ?_ ?_|refine uK 7 ?_|refine uK 15 ?_|refine uK 17 ?_|refine uK 18 ?_|refine uK 19 ?_|refine WY.fin (by kernel_rfl) ?_|(refine I.cl ?_;refine ck klg ?_;rintro _ _ ⟨h5,hs5,rfl⟩;simp only[ca,na])|refine cq k6 ?_|refine cq (k9 ((ia.rs ‹ia 49 n.c.lg _ _›).take hle)) ?_|refine sl rfl rfl (ia.rs ‹ia 49 n.c.lg _ _›) ?_ hle|refine nh V3.z.enc C.enc ?_
    all_goals first|exact D.Hu _ trivial (by repeat(first|exact Ca.nil|refine Ca.cons rfl ?_)) (Ga.qa inferInstance)|trace_state
   rintro b9 -;try simp only[]
   refine W.f0 [Ac b9 C,yx b n lb hb sb vw (xb n lb cb d w++(oa cb n.c u++(hv++X))) hw v0 hh,hs,[(b3,.cells (List.toArray [fc,rn,nn,cl]) 23 (0,0))],R] ?_;have kt:=Kz hm0 ok.toef (by decide);obtain⟨p1,p2,p3,p4,p5,p6⟩:=va.Aq ok.toef (by decide);obtain⟨r1,r2,-,-,-,r6,r7,r8⟩:=n.Dd;have bg:=ok.toef.pull (by decide);have V2:=bg.cs;have htl:=va.TI ok.toef (by decide);rw[va.LV hu] at kt htl;obtain⟨Wi,hh0⟩:∃x:Da,x={n.out 10 n.Cc with ep:=n.ep}:=⟨_,rfl⟩;have hk:Wi.kind=10:=by rw[hh0];rfl
   rw[<-hh0] at kt htl
   have hst:n.pull.Ab=n.c.lg.take K:=by
    obtain⟨t,ht⟩:=p6;unfold va.Ab;rw[p2,hK,<-ht];exact take_append_of_le_length hle
   obtain⟨D0,hD⟩:∃D0:Nat,fc=(D0:Int)+1:=⟨(fc - 1).toNat,by omega⟩;obtain⟨R0,hR⟩:∃R0:Nat,rn=(R0:Int)+1:=⟨(rn - 1).toNat,by omega⟩;obtain⟨K0,T7⟩:∃K0:Nat,nn=(K0:Int):=⟨nn.toNat,by omega⟩;obtain⟨ms,tK⟩:∃ms:List Da,ms=Wi::(n.pull.Jd++(n.pull.Cj++(n.pull.ve++n.pull.zx))):=⟨_,rfl⟩;obtain⟨s1,s2,s3⟩:=va.ticks hk (r6.trans ok.dc) (r7.trans ok.rg) (D:=D0) (R:=R0) (K:=K0) (by rw[r1,q1,hD]) (by rw[r2,q2,hR]) (by rw[show n.pull.nn=n.nn from(va.Dd n).2.2.1,q3,T7]) tK;rw[show n.pull.rg=0 from r7.trans ok.rg,hst,hC] at s1;rw[<-tK] at kt htl;have F6:∀e∈n.pull.Ab,Xc e:=λe he=>bg.ob.es e (mem_of_mem_take he);generalize n.pull=m at kt htl bg V2 s1 s2 s3 F6;have htl:ms.length<=100000:=htl;repeat' first|refine ga ?_|refine gS (λ_=>?_) λ_=>?_|refine Ud λ_=>?_|refine al λ_=>?_
   refine ck kt ?_;rintro r1 _ ⟨h1,h2,hs1,Ji,rfl⟩;have hs1:ia 52 ms r1 h1:=hs1;have Ji:qg m b h2:=Ji;obtain⟨lb',hb',sb',Vs,hl',Uh,v',Ni,rfl,DI⟩:=Ji;obtain⟨Ya,d',w',u',Lc,X',rfl,Nj⟩:=va.FF DI.lg;obtain⟨r1,c1,rfl⟩:=hs1.len;have AF:=hs1.rs;have g1s:=V2.st;have g2s:=bg.ob.du;have gll:=bg.ob.len;have g4s:m.c.len=(m.c.lg.length:Int):=rfl;obtain⟨K1,hK1⟩:∃K1:Nat,m.c.st=(K1:Int):=⟨m.c.st.toNat,by omega⟩;have W2:K1<=m.c.lg.length:=by omega
   have hsE:m.Ab=m.c.lg.take K1:=by unfold va.Ab;rw[hK1];rfl
   have k3:=Ag m.c Ya u';rw[hK1] at k3;have U7:=ym m.c Ya Nj.rs (by omega);refine WX.f0 [h1,za b m lb' hb' sb' Vs,xb m lb' Ya d' w',oa Ya m.c u',Lc,X',Uh,La hb' m.rg v',Ni,Ma sb' m.dc m.rc,Ac b9 C,hs,[(b3,.cells (List.toArray [fc,rn,nn,cl]) 23 (0,0))],R] ?_;repeat' first|refine ga ?_|refine gS (λ_=>?_) λ_=>?_|refine Ud λ_=>?_|refine al λ_=>?_
   refine W.lo (α:=Nat) (λk=>k<=ms.length) (λk=>[(3,b3),(7,b),(9,b9),(10,.slice r1 ms.length c1),(11,.int .i64 (jf 13 (ms.take k):Int)),(12,.int .i64 (jf 14 (ms.take k):Int)),(13,.int .i64 (k:Int))])
    (λ_=>[h1,za b m lb' hb' sb' Vs,xb m lb' Ya d' w',oa Ya m.c u',Lc,X',Uh,La hb' m.rg v',Ni,Ma sb' m.dc m.rc,Ac b9 C,hs,[(b3,.cells (List.toArray [fc,rn,nn,cl]) 23 (0,0))],R]) (λk=>ms.length - k) 0 (Gi _) ?_
   intro k hk;by_cases hlt:k<ms.length
   .obtain⟨y,hy⟩:=Sh hlt;obtain⟨f13,f14,f12⟩:=s1 y (mem_of_getElem? hy);have t13:=HF (k:=13) hy;have t14:=HF (k:=14) hy
    have bd1:jf 13 (ms.take k)<=100000:=by
     have:=countP_le_length (p:=λy:Da=>decide (y.kind=13)) (l:=ms.take k);have:(ms.take k).length<=ms.length:=by rw[Fe];omega
     unfold jf;omega
    have bd2:jf 14 (ms.take k)<=100000:=by
     have:=countP_le_length (p:=λy:Da=>decide (y.kind=14)) (l:=ms.take k);have:(ms.take k).length<=ms.length:=by rw[Fe];omega
     unfold jf;omega
    by_cases sY:y.kind=13
    .obtain⟨⟨a1,a2,a3⟩,a4,a5⟩:=f13 sY;have a5': ¬ ¬y.to.rg=0:=not_not_intro a5;have ZW:Db [.i,.i,.i] (V3.enc ⟨y.c0,y.c1,y.c2⟩) C.enc=some true:=by rw[a1,a2,a3];exact Zt rfl
     rw[if_pos sY] at t13;rw[if_neg (by omega)] at t14;repeat' first|refine ga ?_|refine gS (λ_=>?_) λ_=>?_|refine Ud λ_=>?_|refine al λ_=>?_|refine rG AF hy ?_|refine nh Da.z.enc y.enc ?_
     rename_i tY;repeat' first|refine ga ?_|refine gS (λ_=>?_) λ_=>?_|refine Ud λ_=>?_|refine al λ_=>?_|refine Xm tY 70 y.enc (V3.enc ⟨y.c0,y.c1,y.c2⟩) ?_|refine yj C.enc ?_|refine WX.xl rfl rfl ZW rfl ?_
     refine D.as 11 (.int .i64 (jf 13 (ms.take (k+1)):Int)) rfl (by rw[t13];push_cast;rfl) ?_;refine D.as 12 (.int .i64 (jf 14 (ms.take (k+1)):Int)) rfl (by rw[t14];rfl) ?_;exact D.re (k+1)
    .rw[if_neg sY] at t13;by_cases uY:y.kind=14
     .obtain⟨⟨a1,a2,a3⟩,a4,a5⟩:=f14 uY;have a4': ¬ ¬y.to.dc=0:=not_not_intro a4;have ZW:Db [.i,.i,.i] (V3.enc ⟨y.c0,y.c1,y.c2⟩) C.enc=some true:=by rw[a1,a2,a3];exact Zt rfl
      rw[if_pos uY] at t14;repeat' first|refine ga ?_|refine gS (λ_=>?_) λ_=>?_|refine Ud λ_=>?_|refine al λ_=>?_|refine rG AF hy ?_|refine nh Da.z.enc y.enc ?_
      rename_i tY;repeat' first|refine ga ?_|refine gS (λ_=>?_) λ_=>?_|refine Ud λ_=>?_|refine al λ_=>?_|refine Xm tY 70 y.enc (V3.enc ⟨y.c0,y.c1,y.c2⟩) ?_|refine yj C.enc ?_|refine WX.xl rfl rfl ZW rfl ?_
      refine D.as 11 (.int .i64 (jf 13 (ms.take (k+1)):Int)) rfl (by rw[t13];rfl) ?_;refine D.as 12 (.int .i64 (jf 14 (ms.take (k+1)):Int)) rfl (by rw[t14];push_cast;rfl) ?_;exact D.re (k+1)
     .rw[if_neg uY] at t14;by_cases Y2:y.kind=12
      .obtain⟨a1,a2,a3⟩:=f12 Y2;have a6:=(F6 y.en a3).sq;have a1': ¬ ¬y.en.dc=0:=not_not_intro a1;have kr:=QG m b lb' hb' sb' Vs y.to.dc;obtain⟨Q0,hQ0⟩:∃Q0:Int,(if Xd m.dc y.to.dc then m.rc.get y.to.dc else 0)=Q0:=⟨_,rfl⟩;rw[hQ0] at kr a2;have a2': ¬ ¬y.en.sq=Q0+1:=not_not_intro a2;have a7: -4<=Q0/\Q0<=1099511627776:=by constructor;omega;have:=a6.2;unfold MC at this;omega
       rw[hsE] at a3;have km:=λ{u:Value} {h:Hp} (hu:Rs (m.c.lg.take K1) u h)=>XR hu (by rw[Fe];omega) y.en a3;repeat' first|refine ga ?_|refine gS (λ_=>?_) λ_=>?_|refine Ud λ_=>?_|refine al λ_=>?_|refine rG AF hy ?_|refine nh Da.z.enc y.enc ?_
       rename_i tY;refine W.h0 [Jc tY y,h1,za b m lb' hb' sb' Vs,xb m lb' Ya d' w',oa Ya m.c u',Lc,X',Uh,La hb' m.rg v',Ni,Ma sb' m.dc m.rc,Ac b9 C,hs,[(b3,.cells (List.toArray [fc,rn,nn,cl]) 23 (0,0))],R] ?_;refine Ns (ml [14,1,11,1,7,1,3,1,2]) [Jc tY y,za b m lb' hb' sb' Vs,xb m lb' Ya d' w',Ma sb' m.dc m.rc] ?_;repeat' first|refine ga ?_|refine gS (λ_=>?_) λ_=>?_|refine Ud λ_=>?_|refine al λ_=>?_|refine Xm tY 27 y.enc y.en.enc ?_|refine cq kr ?_|refine cq k3 ?_|(refine ck U7 ?_;rintro _ _ ⟨h5,hs5,rfl⟩;simp only[ca,na])|refine cq (km ((ia.rs ‹ia 49 m.c.lg _ _›).take W2)) ?_|refine sl rfl rfl (ia.rs ‹ia 49 m.c.lg _ _›) ?_ W2
       refine D.as 11 (.int .i64 (jf 13 (ms.take (k+1)):Int)) rfl (by rw[t13];rfl) ?_;refine D.as 12 (.int .i64 (jf 14 (ms.take (k+1)):Int)) rfl (by rw[t14];rfl) ?_;exact D.re (k+1)
      .repeat' first|refine ga ?_|refine gS (λ_=>?_) λ_=>?_|refine Ud λ_=>?_|refine al λ_=>?_|refine rG AF hy ?_|refine nh Da.z.enc y.enc ?_
       refine D.as 11 (.int .i64 (jf 13 (ms.take (k+1)):Int)) rfl (by rw[t13];rfl) ?_;refine D.as 12 (.int .i64 (jf 14 (ms.take (k+1)):Int)) rfl (by rw[t14];rfl) ?_;exact D.re (k+1)
   .obtain rfl:k=ms.length:=by omega
    rw[take_length];have k4:=Zm bg.ob.co Ya u';have k5:=Nz m.c Ya u';have iB:m.c.nd=m.nd:=(Ea.Uq m.s).1;have hsu:m.sure=(decide m.c.last && m.c.su):=rfl;by_cases R1:m.sure=false
    .rw[if_pos R1] at s2 s3;have z1:((jf 13 ms:Nat):Int)=0:=by rw[s2];rfl
     have z2:((jf 14 ms:Nat):Int)=0:=by rw[s3];rfl
     generalize((jf 13 ms:Nat):Int)=y1 at z1⊢;generalize((jf 14 ms:Nat):Int)=y2 at z2⊢;by_cases Z2:m.c.last
     .rw[Fi Z2] at k4;have uz:m.c.su=false:=by rw[Fi Z2] at hsu;rw[R1] at hsu;simpa using hsu.symm
      rw[uz] at k5;repeat' first|refine ga ?_|refine gS (λ_=>?_) λ_=>?_|refine Ud λ_=>?_|refine al λ_=>?_|refine cq k4 ?_|refine cq k5 ?_
      exact Wa [hs] rfl rfl ⟨by rw[Fi z2],rfl⟩
     .rw[gj Z2] at k4;repeat' first|refine ga ?_|refine gS (λ_=>?_) λ_=>?_|refine Ud λ_=>?_|refine al λ_=>?_|refine cq k4 ?_|refine cq k5 ?_
      exact Wa [hs] rfl rfl ⟨by rw[Fi z2],rfl⟩
    .rw[if_neg R1] at s2 s3;have qS:m.sure=true:=by simpa using R1
     rw[hsu,Bool.and_eq_true,decide_eq_true_iff] at qS;obtain⟨Z2,uz⟩:=qS;rw[Fi Z2] at k4;rw[uz] at k5;have z1:((jf 13 ms:Nat):Int)=(fc - 1)*nn:=by rw[s2,hD,T7];push_cast;congr 1;omega
     have z2:((jf 14 ms:Nat):Int)=(rn - 1)*nn:=by rw[s3,hR,T7];push_cast;congr 1;omega
     have w1: -9223372036854775808<=(fc - 1)*nn/\(fc - 1)*nn<=9223372036854775807:=by
      have:fc=1\/fc=2\/fc=3:=by omega
      rcases this with h|h|h<;>(rw[h];omega)
     have w2: -9223372036854775808<=(rn - 1)*nn/\(rn - 1)*nn<=9223372036854775807:=by
      have:rn=1\/rn=2\/rn=3:=by omega
      rcases this with h|h|h<;>(rw[h];omega)
     generalize((jf 13 ms:Nat):Int)=y1 at z1⊢;generalize((jf 14 ms:Nat):Int)=y2 at z2⊢;repeat' first|refine ga ?_|refine gS (λ_=>?_) λ_=>?_|refine Ud λ_=>?_|refine al λ_=>?_|refine cq k4 ?_|refine cq k5 ?_|refine WX.mul (i:=fc - 1) (j:=nn) rfl rfl rfl w1 ?_|refine WX.mul (i:=rn - 1) (j:=nn) rfl rfl rfl w2 ?_
     exact Wa [hs] rfl rfl ⟨by rw[Fi z2],rfl⟩
end
set_option maxRecDepth 100000 in
theorem Fv(os:Os)(started:os.Started)(H:Type)(enc:TypeId×Value->H):
  ReturnsInHanded {} checked os 7 .any (Rows.nodeShipsSpec.pre6 enc prog f7 Rows.nodeShipsRow.domain false) (Rows.nodeShipsSpec.post enc prog f7 false true false false):=by
 refine Vr (C:=checked) (tb:=4) Tryz.own started (by kernel_rfl) func7
  (ChangeSpec.witness6 (enc:=enc) (C:=checked) false ⟨#[], #[.agg #[.int .i64 0,.int .i64 0,.int .i64 0,.int .i64 0],.int .i64 0,.slice none 0 0],[]⟩ 8 (by kernel_rfl) (by kernel_rfl) (by kernel_rfl) (by kernel_rfl))
  Tryz.laidOut (by kernel_rfl) rfl underlying4 rfl (λds hd=>match ds,hd with|[_,_,_],_=>⟨rfl,rfl,rfl⟩) ?_
 intro W base args ds p Gw iX aJ;have hval:∀(j:Nat) t v,f7.params[j]? =some t->args[j]? =some v->Value.okWide prog W .any base t v:=Gw;have hA:DataW.TrodAll enc prog W 0 (λ_=>true) true f7.params.toList args.toList ds p:=iX;have lC:∀l∈DataW.weightsEach prog f7.params.toList ds,l<=reachBytes:=aJ;clear Gw iX aJ;rw[params7] at hA hval lC;obtain⟨v0,v1,v2,d0,d1,d2,p0,p1,p2,rfl,rfl,rfl,h0,h1,h2⟩:=ChangeShapes.trodAll_three hA;obtain⟨l,rfl,_⟩:=Lk 0 FL (hval 0 23 v0 rfl rfl) h0 (xe lC (i:=0) rfl rfl);obtain⟨nd,rfl,_⟩:=Vx (hval 1 3 v1 rfl rfl) h1;obtain⟨xs,hx,hxz,Wx⟩:=Gv (by kernel_rfl) GL (hval 2 24 v2 rfl rfl) h2 (xe lC (i:=2) rfl rfl);exact Hv (RG hx.rs (HL Wx) hxz)
def SG:(Rows.nodeShipsRow.inPlace==prog.inPlace 7)=true:=by kernel_rfl
def TG:(Rows.nodeShipsRow.unfollowed==prog.unfollowed 7)=true:=by kernel_rfl
def UG:(Rows.nodeShipsRow.recurses==prog.recurses 7)=true:=by kernel_rfl
def VG:(Rows.nodeShipsRow.named==prog.varsNamed 7)=true:=by kernel_rfl
def WG:laidOutB prog=true:=by kernel_rfl
def XG:mapsRowed prog=true:=by kernel_rfl
def YG:(Rows.nodeShipsRow.plainKeys==prog.plainKeys)=true:=by kernel_rfl
def ZG:(Rows.nodeShipsRow.lifted==prog.liftsFinal)=true:=by kernel_rfl
def aH:prog.stopsHeard=true:=by kernel_rfl
def Iv:joinedFacts prog 7 f7 Rows.nodeShipsSpec Rows.nodeShipsRow=true:=by
 unfold joinedFacts;rw[SG,TG,UG,VG,WG,XG,YG,ZG,aH]
 kernel_rfl
theorem nodeShips_holds:Rows.NodeShipsSaid:=
 OpenClaim.holds_of_wide 7 f7 rfl rfl rfl rfl rfl rfl rfl ⟨rfl,rfl,rfl,rfl,rfl⟩ rfl rfl rfl rfl rfl (by kernel_rfl) func7 Iv
  (of_decide_eq_true (by kernel_rfl)) (by unfold Func.isWrapper;first|(rw[if_pos (by decide+kernel)];kernel_rfl)|(rw[if_neg (by decide+kernel)];exact⟨rfl,rfl⟩))
  (λos started H enc _=>Fv os started H enc)
end Go.Proofs.YthebagfahkebiaaGreat
