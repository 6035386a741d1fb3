/- Texts of one road. -/
import Derived.Test.YthebagfahkebiaaGreatRBC
import Derived.Test.YthebagfahkebiaaGreatRBD
set_option linter.all false
set_option maxHeartbeats 8000000
set_option maxRecDepth 20000
namespace Go.Proofs.YthebagfahkebiaaGreat
open Go Go.Sl Go.Proofs.Tryz List
def Ga.Fo(s:Ga)(key val:ByteArray)(dead:Bool)(deps:V9)(clock cl op:Int):Lb s.c0 (s.put key val dead deps clock cl op).2.c0:=by
 cases s with
 |up l c t=>exact Go.Proofs.YthebagfahkebiaaGreat.Fo l c key val dead deps clock cl op
 |dn l c q=>exact Lb.refl _
section
variable(n:ua){N:Int}(ok:We n N)(hN:N<1099511627776)(b lb hb sb:Nat)
include ok hN
theorem lW(m:Da){vw:Value}{hl hw:Hp}(hm:Dg n.s lb hl)(Br:ia 181 n.ws vw hw):Ct prog 61 [b,.agg (List.toArray m.enc)] [za b n lb hb sb vw,hl,hw]
  (λr H'=>∃h' iy Oi hl',ia 52 (n.put m).2 r h'/\Dg (n.put m).1.s lb hl'/\ia 181 (n.put m).1.ws iy Oi/\H'=[h',za b (n.put m).1 lb hb sb iy,hl',Oi]):=by
 have hm0:=hm;obtain⟨cb,d,w,u,hv,X,rfl,Ue⟩:=ua.Qv hm;have k1:=Vj n b lb hb sb vw 4 m.fr;have k2:=Sg n.c cb u;have k3:=jk ok.xb.co cb u;have k4:=dS ok.ok hm0 m.key m.val m.dead m.dp m.ct m.fr.nd m.op;unfold ua.put;refine ce func61 λg R=>?_;simp only[can];refine W.f0 [za b n lb hb sb vw,Pa n lb cb d w,ja cb n.c u,hv,X,hw,R] ?_;repeat' first|refine ga ?_|refine Uc λ_=>?_|refine al λ_=>?_|refine WX.Ea (i:=1) (cs:=m.enc) (vs:=m.fr.enc) rfl rfl rfl rfl ?_|refine cq k1 ?_|refine xg Da.z.enc (n.out 4 m.fr).enc ?_
 rename_i b3 b5;refine W.h0 [Yb b5 (n.out 4 m.fr),Yb b3 m,za b n lb hb sb vw,Pa n lb cb d w,ja cb n.c u,hv,X,hw,R] ?_;refine Wp (ml [5,1]) [Yb b3 m] ?_;try refine ga ?_
 refine ei (Da.enc (n.out 4 m.fr)) (Da.enc {n.out 4 m.fr with op:=m.op}) ?_;try refine ga ?_
 refine ei (Da.enc {n.out 4 m.fr with op:=m.op}) (Da.enc {n.out 4 m.fr with op:=m.op,tr:=m.tr}) ?_;refine WX.nil ?_;refine D.seq ?_;generalize hno:({n.out 4 m.fr with op:=m.op,tr:=m.tr}:Da)=no;have hnc:∀k,n.no 4 m k={no with code:=k}:=λk=>by rw[<-hno];rfl
 by_cases c1:m.ep=n.ep
 .by_cases c2:n.c.head
  .rw[Mi c2] at k3;rw[if_neg (λh=>h.elim (λh=>h c1) λh=>h c2)];have A0: ¬ ¬m.ep=n.ep:=not_not_intro c1;have hid:=Ga.Fo n.s m.key m.val m.dead m.dp m.ct m.fr.nd m.op;have Qi:=ok.ok.put hN m.key m.val m.dead m.dp m.ct m.fr.nd m.op;have nr:(n.s.put m.key m.val m.dead m.dp m.ct m.fr.nd m.op).1.2=0->_:=λk=>Ga.Mq ok.ok k;try simp only[]
   generalize n.s.put m.key m.val m.dead m.dp m.ct m.fr.nd m.op=r at k4 hid Qi nr⊢;obtain⟨⟨i,e⟩,s1⟩:=r;simp only[] at k4 hid Qi nr;try refine ga ?_
   refine wq ?_;repeat' first|refine ga ?_|refine cq k2 ?_|refine cq k3 ?_
   refine Wp (ml [19,1,5]) [Yb b3 m,za b n lb hb sb vw] ?_;repeat' first|refine ga ?_|refine bn b3 52 m.enc m.dp.enc ?_
   refine ck k4 ?_;rintro _ _ ⟨rfl,l1,rfl,cg⟩;simp only[can];have eN:=λv=>ua.ai (b:=b) n hid lb hb sb v;by_cases c3:e=0
   .rw[if_neg (not_not_intro c3)];have ny:=cg;obtain⟨i1,i2⟩:=nr c3;obtain⟨n1,ic⟩:∃n1:ua,n1={n with s:=s1}:=⟨_,rfl⟩;rw[<-ic] at eN⊢;have cg:Dg n1.s lb l1:=by rw[ic];exact cg
    have ny:=cg;obtain⟨ob,d',w',u',Rc,X',rfl,Hl⟩:=ua.Qv cg;have oc:Ob n1.c:=by rw[ic];exact Qi.ch
    have hst:=Gg n1.c ob u';have G8:=JJ n1 b lb hb sb ob d' w' vw u' oc Hl.rs m.fr m.op m.tr i ⟨by omega,by omega⟩;have FE:ia 181 n1.ws vw hw:=by rw[ic];exact Br
    rw[<-eN vw];refine WX.f0 [Pa n1 lb ob d' w',ja ob n1.c u',Rc,X',Yb b5 no,Yb b3 m,za b n1 lb hb sb vw,hw,R] ?_;by_cases c4:i<=n1.c.st
    .rw[if_pos c4];repeat' first|refine ga ?_|refine cq hst ?_|refine cq G8 ?_|refine bn b3 1 m.enc m.fr.enc ?_
     refine Up [n1.Jj ⟨m.fr,m.op,m.tr,i⟩] (λv4 h4 hs4=>?_);try refine ga ?_
     refine D.Vd [h4,za b n1 lb hb sb vw,Pa n1 lb ob d' w',ja ob n1.c u',Rc,X',hw,R] (H2:=[h4,za b n1 lb hb sb vw,Pa n1 lb ob d' w'++(ja ob n1.c u'++(Rc++X')),hw,R]) (by simp) ?_;exact Xa [h4,za b n1 lb hb sb vw,Pa n1 lb ob d' w'++(ja ob n1.c u'++(Rc++X')),hw] rfl rfl ⟨_,_,_,_,hs4,ny,FE,rfl⟩
    .rw[if_neg c4];have hwn:n.ws=n1.ws:=by rw[ic]
     have eW:∀l:List Wt,({n with s:=s1,ws:=l}:ua)={n1 with ws:=l}:=λl=>by rw[ic]
     have eWs:n1={n1 with ws:=n1.ws}:=rfl;unfold ua.wait;rw[eW];rw[hwn];obtain⟨P,hP⟩:∃P:Wt->Bool,P=λx=>decide (x.to.nd=m.fr.nd/\x.op=m.op):=⟨_,rfl⟩;rw[<-hP];obtain⟨pw,cw,rfl⟩:=FE.len;have hrw:=FE.rs;have Yy:n1.ws.length<=16:=by rw[<-hwn];exact ok.wl
     repeat' first|refine ga ?_|refine cq hst ?_
     refine W.lo (α:=Nat) (λk=>k<=n1.ws.length/\∀(j:Nat) (x:Wt),j<k->n1.ws[j]? =some x->P x=false)
      (λk=>[(0,b),(3,b3),(6,i),(98,.slice pw n1.ws.length cw),(99,.int .i64 (n1.ws.length:Int)),(100,.int .i64 (k:Int))])
      (λ_=>[Pa n1 lb ob d' w',ja ob n1.c u',Rc,X',Yb b3 m,za b n1 lb hb sb (.slice pw n1.ws.length cw),hw,R]) (λk=>n1.ws.length - k) 0 ⟨di _,λj x hj=>absurd hj (Nat.not_lt_zero _)⟩ ?_
     rintro k ⟨hk,hall⟩;by_cases hlt:k<n1.ws.length
     .obtain⟨x,hx⟩:=Lh hlt;by_cases e1:x.to.nd=m.fr.nd<;>by_cases e2:x.op=m.op
      all_goals
       repeat' first|refine ga ?_|refine al λ_=>?_|refine Vx hrw hx ?_|refine xg (Wt.enc ⟨Ki.z,0,0,0⟩) x.enc ?_
      .refine Wp (ml [18,1]) [Yb b3 m,za b n1 lb hb sb (.slice pw n1.ws.length cw)] ?_;repeat' first|refine ga ?_|refine bn b3 1 m.enc m.fr.enc ?_
       refine WX.zo (y':={x with to:=m.fr}) (vs:=m.fr.enc) (k:=k) (off:=0) (ms:=7) rfl rfl rfl FE hx rfl rfl rfl rfl rfl (λh8 ju=>?_);try refine ga ?_
       refine WX.zo (y':={x with to:=m.fr,tr:=m.tr}) (vs:=[m.tr]) (k:=k) (off:=5) (ms:=7) rfl rfl rfl ju (List.getElem?_set_self hlt) rfl rfl rfl rfl rfl (λh9 Bp=>?_);try refine ga ?_
       have hf:n1.ws.findIdx? P=some k:=by
        rw[List.findIdx?_eq_some_iff_getElem];have pL:=(List.getElem?_eq_some_iff.1 hx).2;exact⟨hlt,by rw[pL,hP];exact Mi ⟨e1,e2⟩,λj hj=>by rw[hall j n1.ws[j] hj (Wg _)];decide⟩
       have hg:n1.ws.getD k ⟨Ki.z,0,0,0⟩=x:=by rw[getD_eq_getElem?_getD,hx];rfl
       rw[set_set] at Bp;rw[hf];simp only[];rw[hg];refine D.Vd [za b n1 lb hb sb (.slice pw n1.ws.length cw),Pa n1 lb ob d' w',ja ob n1.c u',Rc,X',h9,R] (H2:=[[],za b n1 lb hb sb (.slice pw n1.ws.length cw),Pa n1 lb ob d' w'++(ja ob n1.c u'++(Rc++X')),h9,R]) (by simp) ?_;exact Xa [[],za b n1 lb hb sb (.slice pw n1.ws.length cw),Pa n1 lb ob d' w'++(ja ob n1.c u'++(Rc++X')),h9] rfl rfl ⟨_,_,_,_,ia.nil _,ny,Bp,rfl⟩
      all_goals
       refine D.rd (k+1) ⟨by omega,λj y hj hy=>?_⟩ (by omega);rcases Nat.lt_or_ge j k with h|h
       .exact hall j y h hy
       .obtain rfl:j=k:=by omega
        rw[hx] at hy;cases hy;rw[hP];exact rj λh=>by first|exact e1 h.1|exact e2 h.2
     .obtain rfl:k=n1.ws.length:=by omega
      have hf:n1.ws.findIdx? P=none:=by
       rw[List.findIdx?_eq_none_iff];intro x hx;obtain⟨j,hj⟩:=mem_iff_getElem?.1 hx;exact hall j x (by have:=(List.getElem?_eq_some_iff.1 hj).1;omega) hj
      rw[hf];by_cases c5:n1.ws.length<16
      .try refine ga ?_
       refine Wp (ml [14,2]) [Yb b3 m,za b n1 lb hb sb (.slice pw n1.ws.length cw)] ?_;repeat' first|refine ga ?_|refine bn b3 1 m.enc m.fr.enc ?_|refine jf (Wt.enc ⟨m.fr,m.op,m.tr,i⟩) ?_
       refine Up [(⟨m.fr,m.op,m.tr,i⟩:Wt)] (λv4 h4 hs4=>?_);try refine ga ?_
       refine Jt (zb:=by simp only[Ib,td];omega) FE hs4.rs (λv5 h5 hs5=>?_);obtain⟨p5,q5,rfl⟩:=hs5.len;generalize(n1.ws++[(⟨m.fr,m.op,m.tr,i⟩:Wt)]).length=n5 at hs5⊢;try refine ga ?_
       refine ei (n1.cells lb hb sb (.slice pw n1.ws.length cw)) (n1.cells lb hb sb (.slice p5 n5 q5)) ?_;try refine ga ?_
       refine D.Vd [za b n1 lb hb sb (.slice p5 n5 q5),Pa n1 lb ob d' w',ja ob n1.c u',Rc,X',h5,R] (H2:=[[],za b n1 lb hb sb (.slice p5 n5 q5),Pa n1 lb ob d' w'++(ja ob n1.c u'++(Rc++X')),h5,R]) (by simp) ?_;simp only[];rw[if_pos c5];exact Xa [[],za b n1 lb hb sb (.slice p5 n5 q5),Pa n1 lb ob d' w'++(ja ob n1.c u'++(Rc++X')),h5] rfl rfl ⟨_,_,_,_,ia.nil _,ny,hs5,rfl⟩
      .try refine ga ?_
       refine D.Vd [za b n1 lb hb sb (.slice pw n1.ws.length cw),Pa n1 lb ob d' w',ja ob n1.c u',Rc,X',hw,R] (H2:=[[],za b n1 lb hb sb (.slice pw n1.ws.length cw),Pa n1 lb ob d' w'++(ja ob n1.c u'++(Rc++X')),hw,R]) (by simp) ?_;exact Xa [[],za b n1 lb hb sb (.slice pw n1.ws.length cw),Pa n1 lb ob d' w'++(ja ob n1.c u'++(Rc++X')),hw] rfl rfl ⟨_,_,_,_,ia.nil _,ny,by simp only[];rw[if_neg c5];exact FE,by simp only[];rw[if_neg c5]⟩
   .rw[if_pos c3,hnc];try refine ga ?_
    refine ei no.enc (Da.enc {no with code:=e}) ?_;repeat' first|refine ga ?_|refine Pg (Da.enc {no with code:=e}) ?_
    refine Up [({no with code:=e}:Da)] (λv4 h4 hs4=>?_);try refine ga ?_
    rw[<-eN vw];exact Xa [h4,za b {n with s:=s1} lb hb sb vw,l1,hw] rfl rfl ⟨_,_,_,_,hs4,cg,Br,rfl⟩
  .rw[rj c2] at k3;rw[if_pos (.inr c2),hnc];have A0: ¬ ¬m.ep=n.ep:=not_not_intro c1;try refine ga ?_
   refine wq ?_;repeat' first|refine ga ?_|refine cq k2 ?_|refine cq k3 ?_
   refine ei no.enc (Da.enc {no with code:=90}) ?_;repeat' first|refine ga ?_|refine Pg (Da.enc {no with code:=90}) ?_
   refine Up [({no with code:=90}:Da)] (λv4 h4 hs4=>?_);try refine ga ?_
   refine D.Vd [h4,za b n lb hb sb vw,Pa n lb cb d w,ja cb n.c u,hv,X,hw,R] (H2:=[h4,za b n lb hb sb vw,Pa n lb cb d w++(ja cb n.c u++(hv++X)),hw,R]) (by simp) ?_;exact Xa [h4,za b n lb hb sb vw,Pa n lb cb d w++(ja cb n.c u++(hv++X)),hw] rfl rfl ⟨_,_,_,_,hs4,hm0,Br,rfl⟩
 .rw[if_pos (.inl c1),hnc];try refine ga ?_
  refine wq ?_;repeat' first|refine ga ?_|refine cq k2 ?_
  refine ei no.enc (Da.enc {no with code:=90}) ?_;repeat' first|refine ga ?_|refine Pg (Da.enc {no with code:=90}) ?_
  refine Up [({no with code:=90}:Da)] (λv4 h4 hs4=>?_);try refine ga ?_
  refine D.Vd [h4,za b n lb hb sb vw,Pa n lb cb d w,ja cb n.c u,hv,X,hw,R] (H2:=[h4,za b n lb hb sb vw,Pa n lb cb d w++(ja cb n.c u++(hv++X)),hw,R]) (by simp) ?_;exact Xa [h4,za b n lb hb sb vw,Pa n lb cb d w++(ja cb n.c u++(hv++X)),hw] rfl rfl ⟨_,_,_,_,hs4,hm0,Br,rfl⟩
end
variable{s:Ga}{N:Int}
def ua.I8{n:ua}{b:Nat}{h:Hp}(hm:Dg n.s b h):∃cb d w v hv X,h=Pa n b cb d w++(ja cb n.c v++(hv++X))/\ia 49 n.c.lg v hv/\∀f ep du st,Dg (n.s.heard f ep du st).2 b (Pa n b cb d w++(ja cb (n.c.heard f ep du st).2 v++(hv++X))):=by
 obtain⟨cb,d,w,v,hv,seg,t,hd,rfl,at_⟩:=hm;exact⟨cb,d,w,v,hv,_,rfl,at_.sl,λf ep du st=>Dg.heard at_ f ep du st⟩
def Ga.JR(s:Ga)(f ep du st:Int):(s.heard f ep du st).1=(s.ch.heard f ep du st).1:=by
 cases s with
 |up l c t=>rfl
 |dn l c q=>show false=((CS.new c.dc c.rg c.nd).heard f ep du st).1;rw[CF]
def Ga.Dm(s:Ga)(fr ep ix:Int)(e:ya):Lb s.c0 (s.take fr ep ix e).2.c0:=by
 cases s with
 |up l c t=>exact Go.Proofs.YthebagfahkebiaaGreat.Dm l c fr ep ix e
 |dn l c q=>exact Lb.refl _
def Ga.Ih(s:Ga)(x:Wa):Lb s.c0 (s.enter x).2.c0:=by
 cases s with
 |up l c t=>exact Go.Proofs.YthebagfahkebiaaGreat.Mz l c x
 |dn l c q=>exact Lb.refl _
def Ga.Ek(s:Ga)(f ep du st:Int):Lb s.c0 (s.heard f ep du st).2.c0:=(mu s f ep du st).2.2.2.2
def Ga.nW(h:Ke s.ch)(fr ep ix:Int)(e:ya):Ke (s.take fr ep ix e).2.ch:=by
 cases s with
 |up l c t=>
  show Ke (Gd l c fr ep ix e).2.1;unfold Gd;split
  .exact Ke.take h fr ep ix e
  .exact h
 |dn l c q=>exact h
def Ga.CR(h:Ke s.ch)(key val:ByteArray)(dead:Bool)(deps:V9)(clock cl op:Int):Ke (s.put key val dead deps clock cl op).2.ch:=by
 cases s with
 |up l c t=>
  show Ke (jd l c key val dead deps clock cl op).2.1;unfold jd;split
  .exact Ke.put h key val dead deps clock cl op
  .exact h
 |dn l c q=>exact h
def Ga.pJ(ok:s.ok N)(h:Ke s.ch)(x:Wa):Ke (s.enter x).2.ch:=by
 cases s with
 |up l c t=>
  show Ke (Lc l c x).2.1;have he:Ke (c.enter x).2:=Ke.enter h (LI.ok ok) x;unfold Lc;repeat' split
  all_goals first|exact he|exact h
 |dn l c q=>exact h
def Ga.kT(ok:s.ok N)(h:Ke s.ch)(f ep du st:Int):Ke (s.heard f ep du st).2.ch:=by
 rw[(mu s f ep du st).1];exact Ke.heard h ok.ch f ep du st
section
variable{n:ua}{N:Int}(h:We n N)
include h
theorem We.mono{M:Int}(hM:N<=M):We n M:={h with ok:=h.ok.mono hM}
theorem We.PI{M:Int}{s:Ga}(id:Lb n.s.c0 s.c0)(ok:s.ok M)(cs:Ke s.ch):We {n with s:=s} M:=
 {ok:=ok,hl:=h.hl,hd:=λe he=>⟨(h.hd e he).1,(h.hd e he).2.trans id.2.1.symm⟩,kn:=λk hk=>by
   show n.kn.at (k*3+s.c0.rg.toNat)=0;rw[id.2.1];exact h.kn k hk
  cs:=cs,wl:=h.wl,wi:=h.wi,nn:=h.nn,dd:=h.dd,rr:=h.rr}
theorem We.LY{ws:List Wt}(wl:ws.length<=16)(wi:∀x∈ws,1<=x.ix/\x.ix<=1000000):We {n with ws:=ws} N:={h with wl:=wl,wi:=wi}
theorem We.Qa:We n.Qa N:=h.LY (Nat.le_trans (length_filter_le ..) h.wl) λx hx=>h.wi x (mem_filter.1 hx).1
theorem We.wait{m:Da}{i:Int}(hi:1<=i/\i<=256):(n.wait m i).length<=16/\∀x∈n.wait m i,1<=x.ix/\x.ix<=1000000:=by
 unfold ua.wait;split
 .rename_i k hk;have hlt:k<n.ws.length:=(List.findIdx?_eq_some_iff_getElem.1 hk).1;refine⟨by rw[length_set];exact h.wl,λx hx=>?_⟩;rcases mem_or_eq_of_mem_set hx with hx|rfl
  .exact h.wi x hx
  .rw[getD_eq_getElem?_getD,Wg hlt];exact show 1<=(n.ws[k]).ix/\(n.ws[k]).ix<=1000000 from h.wi _ (getElem_mem hlt)
 .split
  .refine⟨by simp only[Eb,Ib,td];omega,λx hx=>?_⟩;rcases mem_append.1 hx with hx|hx
   .exact h.wi x hx
   .rw[mem_singleton.1 hx];simp only[];omega
  .exact⟨h.wl,h.wi⟩
theorem We.put(hN:N<1099511627776)(m:Da):We (n.put m).1 (N+1):=by
 unfold ua.put;split
 .exact h.mono (by omega)
 .have h1:We ({n with s:=(n.s.put m.key m.val m.dead m.dp m.ct m.fr.nd m.op).2}:ua) (N+1):=h.PI (Ga.Fo n.s ..) (h.ok.put hN ..) (Ga.CR h.cs ..);simp only[];split
  .exact h1
  .rename_i he;split
   .exact h1
   .obtain⟨w1,w2⟩:=h.wait (m:=m) (Ga.Mq h.ok (Classical.not_not.1 he));exact h1.LY w1 w2
theorem We.zd(e:ya):We (n.zd e) N:=by
 unfold ua.zd;split
 .rename_i hc;have h1:(n.hd++[e]).length<=16:=by simp only[Eb,Ib,td];omega
  have h2:∀x∈n.hd++[e],ud x/\x.rg=n.rg:=λx hx=>by
   rcases mem_append.1 hx with hx|hx
   .exact h.hd x hx
   .rw[mem_singleton.1 hx];exact⟨hc.1,hc.2.1⟩
  exact{h with hl:=h1,hd:=h2}
 .exact h
theorem We.wz(hr:0<=n.rg/\n.rg<3){rg:Int}(hne:rg≠n.rg)(c:V3):We {n with kn:=Gj n.kn rg c} N:=by
 have h1:∀k,k<3->(Gj n.kn rg c).at (k*3+n.rg.toNat)=0:=λk hk=>by
  have hz:=h.kn k hk;have no:∀d:Int,¬(Tb d rg/\k*3+n.rg.toNat=d.toNat*3+rg.toNat):=λd ⟨⟨a,b,c,e⟩,x⟩=>by omega
  unfold Gj;rw[Ng _ _ _ _ (by omega),if_neg (no 2),Ng _ _ _ _ (by omega),if_neg (no 1),Ng _ _ _ _ (by omega),if_neg (no 0)];exact hz
 exact{h with kn:=h1}
theorem We.Ka(hN:N+40<=1099511627776)(hr:0<=n.rg/\n.rg<3)(m:Da):We (n.Ka m).1.1 (N+40):=by
 unfold ua.Ka;have hmo:=h.mono (M:=N+40) (by omega);simp only[];split
 .exact(h.put (by omega) m).mono (by omega)
 split
 .exact hmo
 split
 .split
  .exact(h.PI (Ga.Dm n.s ..) (h.ok.take (by omega) ..) (Ga.nW h.cs ..)).mono (by omega)
  .exact hmo
 split
 .exact(h.PI (Ga.Ek n.s ..) (h.ok.heard ..) (Ga.kT h.ok h.cs ..)).mono (by omega)
 split
 .have h1:=(h.PI (Ga.Ih n.s m.cf) (h.ok.enter (by omega) m.cf) (Ga.pJ h.ok h.cs m.cf)).mono (M:=N+40) (by omega);refine h1.LY ?_ ?_
  .split
   .exact di _
   .exact h.wl
  .split
   .intro x hx;cases hx
   .exact h.wi
 split
 .exact((((h.pull (by omega)).zd m.en).pull (by omega)).mono (by omega))
 split
 .split
  .exact{hmo with}
  .exact hmo
 split
 .rename_i hc;exact((h.wz hr hc.2.2.2 _).pull (by omega)).mono (by omega)
 .exact hmo
end
namespace ua
variable(n:ua)(m:Da)
def Bh:Bool:=decide (m.fr.k=1/\m.fr.dc=n.dc/\m.fr.rg=n.rg)
def Dh:Bool:=decide (m.fr.k=1/\m.fr.dc≠n.dc/\m.fr.rg=n.rg)
def Ig:Bool:=decide (m.fr.k=1/\m.fr.dc=n.dc/\m.fr.rg≠n.rg)
variable{n m}
def rL(k:m.kind=3):n.Ka m=(n.put m,false):=by unfold Ka;rw[if_pos k]
def TO(k:m.kind=5):n.Ka m=((n,[n.get m]),false):=by unfold Ka;rw[if_neg (by omega),if_pos k]
def GR(k:m.kind=7)(c:n.Bh m=true):n.Ka m=if m.ep=n.ep/\0<=m.fr.nd/\m.fr.nd=Nd n.c.co n.nd then((({n with s:=(n.s.take m.fr.nd m.ep m.ix m.en).2}:ua),[({n with s:=(n.s.take m.fr.nd m.ep m.ix m.en).2}:ua).Jx m.fr]),false) else((n,[]),false):=by
 unfold Ka;rw[if_neg (by omega),if_neg (by omega)];exact if_pos ⟨k,of_decide_eq_true c⟩
def HR(k:m.kind=8)(c:n.Bh m=true):n.Ka m=(({n with s:=(n.s.heard m.fr.nd m.ep m.ct m.ix).2},[]),(n.s.heard m.fr.nd m.ep m.ct m.ix).1):=by
 unfold Ka;rw[if_neg (by omega),if_neg (by omega)];exact(if_neg (λh=>absurd h.1 (by omega))).trans (if_pos ⟨k,of_decide_eq_true c⟩)
def KR(k:m.kind=9)(c:m.fr=n.Fc):n.Ka m=(({n with s:=(n.s.enter m.cf).2,ws:=if(n.s.enter m.cf).1.2=0 then[] else n.ws},[]),false):=by
 unfold Ka;rw[if_neg (by omega),if_neg (by omega)];exact(if_neg (λh=>absurd h.1 (by omega))).trans ((if_neg (λh=>absurd h.1 (by omega))).trans (if_pos ⟨k,c⟩))
def NI(k:m.kind=12)(c:n.Dh m=true)(e:n.c.head):n.Ka m=(((n.pull.zd m.en).pull,[]),false):=by
 unfold Ka;rw[if_neg (by omega),if_neg (by omega)];obtain⟨c1,c2,c3⟩:=of_decide_eq_true c;exact(if_neg (λh=>absurd h.1 (by omega))).trans ((if_neg (λh=>absurd h.1 (by omega))).trans ((if_neg (λh=>absurd h.1 (by omega))).trans (if_pos ⟨k,c1,c2,c3,e⟩)))
def dN(k:m.kind=13)(c:n.Dh m=true):n.Ka m=
  (({n with rc:=if De n.dc m.fr.dc/\n.rc.get m.fr.dc<V3.get ⟨m.c0,m.c1,m.c2⟩ n.dc then n.rc.put m.fr.dc.toNat (V3.get ⟨m.c0,m.c1,m.c2⟩ n.dc) else n.rc},
   if(De n.dc m.fr.dc/\n.rc.get m.fr.dc<V3.get ⟨m.c0,m.c1,m.c2⟩ n.dc)/\n.sure=true then ua.Df {n with rc:=n.rc.put m.fr.dc.toNat (V3.get ⟨m.c0,m.c1,m.c2⟩ n.dc)} m.fr.dc else[]),false):=by
 unfold Ka;rw[if_neg (by omega),if_neg (by omega)];refine(if_neg (λh=>absurd h.1 (by omega))).trans ((if_neg (λh=>absurd h.1 (by omega))).trans ((if_neg (λh=>absurd h.1 (by omega))).trans ((if_neg (λh=>absurd h.1 (by omega))).trans ((if_pos ⟨k,of_decide_eq_true c⟩).trans ?_))));try simp only[]
 by_cases h:De n.dc m.fr.dc/\n.rc.get m.fr.dc<V3.get ⟨m.c0,m.c1,m.c2⟩ n.dc
 .simp only[if_pos h]
 .simp only[if_neg h,if_neg (λx:_/\n.sure=true=>h x.1)]
def OI(k:m.kind=14)(c:n.Ig m=true):n.Ka m=((ua.pull {n with kn:=Gj n.kn m.fr.rg ⟨m.c0,m.c1,m.c2⟩},[]),false):=by
 unfold Ka;rw[if_neg (by omega),if_neg (by omega)];exact(if_neg (λh=>absurd h.1 (by omega))).trans ((if_neg (λh=>absurd h.1 (by omega))).trans ((if_neg (λh=>absurd h.1 (by omega))).trans ((if_neg (λh=>absurd h.1 (by omega))).trans ((if_neg (λh=>absurd h.1 (by omega))).trans (if_pos ⟨k,of_decide_eq_true c⟩)))))
def Ho(a3:m.kind≠3)(a5:m.kind≠5)(a7: ¬(m.kind=7/\n.Bh m=true))(a8: ¬(m.kind=8/\n.Bh m=true))(a9: ¬(m.kind=9/\m.fr=n.Fc))(a12: ¬(m.kind=12/\n.Dh m=true/\n.c.head))(y6: ¬(m.kind=13/\n.Dh m=true))(A6: ¬(m.kind=14/\n.Ig m=true)):n.Ka m=((n,[]),false):=by
 unfold Ka;rw[if_neg a3,if_neg a5];exact(if_neg (λh=>a7 ⟨h.1,Mi h.2⟩)).trans ((if_neg (λh=>a8 ⟨h.1,Mi h.2⟩)).trans ((if_neg a9).trans ((if_neg (λh=>a12 ⟨h.1,Mi ⟨h.2.1,h.2.2.1,h.2.2.2.1⟩,h.2.2.2.2⟩)).trans ((if_neg (λh=>y6 ⟨h.1,Mi h.2⟩)).trans (if_neg (λh=>A6 ⟨h.1,Mi h.2⟩))))))
def lu(m:Da):(n.put m).1.hd=n.hd/\(n.put m).1.rg=n.rg/\(n.put m).1.dc=n.dc/\(n.put m).1.rc=n.rc:=by
 obtain⟨h1,h2,h3⟩:=Ga.Fo n.s m.key m.val m.dead m.dp m.ct m.fr.nd m.op;unfold ua.put;split
 .exact⟨rfl,rfl,rfl,rfl⟩
 .simp only[];split
  .exact⟨rfl,h2,h1,rfl⟩
  .split<;>exact⟨rfl,h2,h1,rfl⟩
def Sh(e:ya):n.zd e={n with hd:=Vg n.rg n.hd e}:=by
 unfold zd Vg;by_cases h:ud e/\e.rg=n.rg/\n.hd.any (Mj e)=false/\n.hd.length<16
 .rw[if_pos h];exact if_pos h
 .rw[if_neg h];exact if_neg h
def Ev(h:n.nn<=100)(x:Int):(n.Df x).length<=100:=by
 unfold Df;split
 .exact di _
 .rw[bf,length_range];omega
def uL(h:n.nn<=100)(m:Da):(n.Ka m).1.2.length<=100:=by
 have hp:(n.put m).2.length<=100:=by
  unfold ua.put;split
  .simp
  .simp only[];split
   .simp
   .split<;>simp
 have hs:∀n1:ua,n1.nn=n.nn->∀x,(n1.Df x).length<=100:=λn1 e x=>Ev (by rw[e];exact h) x;unfold Ka;simp only[];split
 .exact hp
 split
 .simp
 split
 .split<;>simp
 split
 .simp
 split
 .simp
 split
 .simp
 split
 .simp only[];split
  .exact hs _ (by split<;>rfl) _
  .simp
 split<;>simp
def Oq{n:ua}(h:n.ws.length<=16)(du st ak:Int):(n.eg du st ak).length<=18:=by
 have h1:=n.Ug;have h2:=n.Rj;have h3:(n.ws.filter λw=>decide (w.ix<=n.c.st)).length<=n.ws.length:=length_filter_le ..;unfold eg;rw[Eb,Eb,bf];split<;>split<;>(try simp only[td])<;>omega
end ua
variable{T:Int}{b:Nat}
def rV(ok:s.ok N)(cs:Ke s.ch)(hu:s.jb=true){h:Hp}(hm:Tf s b T h)(Qh:0<=T)(hT:T<=68719476736)(key val:ByteArray)(dead:Bool)(deps:V9)(clock cl op:Int):
  ∃cb d w tn v hv X,h=Bb b cb d w s.jb tn++(ta cb s.ch v++(hv++X))/\ia 49 s.ch.lg v hv/\
   Ct prog 175 [b,.string key,.string val,.bool dead,.agg (List.toArray deps.enc),clock,cl,op] [h]
    (λr H'=>r= .tuple #[.int .i64 (s.put key val dead deps clock cl op).1.1,.int .i64 (s.put key val dead deps clock cl op).1.2]/\
     ∃v' Rc X',H'=[Bb b cb d w (s.put key val dead deps clock cl op).2.jb tn,ta cb (s.put key val dead deps clock cl op).2.ch v',Rc,X']/\ia 49 (s.put key val dead deps clock cl op).2.ch.lg v' Rc/\
      Tf (s.put key val dead deps clock cl op).2 b (T+243) (Bb b cb d w (s.put key val dead deps clock cl op).2.jb tn++(ta cb (s.put key val dead deps clock cl op).2.ch v'++(Rc++X')))):=by
 rw[<-Ga.oV cs]
 cases s with
 |up l c t=>
  obtain⟨cb,d,w,v,hv,seg,t',tn,hd,rfl,at_⟩:=hm;obtain rfl:=at_.sg rfl;have mz:Ie l:=ok.lg.ok;have xb:Ob c:=ok.ok;have Ue:ia 49 c.lg v hv:=at_.sl;have hdk:RD l d hd T:=at_.dk;refine⟨cb,d,w,tn,v,hv,_,rfl,Ue,?_⟩;refine(AR (w:=w) (Ba:=t') (tn:=tn) mz b cb hdk Qh (by omega) xb Ue key val dead deps clock cl op).pack (by simp[Ga.c0,Ga.ch,Ga.jb,Ga.l0]) λr H' ⟨h1,h2⟩=>?_;obtain⟨v',Rc,hd',rfl,hs',hk'⟩:=h2
  exact⟨[Bb b cb d w true tn,ta cb (Fj l c key val dead deps clock cl op).2.1 v',Rc,uf w d (va (Fj l c key val dead deps clock cl op).2.2) t'++hd'],by simp,h1,v',Rc,_,rfl,hs',cb,d,w,v',Rc,_,t',tn,hd',rfl,⟨hs',hk',λ_=>rfl,λe=>(by cases e)⟩⟩
 |dn l c q=>cases hu
def ua.N1{n:ua}(ok:We n N)(hu:n.s.jb=true){h:Hp}(hm:Tf n.s b T h)(Qh:0<=T)(hT:T<=68719476736)(key val:ByteArray)(dead:Bool)(deps:V9)(clock cl op:Int):
  ∃cb d w tn v hv X,h=vb n b cb d w tn++(ta cb n.c v++(hv++X))/\ia 49 n.c.lg v hv/\
   Ct prog 175 [b,.string key,.string val,.bool dead,.agg (List.toArray deps.enc),clock,cl,op] [vb n b cb d w tn++(ta cb n.c v++(hv++X))]
    (λr H'=>r= .tuple #[.int .i64 (n.s.put key val dead deps clock cl op).1.1,.int .i64 (n.s.put key val dead deps clock cl op).1.2]/\
     ∃v' Rc X',H'=[Bb b cb d w (n.s.put key val dead deps clock cl op).2.jb tn,ta cb (n.s.put key val dead deps clock cl op).2.ch v',Rc,X']/\ia 49 (n.s.put key val dead deps clock cl op).2.ch.lg v' Rc/\
      Tf (n.s.put key val dead deps clock cl op).2 b (T+243) (Bb b cb d w (n.s.put key val dead deps clock cl op).2.jb tn++(ta cb (n.s.put key val dead deps clock cl op).2.ch v'++(Rc++X')))):=by
 obtain⟨cb,d,w,tn,v,hv,X,rfl,hs,k⟩:=rV ok.ok ok.cs hu hm Qh hT key val dead deps clock cl op;exact⟨cb,d,w,tn,v,hv,X,rfl,hs,k⟩
def ua.ig(n:ua)(h:Lb n.s.c0 s.c0)(gb hb sb:Nat)(vw vo:Value):Ca b {n with s:=s} gb hb sb vw vo=Ca b n gb hb sb vw vo:=by
 obtain⟨h1,h2,h3⟩:=h;unfold Ca ua.mc ua.dc ua.rg ua.nd;simp only[];rw[h1,h2,h3]
abbrev Q1(b:Nat)(x:Wt):Hp:=[(b,.cells (List.toArray x.enc) 212 (0,0))]
section
variable(n:ua){N T:Int}(ok:We n N)(hN:N<1099511627776)(Qh:0<=T)(hT:T<=68719476736)(hu:n.s.jb=true)(b gb hb sb:Nat){outs:List Da}{vo:Value}{ho:Hp}(Tn:ia 52 outs vo ho)(kz:outs.length<=100000)
include ok hN Qh hT hu Tn kz
theorem BR(m:Da){vw:Value}{hl hw:Hp}(hm:Tf n.s gb T hl)(Br:ia 212 n.ws vw hw):Ct prog 85 [b,.agg (List.toArray m.enc)] [Ca b n gb hb sb vw vo,ho,hl,hw]
  (λr H'=>r= .tuple #[]/\∃Np ho' iy Oi hl',ia 52 (outs++(n.put m).2) Np ho'/\Tf (n.put m).1.s gb (T+243) hl'/\ia 212 (n.put m).1.ws iy Oi/\H'=[Ca b (n.put m).1 gb hb sb iy Np,ho',hl',Oi]):=by
 have hm0:=hm;obtain⟨cb,d,w,tn,u,hv,X,rfl,Ue,k4⟩:=ua.N1 ok hu hm Qh hT m.key m.val m.dead m.dp m.ct m.fr.nd m.op;have k3:=xk ok.xb.co cb u;have kb:=λcode=>Gh n b gb hb sb vw Tn (by omega) {Da.z with kind:=4,to:=m.fr,op:=m.op,tr:=m.tr,code:=code};obtain⟨pw,cw,rfl⟩:=Br.len;unfold ua.put;refine ce func85 λg R=>?_;simp only[can];refine W.f0 [Ca b n gb hb sb (.slice pw n.ws.length cw) vo,ho,vb n gb cb d w tn,ta cb n.c u,hv,X,hw,R] ?_;repeat' first|refine ga ?_|refine Uc λ_=>?_
 rename_i b3;by_cases c1:m.ep=n.ep
 .by_cases c2:n.c.head
  .rw[if_neg (λh=>h.elim (λh=>h c1) λh=>h c2)];have k3:Ct prog 91 [cb] [ta cb n.c u] (λr H'=>r= .bool true/\H'=[ta cb n.c u]):=by rw[<-Mi c2];exact k3
   have A0: ¬ ¬m.ep=n.ep:=not_not_intro c1;have hid:=Ga.Fo n.s m.key m.val m.dead m.dp m.ct m.fr.nd m.op;have Qi:=ok.put hN m;have u7:=Ga.CR ok.cs m.key m.val m.dead m.dp m.ct m.fr.nd m.op;have SO:=ok.ok.put hN m.key m.val m.dead m.dp m.ct m.fr.nd m.op;have nr:(n.s.put m.key m.val m.dead m.dp m.ct m.fr.nd m.op).1.2=0->_:=λk=>Ga.Mq ok.ok k;try simp only[]
   generalize n.s.put m.key m.val m.dead m.dp m.ct m.fr.nd m.op=r at k4 hid SO u7 nr⊢;obtain⟨⟨i,e⟩,s1⟩:=r;simp only[] at k4 hid SO u7 nr;refine wq ?_;repeat' first|refine ga ?_|refine cq k3 ?_
   refine Wp (ml [19,1,5]) [Yb b3 m,Ca b n gb hb sb (.slice pw n.ws.length cw) vo] ?_;repeat' first|refine ga ?_|refine bn b3 52 m.enc m.dp.enc ?_
   refine ck k4 ?_;rintro _ _ ⟨rfl,u1,ZH,X1,rfl,R1,cg⟩;simp only[can];obtain⟨n1,ic⟩:∃n1:ua,n1={n with s:=s1}:=⟨_,rfl⟩;have eN:∀v vo,Ca b n gb hb sb v vo=Ca b n1 gb hb sb v vo:=λv vo=>by rw[ic];exact(ua.ig (b:=b) n hid gb hb sb v vo).symm
   have eC:s1=n1.s/\n.ws=n1.ws:=by rw[ic];exact⟨rfl,rfl⟩
   obtain⟨eC,eW⟩:=eC;rw[eC] at R1 cg SO u7⊢;have oc:=SO.ch;by_cases c3:e=0
   .rw[if_neg (not_not_intro c3)];obtain⟨i1,i2⟩:=nr c3;have e4:({n with s:=n1.s}:ua)=n1:=by rw[ic]
    rw[e4,eN];refine WX.h0 [vb n1 gb cb d w tn,ta cb n1.c u1,ZH,X1,Yb b3 m,Ca b n1 gb hb sb (.slice pw n.ws.length cw) vo,ho,hw,R] ?_;repeat' first|refine ga ?_|refine al λ_=>?_|refine bn b3 1 m.enc m.fr.enc ?_|refine jf (Wt.enc ⟨m.fr,m.op,m.tr,i⟩) ?_|refine xg (Wt.enc ⟨Ki.z,0,0,0⟩) (Wt.enc ⟨m.fr,m.op,m.tr,i⟩) ?_
    rename_i b7;by_cases c4:i<=n1.c.st
    .rw[if_pos c4];have kt:=EI n1 b gb hb sb (.slice pw n.ws.length cw) Tn (by omega) (cb:=cb) (d:=d) (w:=w) (tn:=tn) (v:=u1) oc R1.rs ⟨m.fr,m.op,m.tr,i⟩ ⟨by show 1<=i;omega,by show i<=1000000;omega⟩;repeat' first|refine ga ?_|refine Pg (Wt.enc ⟨m.fr,m.op,m.tr,i⟩) ?_
     refine ck kt ?_;rintro _ _ ⟨rfl,Np,ho',hs',rfl⟩;refine Za ?_;refine D.Vd [Ca b n1 gb hb sb (.slice pw n.ws.length cw) Np,ho',vb n1 gb cb d w tn,ta cb n1.c u1,ZH,X1,hw,R] (H2:=[Ca b n1 gb hb sb (.slice pw n.ws.length cw) Np,ho',vb n1 gb cb d w tn++(ta cb n1.c u1++(ZH++X1)),hw,R]) (by simp) ?_;exact D.ri [Ca b n1 gb hb sb (.slice pw n.ws.length cw) Np,ho',vb n1 gb cb d w tn++(ta cb n1.c u1++(ZH++X1)),hw] _ rfl ⟨rfl,_,_,_,_,_,hs',cg,by rw[<-eW];exact Br,rfl⟩
    .rw[if_neg c4];have eW2:∀l:List Wt,({n with s:=n1.s,ws:=l}:ua)={n1 with ws:=l}:=λl=>by rw[ic]
     unfold ua.wait;rw[eW2,eW];rw[eW] at Br;have Yy:n1.ws.length<=16:=by rw[<-eW];exact ok.wl
     obtain⟨P,hP⟩:∃P:Wt->Bool,P=λx=>decide (x.to.nd=m.fr.nd/\x.op=m.op):=⟨_,rfl⟩;rw[<-hP];have hrw:=Br.rs;try refine ga ?_
     refine W.lo (α:=Nat) (λk=>k<=n1.ws.length/\∀(j:Nat) (x:Wt),j<k->n1.ws[j]? =some x->P x=false)
      (λk=>[(0,b),(3,b3),(7,b7),(8,.int .i64 (k:Int))])
      (λ_=>[Q1 b7 ⟨m.fr,m.op,m.tr,i⟩,vb n1 gb cb d w tn,ta cb n1.c u1,ZH,X1,Yb b3 m,Ca b n1 gb hb sb (.slice pw n1.ws.length cw) vo,ho,hw,R]) (λk=>n1.ws.length - k) 0 ⟨di _,λj x hj=>absurd hj (Nat.not_lt_zero _)⟩ ?_
     rintro k ⟨hk,hall⟩;by_cases hlt:k<n1.ws.length
     .obtain⟨x,hx⟩:=Lh hlt;by_cases e1:x.to.nd=m.fr.nd<;>by_cases e2:x.op=m.op
      all_goals
       try refine ga ?_
       refine sj ?_
      .refine Wp (ml [7]) [Yb b3 m,Ca b n1 gb hb sb (.slice pw n1.ws.length cw) vo] ?_;repeat' first|refine ga ?_|refine bn b3 1 m.enc m.fr.enc ?_
       refine WX.zo (y':={x with to:=m.fr}) (vs:=m.fr.enc) (k:=k) (off:=0) (ms:=7) rfl rfl rfl Br hx rfl rfl rfl rfl rfl (λh8 ju=>?_);have hx8:(n1.ws.set k {x with to:=m.fr})[k]? =some {x with to:=m.fr}:=List.getElem?_set_self hlt;have qaa:=ju.rs;try refine ga ?_
       refine Wp (ml [7]) [Yb b3 m,Ca b n1 gb hb sb (.slice pw n1.ws.length cw) vo] ?_;try refine ga ?_
       refine WX.zo (y':={x with to:=m.fr,tr:=m.tr}) (vs:=[m.tr]) (k:=k) (off:=5) (ms:=7) rfl rfl rfl ju hx8 rfl rfl rfl rfl rfl (λh9 Bp=>?_);try refine ga ?_
       have hf:n1.ws.findIdx? P=some k:=by
        rw[List.findIdx?_eq_some_iff_getElem];have pL:=(List.getElem?_eq_some_iff.1 hx).2;exact⟨hlt,by rw[pL,hP];exact Mi ⟨e1,e2⟩,λj hj=>by rw[hall j n1.ws[j] hj (Wg _)];decide⟩
       have hg:n1.ws.getD k ⟨Ki.z,0,0,0⟩=x:=by rw[getD_eq_getElem?_getD,hx];rfl
       rw[set_set] at Bp;rw[hf];simp only[];rw[hg,append_nil];refine D.Vd [Ca b n1 gb hb sb (.slice pw n1.ws.length cw) vo,ho,vb n1 gb cb d w tn,ta cb n1.c u1,ZH,X1,h9,R] (H2:=[Ca b n1 gb hb sb (.slice pw n1.ws.length cw) vo,ho,vb n1 gb cb d w tn++(ta cb n1.c u1++(ZH++X1)),h9,R]) (by simp) ?_;exact D.ri [Ca b n1 gb hb sb (.slice pw n1.ws.length cw) vo,ho,vb n1 gb cb d w tn++(ta cb n1.c u1++(ZH++X1)),h9] _ rfl ⟨rfl,_,_,_,_,_,Tn,cg,Bp,rfl⟩
      all_goals
       refine D.rd (k+1) ⟨by omega,λj y hj hy=>?_⟩ (by omega);rcases Nat.lt_or_ge j k with h|h
       .exact hall j y h hy
       .obtain rfl:j=k:=by omega
        rw[hx] at hy;cases hy;rw[hP];exact rj λh=>by first|exact e1 h.1|exact e2 h.2
     .obtain rfl:k=n1.ws.length:=by omega
      have hf:n1.ws.findIdx? P=none:=by
       rw[List.findIdx?_eq_none_iff];intro x hx;obtain⟨j,hj⟩:=mem_iff_getElem?.1 hx;exact hall j x (by have:=(List.getElem?_eq_some_iff.1 hj).1;omega) hj
      rw[hf];by_cases c5:n1.ws.length<16
      .try refine ga ?_
       refine Wp (ml [6,2]) [Q1 b7 ⟨m.fr,m.op,m.tr,i⟩,Ca b n1 gb hb sb (.slice pw n1.ws.length cw) vo] ?_;repeat' first|refine ga ?_|refine Pg (Wt.enc ⟨m.fr,m.op,m.tr,i⟩) ?_
       refine Up [(⟨m.fr,m.op,m.tr,i⟩:Wt)] (λv4 h4 hs4=>?_);try refine ga ?_
       refine Jt (zb:=by simp only[Ib,td];omega) Br hs4.rs (λv5 h5 hs5=>?_);obtain⟨p5,q5,rfl⟩:=hs5.len;generalize(n1.ws++[(⟨m.fr,m.op,m.tr,i⟩:Wt)]).length=n5 at hs5⊢;try refine ga ?_
       refine ei (n1.mc gb hb sb (.slice pw n1.ws.length cw) vo) (n1.mc gb hb sb (.slice p5 n5 q5) vo) ?_;try refine ga ?_
       refine D.Vd [Ca b n1 gb hb sb (.slice p5 n5 q5) vo,ho,vb n1 gb cb d w tn,ta cb n1.c u1,ZH,X1,h5,R] (H2:=[Ca b n1 gb hb sb (.slice p5 n5 q5) vo,ho,vb n1 gb cb d w tn++(ta cb n1.c u1++(ZH++X1)),h5,R]) (by simp) ?_;simp only[];rw[if_pos c5,append_nil];exact D.fc [Ca b n1 gb hb sb (.slice p5 n5 q5) vo,ho,vb n1 gb cb d w tn++(ta cb n1.c u1++(ZH++X1)),h5] _ rfl ⟨rfl,_,_,_,_,_,Tn,cg,hs5,rfl⟩
      .try refine ga ?_
       refine D.Vd [Ca b n1 gb hb sb (.slice pw n1.ws.length cw) vo,ho,vb n1 gb cb d w tn,ta cb n1.c u1,ZH,X1,hw,R] (H2:=[Ca b n1 gb hb sb (.slice pw n1.ws.length cw) vo,ho,vb n1 gb cb d w tn++(ta cb n1.c u1++(ZH++X1)),hw,R]) (by simp) ?_;simp only[];rw[if_neg c5,append_nil];exact D.fc [Ca b n1 gb hb sb (.slice pw n1.ws.length cw) vo,ho,vb n1 gb cb d w tn++(ta cb n1.c u1++(ZH++X1)),hw] _ rfl ⟨rfl,_,_,_,_,_,Tn,cg,Br,rfl⟩
   .rw[if_pos c3];have e4:({n with s:=n1.s}:ua)=n1:=by rw[ic]
    have kb:=kb e;rw[e4];repeat' first|refine ga ?_|refine bn b3 1 m.enc m.fr.enc ?_|refine jf (Da.enc {Da.z with kind:=4,to:=m.fr,op:=m.op,tr:=m.tr,code:=e}) ?_
    refine ck kb ?_;rintro _ _ ⟨rfl,Np,ho',hs',rfl⟩;refine Za ?_;rw[eN];refine D.Vd [Ca b n1 gb hb sb (.slice pw n.ws.length cw) Np,ho',Bb gb cb d w n1.s.jb tn,ta cb n1.s.ch u1,ZH,X1,hw,R] (H2:=[Ca b n1 gb hb sb (.slice pw n.ws.length cw) Np,ho',Bb gb cb d w n1.s.jb tn++(ta cb n1.s.ch u1++(ZH++X1)),hw,R]) (by simp) ?_;exact D.ri [Ca b n1 gb hb sb (.slice pw n.ws.length cw) Np,ho',Bb gb cb d w n1.s.jb tn++(ta cb n1.s.ch u1++(ZH++X1)),hw] _ rfl ⟨rfl,_,_,_,_,_,hs',cg,by rw[<-eW];exact Br,rfl⟩
  .rw[if_pos (.inr c2)];have k3:Ct prog 91 [cb] [ta cb n.c u] (λr H'=>r= .bool false/\H'=[ta cb n.c u]):=by rw[<-rj c2];exact k3
   have A0: ¬ ¬m.ep=n.ep:=not_not_intro c1;have kb:=kb 90;refine wq ?_;repeat' first|refine ga ?_|refine cq k3 ?_|refine bn b3 1 m.enc m.fr.enc ?_|refine jf (Da.enc {Da.z with kind:=4,to:=m.fr,op:=m.op,tr:=m.tr,code:=90}) ?_
   refine ck kb ?_;rintro _ _ ⟨rfl,Np,ho',hs',rfl⟩;refine Za ?_;refine D.Vd [Ca b n gb hb sb (.slice pw n.ws.length cw) Np,ho',vb n gb cb d w tn,ta cb n.c u,hv,X,hw,R] (H2:=[Ca b n gb hb sb (.slice pw n.ws.length cw) Np,ho',vb n gb cb d w tn++(ta cb n.c u++(hv++X)),hw,R]) (by simp) ?_;exact D.ri [Ca b n gb hb sb (.slice pw n.ws.length cw) Np,ho',vb n gb cb d w tn++(ta cb n.c u++(hv++X)),hw] _ rfl ⟨rfl,_,_,_,_,_,hs',hm0.mono (by omega),Br,rfl⟩
 .rw[if_pos (.inl c1)];have kb:=kb 90;refine wq ?_;repeat' first|refine ga ?_|refine bn b3 1 m.enc m.fr.enc ?_|refine jf (Da.enc {Da.z with kind:=4,to:=m.fr,op:=m.op,tr:=m.tr,code:=90}) ?_
  refine ck kb ?_;rintro _ _ ⟨rfl,Np,ho',hs',rfl⟩;refine Za ?_;refine D.Vd [Ca b n gb hb sb (.slice pw n.ws.length cw) Np,ho',vb n gb cb d w tn,ta cb n.c u,hv,X,hw,R] (H2:=[Ca b n gb hb sb (.slice pw n.ws.length cw) Np,ho',vb n gb cb d w tn++(ta cb n.c u++(hv++X)),hw,R]) (by simp) ?_;exact D.ri [Ca b n gb hb sb (.slice pw n.ws.length cw) Np,ho',vb n gb cb d w tn++(ta cb n.c u++(hv++X)),hw] _ rfl ⟨rfl,_,_,_,_,_,hs',hm0.mono (by omega),Br,rfl⟩
end
end Go.Proofs.YthebagfahkebiaaGreat
