/- Texts of one road. -/
import Derived.Test.YthebagfahkebiaaGreatQBC
import Derived.Test.YthebagfahkebiaaGreatQBD
set_option linter.all false
set_option maxHeartbeats 8000000
set_option maxRecDepth 20000
namespace Go.Proofs.YthebagfahkebiaaGreat
open Go Go.Sl Go.Proofs.Tryz List
def Ea.Sp(s:Ea)(key val:ByteArray)(dead:Bool)(deps:V9)(clock cl op:Int):Ob s.c0 (s.put key val dead deps clock cl op).2.c0:=by
 cases s with
 |up l c t=>exact Go.Proofs.YthebagfahkebiaaGreat.Sp l c key val dead deps clock cl op
 |dn l c q=>exact Ob.refl _
section
variable(n:va){N:Int}(ok:ef n N)(hN:N<1099511627776)(b lb hb sb:Nat)
include ok hN
theorem dW(m:Da){vw:Value}{hl hw:Hp}(hm:og n.s lb hl)(yq:ia 181 n.ws vw hw):Ct prog 61 [b,.agg (List.toArray m.enc)] [za b n lb hb sb vw,hl,hw]
  (λr H'=>∃h' Vs Uh hl',ia 52 (n.put m).2 r h'/\og (n.put m).1.s lb hl'/\ia 181 (n.put m).1.ws Vs Uh/\H'=[h',za b (n.put m).1 lb hb sb Vs,hl',Uh]):=by
 have hm0:=hm;obtain⟨cb,d,w,u,hv,X,rfl,Mf⟩:=va.FF hm;have k1:=Sj n b lb hb sb vw 4 m.fr;have k2:=Si n.c cb u;have k3:=bn ok.ob.co cb u;have k4:=SR ok.ok hm0 m.key m.val m.dead m.dp m.ct m.fr.nd m.op;unfold va.put;refine ce func61 λg R=>?_;simp only[can];refine W.f0 [za b n lb hb sb vw,xb n lb cb d w,oa cb n.c u,hv,X,hw,R] ?_;repeat' first|refine ga ?_|refine Ud λ_=>?_|refine al λ_=>?_|refine WX.Fa (i:=1) (cs:=m.enc) (vs:=m.fr.enc) rfl rfl rfl rfl ?_|refine cq k1 ?_|refine nh Da.z.enc (n.out 4 m.fr).enc ?_
 rename_i b3 b5;refine W.h0 [Jc b5 (n.out 4 m.fr),Jc b3 m,za b n lb hb sb vw,xb n lb cb d w,oa cb n.c u,hv,X,hw,R] ?_;refine Ns (ml [5,1]) [Jc b3 m] ?_;try refine ga ?_
 refine Wh (Da.enc (n.out 4 m.fr)) (Da.enc {n.out 4 m.fr with op:=m.op}) ?_;try refine ga ?_
 refine Wh (Da.enc {n.out 4 m.fr with op:=m.op}) (Da.enc {n.out 4 m.fr with op:=m.op,tr:=m.tr}) ?_;refine WX.nil ?_;refine D.seq ?_;generalize hno:({n.out 4 m.fr with op:=m.op,tr:=m.tr}:Da)=no;have hnc:∀k,n.no 4 m k={no with code:=k}:=λk=>by rw[<-hno];rfl
 by_cases c1:m.ep=n.ep
 .by_cases c2:n.c.head
  .rw[Fi c2] at k3;rw[if_neg (λh=>h.elim (λh=>h c1) λh=>h c2)];have j0: ¬ ¬m.ep=n.ep:=not_not_intro c1;have hid:=Ea.Sp n.s m.key m.val m.dead m.dp m.ct m.fr.nd m.op;have Bh:=ok.ok.put hN m.key m.val m.dead m.dp m.ct m.fr.nd m.op;have Tq:(n.s.put m.key m.val m.dead m.dp m.ct m.fr.nd m.op).1.2=0->_:=λk=>Ea.Zu ok.ok k;try simp only[]
   generalize n.s.put m.key m.val m.dead m.dp m.ct m.fr.nd m.op=r at k4 hid Bh Tq⊢;obtain⟨⟨i,e⟩,s1⟩:=r;simp only[] at k4 hid Bh Tq;try refine ga ?_
   refine wq ?_;repeat' first|refine ga ?_|refine cq k2 ?_|refine cq k3 ?_
   refine Ns (ml [19,1,5]) [Jc b3 m,za b n lb hb sb vw] ?_;repeat' first|refine ga ?_|refine Xm b3 52 m.enc m.dp.enc ?_
   refine ck k4 ?_;rintro _ _ ⟨rfl,l1,rfl,Pf⟩;simp only[can];have eN:=λv=>va.Mg (b:=b) n hid lb hb sb v;by_cases c3:e=0
   .rw[if_neg (not_not_intro c3)];have Vy:=Pf;obtain⟨i1,i2⟩:=Tq c3;obtain⟨n1,yc⟩:∃n1:va,n1={n with s:=s1}:=⟨_,rfl⟩;rw[<-yc] at eN⊢;have Pf:og n1.s lb l1:=by rw[yc];exact Pf
    have Vy:=Pf;obtain⟨Ya,d',w',u',Lc,X',rfl,Nj⟩:=va.FF Pf;have oc:Lb n1.c:=by rw[yc];exact Bh.ch
    have hst:=Ag n1.c Ya u';have R8:=sJ n1 b lb hb sb Ya d' w' vw u' oc Nj.rs m.fr m.op m.tr i ⟨by omega,by omega⟩;have IE:ia 181 n1.ws vw hw:=by rw[yc];exact yq
    rw[<-eN vw];refine WX.f0 [xb n1 lb Ya d' w',oa Ya n1.c u',Lc,X',Jc b5 no,Jc b3 m,za b n1 lb hb sb vw,hw,R] ?_;by_cases c4:i<=n1.c.st
    .rw[if_pos c4];repeat' first|refine ga ?_|refine cq hst ?_|refine cq R8 ?_|refine Xm b3 1 m.enc m.fr.enc ?_
     refine Kp [n1.wk ⟨m.fr,m.op,m.tr,i⟩] (λv4 h4 hs4=>?_);try refine ga ?_
     refine D.Oe [h4,za b n1 lb hb sb vw,xb n1 lb Ya d' w',oa Ya n1.c u',Lc,X',hw,R] (H2:=[h4,za b n1 lb hb sb vw,xb n1 lb Ya d' w'++(oa Ya n1.c u'++(Lc++X')),hw,R]) (by simp) ?_;exact Wa [h4,za b n1 lb hb sb vw,xb n1 lb Ya d' w'++(oa Ya n1.c u'++(Lc++X')),hw] rfl rfl ⟨_,_,_,_,hs4,Vy,IE,rfl⟩
    .rw[if_neg c4];have hwn:n.ws=n1.ws:=by rw[yc]
     have eW:∀l:List Wt,({n with s:=s1,ws:=l}:va)={n1 with ws:=l}:=λl=>by rw[yc]
     have eWs:n1={n1 with ws:=n1.ws}:=rfl;unfold va.wait;rw[eW];rw[hwn];obtain⟨P,hP⟩:∃P:Wt->Bool,P=λx=>decide (x.to.nd=m.fr.nd/\x.op=m.op):=⟨_,rfl⟩;rw[<-hP];obtain⟨pw,cw,rfl⟩:=IE.len;have hrw:=IE.rs;have Hy:n1.ws.length<=16:=by rw[<-hwn];exact ok.wl
     repeat' first|refine ga ?_|refine cq hst ?_
     refine W.lo (α:=Nat) (λk=>k<=n1.ws.length/\∀(j:Nat) (x:Wt),j<k->n1.ws[j]? =some x->P x=false)
      (λk=>[(0,b),(3,b3),(6,i),(98,.slice pw n1.ws.length cw),(99,.int .i64 (n1.ws.length:Int)),(100,.int .i64 (k:Int))])
      (λ_=>[xb n1 lb Ya d' w',oa Ya n1.c u',Lc,X',Jc b3 m,za b n1 lb hb sb (.slice pw n1.ws.length cw),hw,R]) (λk=>n1.ws.length - k) 0 ⟨Gi _,λj x hj=>absurd hj (Nat.not_lt_zero _)⟩ ?_
     rintro k ⟨hk,hall⟩;by_cases hlt:k<n1.ws.length
     .obtain⟨x,hx⟩:=Sh hlt;by_cases e1:x.to.nd=m.fr.nd<;>by_cases e2:x.op=m.op
      all_goals
       repeat' first|refine ga ?_|refine al λ_=>?_|refine rG hrw hx ?_|refine nh (Wt.enc ⟨Bl.z,0,0,0⟩) x.enc ?_
      .refine Ns (ml [18,1]) [Jc b3 m,za b n1 lb hb sb (.slice pw n1.ws.length cw)] ?_;repeat' first|refine ga ?_|refine Xm b3 1 m.enc m.fr.enc ?_
       refine WX.ko (y':={x with to:=m.fr}) (vs:=m.fr.enc) (k:=k) (off:=0) (ms:=7) rfl rfl rfl IE hx rfl rfl rfl rfl rfl (λh8 Mq=>?_);try refine ga ?_
       refine WX.ko (y':={x with to:=m.fr,tr:=m.tr}) (vs:=[m.tr]) (k:=k) (off:=5) (ms:=7) rfl rfl rfl Mq (List.getElem?_set_self hlt) rfl rfl rfl rfl rfl (λh9 Wo=>?_);try refine ga ?_
       have hf:n1.ws.findIdx? P=some k:=by
        rw[List.findIdx?_eq_some_iff_getElem];have aL:=(List.getElem?_eq_some_iff.1 hx).2;exact⟨hlt,by rw[aL,hP];exact Fi ⟨e1,e2⟩,λj hj=>by rw[hall j n1.ws[j] hj (oh _)];decide⟩
       have hg:n1.ws.getD k ⟨Bl.z,0,0,0⟩=x:=by rw[getD_eq_getElem?_getD,hx];rfl
       rw[set_set] at Wo;rw[hf];simp only[];rw[hg];refine D.Oe [za b n1 lb hb sb (.slice pw n1.ws.length cw),xb n1 lb Ya d' w',oa Ya n1.c u',Lc,X',h9,R] (H2:=[[],za b n1 lb hb sb (.slice pw n1.ws.length cw),xb n1 lb Ya d' w'++(oa Ya n1.c u'++(Lc++X')),h9,R]) (by simp) ?_;exact Wa [[],za b n1 lb hb sb (.slice pw n1.ws.length cw),xb n1 lb Ya d' w'++(oa Ya n1.c u'++(Lc++X')),h9] rfl rfl ⟨_,_,_,_,ia.nil _,Vy,Wo,rfl⟩
      all_goals
       refine D.rd (k+1) ⟨by omega,λj y hj hy=>?_⟩ (by omega);rcases Nat.lt_or_ge j k with h|h
       .exact hall j y h hy
       .obtain rfl:j=k:=by omega
        rw[hx] at hy;cases hy;rw[hP];exact gj λh=>by first|exact e1 h.1|exact e2 h.2
     .obtain rfl:k=n1.ws.length:=by omega
      have hf:n1.ws.findIdx? P=none:=by
       rw[List.findIdx?_eq_none_iff];intro x hx;obtain⟨j,hj⟩:=mem_iff_getElem?.1 hx;exact hall j x (by have:=(List.getElem?_eq_some_iff.1 hj).1;omega) hj
      rw[hf];by_cases c5:n1.ws.length<16
      .try refine ga ?_
       refine Ns (ml [14,2]) [Jc b3 m,za b n1 lb hb sb (.slice pw n1.ws.length cw)] ?_;repeat' first|refine ga ?_|refine Xm b3 1 m.enc m.fr.enc ?_|refine Vf (Wt.enc ⟨m.fr,m.op,m.tr,i⟩) ?_
       refine Kp [(⟨m.fr,m.op,m.tr,i⟩:Wt)] (λv4 h4 hs4=>?_);try refine ga ?_
       refine Ys (zb:=by simp only[Gb,jd];omega) IE hs4.rs (λv5 h5 hs5=>?_);obtain⟨p5,q5,rfl⟩:=hs5.len;generalize(n1.ws++[(⟨m.fr,m.op,m.tr,i⟩:Wt)]).length=n5 at hs5⊢;try refine ga ?_
       refine Wh (n1.cells lb hb sb (.slice pw n1.ws.length cw)) (n1.cells lb hb sb (.slice p5 n5 q5)) ?_;try refine ga ?_
       refine D.Oe [za b n1 lb hb sb (.slice p5 n5 q5),xb n1 lb Ya d' w',oa Ya n1.c u',Lc,X',h5,R] (H2:=[[],za b n1 lb hb sb (.slice p5 n5 q5),xb n1 lb Ya d' w'++(oa Ya n1.c u'++(Lc++X')),h5,R]) (by simp) ?_;simp only[];rw[if_pos c5];exact Wa [[],za b n1 lb hb sb (.slice p5 n5 q5),xb n1 lb Ya d' w'++(oa Ya n1.c u'++(Lc++X')),h5] rfl rfl ⟨_,_,_,_,ia.nil _,Vy,hs5,rfl⟩
      .try refine ga ?_
       refine D.Oe [za b n1 lb hb sb (.slice pw n1.ws.length cw),xb n1 lb Ya d' w',oa Ya n1.c u',Lc,X',hw,R] (H2:=[[],za b n1 lb hb sb (.slice pw n1.ws.length cw),xb n1 lb Ya d' w'++(oa Ya n1.c u'++(Lc++X')),hw,R]) (by simp) ?_;exact Wa [[],za b n1 lb hb sb (.slice pw n1.ws.length cw),xb n1 lb Ya d' w'++(oa Ya n1.c u'++(Lc++X')),hw] rfl rfl ⟨_,_,_,_,ia.nil _,Vy,by simp only[];rw[if_neg c5];exact IE,by simp only[];rw[if_neg c5]⟩
   .rw[if_pos c3,hnc];try refine ga ?_
    refine Wh no.enc (Da.enc {no with code:=e}) ?_;repeat' first|refine ga ?_|refine yj (Da.enc {no with code:=e}) ?_
    refine Kp [({no with code:=e}:Da)] (λv4 h4 hs4=>?_);try refine ga ?_
    rw[<-eN vw];exact Wa [h4,za b {n with s:=s1} lb hb sb vw,l1,hw] rfl rfl ⟨_,_,_,_,hs4,Pf,yq,rfl⟩
  .rw[gj c2] at k3;rw[if_pos (.inr c2),hnc];have j0: ¬ ¬m.ep=n.ep:=not_not_intro c1;try refine ga ?_
   refine wq ?_;repeat' first|refine ga ?_|refine cq k2 ?_|refine cq k3 ?_
   refine Wh no.enc (Da.enc {no with code:=90}) ?_;repeat' first|refine ga ?_|refine yj (Da.enc {no with code:=90}) ?_
   refine Kp [({no with code:=90}:Da)] (λv4 h4 hs4=>?_);try refine ga ?_
   refine D.Oe [h4,za b n lb hb sb vw,xb n lb cb d w,oa cb n.c u,hv,X,hw,R] (H2:=[h4,za b n lb hb sb vw,xb n lb cb d w++(oa cb n.c u++(hv++X)),hw,R]) (by simp) ?_;exact Wa [h4,za b n lb hb sb vw,xb n lb cb d w++(oa cb n.c u++(hv++X)),hw] rfl rfl ⟨_,_,_,_,hs4,hm0,yq,rfl⟩
 .rw[if_pos (.inl c1),hnc];try refine ga ?_
  refine wq ?_;repeat' first|refine ga ?_|refine cq k2 ?_
  refine Wh no.enc (Da.enc {no with code:=90}) ?_;repeat' first|refine ga ?_|refine yj (Da.enc {no with code:=90}) ?_
  refine Kp [({no with code:=90}:Da)] (λv4 h4 hs4=>?_);try refine ga ?_
  refine D.Oe [h4,za b n lb hb sb vw,xb n lb cb d w,oa cb n.c u,hv,X,hw,R] (H2:=[h4,za b n lb hb sb vw,xb n lb cb d w++(oa cb n.c u++(hv++X)),hw,R]) (by simp) ?_;exact Wa [h4,za b n lb hb sb vw,xb n lb cb d w++(oa cb n.c u++(hv++X)),hw] rfl rfl ⟨_,_,_,_,hs4,hm0,yq,rfl⟩
end
variable{s:Ea}{N:Int}
def va.T8{n:va}{b:Nat}{h:Hp}(hm:og n.s b h):∃cb d w v hv X,h=xb n b cb d w++(oa cb n.c v++(hv++X))/\ia 49 n.c.lg v hv/\∀f ep du st,og (n.s.heard f ep du st).2 b (xb n b cb d w++(oa cb (n.c.heard f ep du st).2 v++(hv++X))):=by
 obtain⟨cb,d,w,v,hv,seg,t,hd,rfl,at_⟩:=hm;exact⟨cb,d,w,v,hv,_,rfl,at_.sl,λf ep du st=>og.heard at_ f ep du st⟩
def Ea.vR(s:Ea)(f ep du st:Int):(s.heard f ep du st).1=(s.ch.heard f ep du st).1:=by
 cases s with
 |up l c t=>rfl
 |dn l c q=>show false=((CS.new c.dc c.rg c.nd).heard f ep du st).1;rw[wF]
def Ea.Am(s:Ea)(fr ep ix:Int)(e:ya):Ob s.c0 (s.take fr ep ix e).2.c0:=by
 cases s with
 |up l c t=>exact Go.Proofs.YthebagfahkebiaaGreat.Am l c fr ep ix e
 |dn l c q=>exact Ob.refl _
def Ea.xh(s:Ea)(x:Va):Ob s.c0 (s.enter x).2.c0:=by
 cases s with
 |up l c t=>exact Go.Proofs.YthebagfahkebiaaGreat.wz l c x
 |dn l c q=>exact Ob.refl _
def Ea.Ck(s:Ea)(f ep du st:Int):Ob s.c0 (s.heard f ep du st).2.c0:=(Ut s f ep du st).2.2.2.2
def Ea.gW(h:Je s.ch)(fr ep ix:Int)(e:ya):Je (s.take fr ep ix e).2.ch:=by
 cases s with
 |up l c t=>
  show Je (Kd l c fr ep ix e).2.1;unfold Kd;split
  .exact Je.take h fr ep ix e
  .exact h
 |dn l c q=>exact h
def Ea.sR(h:Je s.ch)(key val:ByteArray)(dead:Bool)(deps:V9)(clock cl op:Int):Je (s.put key val dead deps clock cl op).2.ch:=by
 cases s with
 |up l c t=>
  show Je (Vc l c key val dead deps clock cl op).2.1;unfold Vc;split
  .exact Je.put h key val dead deps clock cl op
  .exact h
 |dn l c q=>exact h
def Ea.YI(ok:s.ok N)(h:Je s.ch)(x:Va):Je (s.enter x).2.ch:=by
 cases s with
 |up l c t=>
  show Je (Kc l c x).2.1;have he:Je (c.enter x).2:=Je.enter h (LI.ok ok) x;unfold Kc;repeat' split
  all_goals first|exact he|exact h
 |dn l c q=>exact h
def Ea.ZS(ok:s.ok N)(h:Je s.ch)(f ep du st:Int):Je (s.heard f ep du st).2.ch:=by
 rw[(Ut s f ep du st).1];exact Je.heard h ok.ch f ep du st
section
variable{n:va}{N:Int}(h:ef n N)
include h
theorem ef.mono{M:Int}(hM:N<=M):ef n M:={h with ok:=h.ok.mono hM}
theorem ef.iL{M:Int}{s:Ea}(id:Ob n.s.c0 s.c0)(ok:s.ok M)(cs:Je s.ch):ef {n with s:=s} M:=
 {ok:=ok,hl:=h.hl,hd:=λe he=>⟨(h.hd e he).1,(h.hd e he).2.trans id.2.1.symm⟩,kn:=λk hk=>by
   show n.kn.at (k*3+s.c0.rg.toNat)=0;rw[id.2.1];exact h.kn k hk
  cs:=cs,wl:=h.wl,wi:=h.wi,nn:=h.nn,dd:=h.dd,rr:=h.rr}
theorem ef.JY{ws:List Wt}(wl:ws.length<=16)(wi:∀x∈ws,1<=x.ix/\x.ix<=1000000):ef {n with ws:=ws} N:={h with wl:=wl,wi:=wi}
theorem ef.Ra:ef n.Ra N:=h.JY (Nat.le_trans (length_filter_le ..) h.wl) λx hx=>h.wi x (mem_filter.1 hx).1
theorem ef.wait{m:Da}{i:Int}(hi:1<=i/\i<=256):(n.wait m i).length<=16/\∀x∈n.wait m i,1<=x.ix/\x.ix<=1000000:=by
 unfold va.wait;split
 .rename_i k hk;have hlt:k<n.ws.length:=(List.findIdx?_eq_some_iff_getElem.1 hk).1;refine⟨by rw[length_set];exact h.wl,λx hx=>?_⟩;rcases mem_or_eq_of_mem_set hx with hx|rfl
  .exact h.wi x hx
  .rw[getD_eq_getElem?_getD,oh hlt];exact show 1<=(n.ws[k]).ix/\(n.ws[k]).ix<=1000000 from h.wi _ (getElem_mem hlt)
 .split
  .refine⟨by simp only[Cb,Gb,jd];omega,λx hx=>?_⟩;rcases mem_append.1 hx with hx|hx
   .exact h.wi x hx
   .rw[mem_singleton.1 hx];simp only[];omega
  .exact⟨h.wl,h.wi⟩
theorem ef.put(hN:N<1099511627776)(m:Da):ef (n.put m).1 (N+1):=by
 unfold va.put;split
 .exact h.mono (by omega)
 .have h1:ef ({n with s:=(n.s.put m.key m.val m.dead m.dp m.ct m.fr.nd m.op).2}:va) (N+1):=h.iL (Ea.Sp n.s ..) (h.ok.put hN ..) (Ea.sR h.cs ..);simp only[];split
  .exact h1
  .rename_i he;split
   .exact h1
   .obtain⟨w1,w2⟩:=h.wait (m:=m) (Ea.Zu h.ok (Classical.not_not.1 he));exact h1.JY w1 w2
theorem ef.yd(e:ya):ef (n.yd e) N:=by
 unfold va.yd;split
 .rename_i hc;have h1:(n.hd++[e]).length<=16:=by simp only[Cb,Gb,jd];omega
  have h2:∀x∈n.hd++[e],Xc x/\x.rg=n.rg:=λx hx=>by
   rcases mem_append.1 hx with hx|hx
   .exact h.hd x hx
   .rw[mem_singleton.1 hx];exact⟨hc.1,hc.2.1⟩
  exact{h with hl:=h1,hd:=h2}
 .exact h
theorem ef.bz (hr : 0 ≤ n.rg ∧ n.rg < 3) {rg : Int} (hne : rg ≠ n.rg) (c : V3) : ef { n with kn := Ej n.kn rg c } N := by
 have h1 : ∀ k, k < 3 → (Ej n.kn rg c).at (k * 3 + n.rg.toNat) = 0 := fun k hk => by
  have hz := h.kn k hk
  have no : ∀ d : Int, ¬ (Qb d rg ∧ k * 3 + n.rg.toNat = d.toNat * 3 + rg.toNat) := fun d ⟨⟨a, b, c, e⟩, x⟩ => by omega
  unfold Ej
  rw [Gg _ _ _ _ (by omega), if_neg (no 2), Gg _ _ _ _ (by omega), if_neg (no 1), Gg _ _ _ _ (by omega), if_neg (no 0)]
  exact hz
 exact { h with kn := h1 }
theorem ef.Qa(hN:N+40<=1099511627776)(hr:0<=n.rg/\n.rg<3)(m:Da):ef (n.Qa m).1.1 (N+40):=by
 unfold va.Qa;have hmo:=h.mono (M:=N+40) (by omega);simp only[];split
 .exact(h.put (by omega) m).mono (by omega)
 split
 .exact hmo
 split
 .split
  .exact(h.iL (Ea.Am n.s ..) (h.ok.take (by omega) ..) (Ea.gW h.cs ..)).mono (by omega)
  .exact hmo
 split
 .exact(h.iL (Ea.Ck n.s ..) (h.ok.heard ..) (Ea.ZS h.ok h.cs ..)).mono (by omega)
 split
 .have h1:=(h.iL (Ea.xh n.s m.cf) (h.ok.enter (by omega) m.cf) (Ea.YI h.ok h.cs m.cf)).mono (M:=N+40) (by omega);refine h1.JY ?_ ?_
  .split
   .exact Gi _
   .exact h.wl
  .split
   .intro x hx;cases hx
   .exact h.wi
 split
 .exact((((h.pull (by omega)).yd m.en).pull (by omega)).mono (by omega))
 split
 .split
  .exact{hmo with}
  .exact hmo
 split
 .rename_i hc;exact((h.bz hr hc.2.2.2 _).pull (by omega)).mono (by omega)
 .exact hmo
end
namespace va
variable(n:va)(m:Da)
def ki:Bool:=decide (m.fr.k=1/\m.fr.dc=n.dc/\m.fr.rg=n.rg)
def ni:Bool:=decide (m.fr.k=1/\m.fr.dc≠n.dc/\m.fr.rg=n.rg)
def wh:Bool:=decide (m.fr.k=1/\m.fr.dc=n.dc/\m.fr.rg≠n.rg)
variable{n m}
def kV(k:m.kind=3):n.Qa m=(n.put m,false):=by unfold Qa;rw[if_pos k]
def aY(k:m.kind=5):n.Qa m=((n,[n.get m]),false):=by unfold Qa;rw[if_neg (by omega),if_pos k]
def lV(k:m.kind=7)(c:n.ki m=true):n.Qa m=if m.ep=n.ep/\0<=m.fr.nd/\m.fr.nd=Ed n.c.co n.nd then((({n with s:=(n.s.take m.fr.nd m.ep m.ix m.en).2}:va),[({n with s:=(n.s.take m.fr.nd m.ep m.ix m.en).2}:va).Zy m.fr]),false) else((n,[]),false):=by
 unfold Qa;rw[if_neg (by omega),if_neg (by omega)];exact if_pos ⟨k,of_decide_eq_true c⟩
def mV(k:m.kind=8)(c:n.ki m=true):n.Qa m=(({n with s:=(n.s.heard m.fr.nd m.ep m.ct m.ix).2},[]),(n.s.heard m.fr.nd m.ep m.ct m.ix).1):=by
 unfold Qa;rw[if_neg (by omega),if_neg (by omega)];exact(if_neg (λh=>absurd h.1 (by omega))).trans (if_pos ⟨k,of_decide_eq_true c⟩)
def nV(k:m.kind=9)(c:m.fr=n.Cc):n.Qa m=(({n with s:=(n.s.enter m.cf).2,ws:=if(n.s.enter m.cf).1.2=0 then[] else n.ws},[]),false):=by
 unfold Qa;rw[if_neg (by omega),if_neg (by omega)];exact(if_neg (λh=>absurd h.1 (by omega))).trans ((if_neg (λh=>absurd h.1 (by omega))).trans (if_pos ⟨k,c⟩))
def QM(k:m.kind=12)(c:n.ni m=true)(e:n.c.head):n.Qa m=(((n.pull.yd m.en).pull,[]),false):=by
 unfold Qa;rw[if_neg (by omega),if_neg (by omega)];obtain⟨c1,c2,c3⟩:=of_decide_eq_true c;exact(if_neg (λh=>absurd h.1 (by omega))).trans ((if_neg (λh=>absurd h.1 (by omega))).trans ((if_neg (λh=>absurd h.1 (by omega))).trans (if_pos ⟨k,c1,c2,c3,e⟩)))
def zR(k:m.kind=13)(c:n.ni m=true):n.Qa m=
  (({n with rc:=if Xd n.dc m.fr.dc/\n.rc.get m.fr.dc<V3.get ⟨m.c0,m.c1,m.c2⟩ n.dc then n.rc.put m.fr.dc.toNat (V3.get ⟨m.c0,m.c1,m.c2⟩ n.dc) else n.rc},
   if(Xd n.dc m.fr.dc/\n.rc.get m.fr.dc<V3.get ⟨m.c0,m.c1,m.c2⟩ n.dc)/\n.sure=true then va.Qf {n with rc:=n.rc.put m.fr.dc.toNat (V3.get ⟨m.c0,m.c1,m.c2⟩ n.dc)} m.fr.dc else[]),false):=by
 unfold Qa;rw[if_neg (by omega),if_neg (by omega)];refine(if_neg (λh=>absurd h.1 (by omega))).trans ((if_neg (λh=>absurd h.1 (by omega))).trans ((if_neg (λh=>absurd h.1 (by omega))).trans ((if_neg (λh=>absurd h.1 (by omega))).trans ((if_pos ⟨k,of_decide_eq_true c⟩).trans ?_))));try simp only[]
 by_cases h:Xd n.dc m.fr.dc/\n.rc.get m.fr.dc<V3.get ⟨m.c0,m.c1,m.c2⟩ n.dc
 .simp only[if_pos h]
 .simp only[if_neg h,if_neg (λx:_/\n.sure=true=>h x.1)]
def SM(k:m.kind=14)(c:n.wh m=true):n.Qa m=((va.pull {n with kn:=Ej n.kn m.fr.rg ⟨m.c0,m.c1,m.c2⟩},[]),false):=by
 unfold Qa;rw[if_neg (by omega),if_neg (by omega)];exact(if_neg (λh=>absurd h.1 (by omega))).trans ((if_neg (λh=>absurd h.1 (by omega))).trans ((if_neg (λh=>absurd h.1 (by omega))).trans ((if_neg (λh=>absurd h.1 (by omega))).trans ((if_neg (λh=>absurd h.1 (by omega))).trans (if_pos ⟨k,of_decide_eq_true c⟩)))))
def Dp(a3:m.kind≠3)(a5:m.kind≠5)(a7: ¬(m.kind=7/\n.ki m=true))(a8: ¬(m.kind=8/\n.ki m=true))(a9: ¬(m.kind=9/\m.fr=n.Cc))(a12: ¬(m.kind=12/\n.ni m=true/\n.c.head))(K6: ¬(m.kind=13/\n.ni m=true))(L6: ¬(m.kind=14/\n.wh m=true)):n.Qa m=((n,[]),false):=by
 unfold Qa;rw[if_neg a3,if_neg a5];exact(if_neg (λh=>a7 ⟨h.1,Fi h.2⟩)).trans ((if_neg (λh=>a8 ⟨h.1,Fi h.2⟩)).trans ((if_neg a9).trans ((if_neg (λh=>a12 ⟨h.1,Fi ⟨h.2.1,h.2.2.1,h.2.2.2.1⟩,h.2.2.2.2⟩)).trans ((if_neg (λh=>K6 ⟨h.1,Fi h.2⟩)).trans (if_neg (λh=>L6 ⟨h.1,Fi h.2⟩))))))
def St(m:Da):(n.put m).1.hd=n.hd/\(n.put m).1.rg=n.rg/\(n.put m).1.dc=n.dc/\(n.put m).1.rc=n.rc:=by
 obtain⟨h1,h2,h3⟩:=Ea.Sp n.s m.key m.val m.dead m.dp m.ct m.fr.nd m.op;unfold va.put;split
 .exact⟨rfl,rfl,rfl,rfl⟩
 .simp only[];split
  .exact⟨rfl,h2,h1,rfl⟩
  .split<;>exact⟨rfl,h2,h1,rfl⟩
def Ih(e:ya):n.yd e={n with hd:=Lg n.rg n.hd e}:=by
 unfold yd Lg;by_cases h:Xc e/\e.rg=n.rg/\n.hd.any (Jj e)=false/\n.hd.length<16
 .rw[if_pos h];exact if_pos h
 .rw[if_neg h];exact if_neg h
def gv(h:n.nn<=100)(x:Int):(n.Qf x).length<=100:=by
 unfold Qf;split
 .exact Gi _
 .rw[We,length_range];omega
def eL(h:n.nn<=100)(m:Da):(n.Qa m).1.2.length<=100:=by
 have hp:(n.put m).2.length<=100:=by
  unfold va.put;split
  .simp
  .simp only[];split
   .simp
   .split<;>simp
 have hs:∀n1:va,n1.nn=n.nn->∀x,(n1.Qf x).length<=100:=λn1 e x=>gv (by rw[e];exact h) x;unfold Qa;simp only[];split
 .exact hp
 split
 .simp
 split
 .split<;>simp
 split
 .simp
 split
 .simp
 split
 .simp
 split
 .simp only[];split
  .exact hs _ (by split<;>rfl) _
  .simp
 split<;>simp
def zq{n:va}(h:n.ws.length<=16)(du st ak:Int):(n.Gh du st ak).length<=18:=by
 have h1:=n.Kg;have h2:=n.Pj;have h3:(n.ws.filter λw=>decide (w.ix<=n.c.st)).length<=n.ws.length:=length_filter_le ..;unfold Gh;rw[Cb,Cb,We];split<;>split<;>(try simp only[jd])<;>omega
end va
variable{T:Int}{b:Nat}
def iV(ok:s.ok N)(cs:Je s.ch)(hu:s.Xa=true){h:Hp}(hm:Zf s b T h)(Mi:0<=T)(hT:T<=68719476736)(key val:ByteArray)(dead:Bool)(deps:V9)(clock cl op:Int):
  ∃cb d w tn v hv X,h=yb b cb d w s.Xa tn++(ta cb s.ch v++(hv++X))/\ia 49 s.ch.lg v hv/\
   Ct prog 175 [b,.string key,.string val,.bool dead,.agg (List.toArray deps.enc),clock,cl,op] [h]
    (λr H'=>r= .tuple #[.int .i64 (s.put key val dead deps clock cl op).1.1,.int .i64 (s.put key val dead deps clock cl op).1.2]/\
     ∃v' Lc X',H'=[yb b cb d w (s.put key val dead deps clock cl op).2.Xa tn,ta cb (s.put key val dead deps clock cl op).2.ch v',Lc,X']/\ia 49 (s.put key val dead deps clock cl op).2.ch.lg v' Lc/\
      Zf (s.put key val dead deps clock cl op).2 b (T+243) (yb b cb d w (s.put key val dead deps clock cl op).2.Xa tn++(ta cb (s.put key val dead deps clock cl op).2.ch v'++(Lc++X')))):=by
 rw[<-Ea.eV cs]
 cases s with
 |up l c t=>
  obtain⟨cb,d,w,v,hv,seg,t',tn,hd,rfl,at_⟩:=hm;obtain rfl:=at_.sg rfl;have Sy:Ge l:=ok.lg.ok;have ob:Lb c:=ok.ok;have Mf:ia 49 c.lg v hv:=at_.sl;have hdk:RD l d hd T:=at_.dk;refine⟨cb,d,w,tn,v,hv,_,rfl,Mf,?_⟩;refine(qR (w:=w) (Aa:=t') (tn:=tn) Sy b cb hdk Mi (by omega) ob Mf key val dead deps clock cl op).pack (by simp[Ea.c0,Ea.ch,Ea.Xa,Ea.l0]) λr H' ⟨h1,h2⟩=>?_;obtain⟨v',Lc,hd',rfl,hs',hk'⟩:=h2
  exact⟨[yb b cb d w true tn,ta cb (Dj l c key val dead deps clock cl op).2.1 v',Lc,ff w d (ua (Dj l c key val dead deps clock cl op).2.2) t'++hd'],by simp,h1,v',Lc,_,rfl,hs',cb,d,w,v',Lc,_,t',tn,hd',rfl,⟨hs',hk',λ_=>rfl,λe=>(by cases e)⟩⟩
 |dn l c q=>cases hu
def va.V1{n:va}(ok:ef n N)(hu:n.s.Xa=true){h:Hp}(hm:Zf n.s b T h)(Mi:0<=T)(hT:T<=68719476736)(key val:ByteArray)(dead:Bool)(deps:V9)(clock cl op:Int):
  ∃cb d w tn v hv X,h=qb n b cb d w tn++(ta cb n.c v++(hv++X))/\ia 49 n.c.lg v hv/\
   Ct prog 175 [b,.string key,.string val,.bool dead,.agg (List.toArray deps.enc),clock,cl,op] [qb n b cb d w tn++(ta cb n.c v++(hv++X))]
    (λr H'=>r= .tuple #[.int .i64 (n.s.put key val dead deps clock cl op).1.1,.int .i64 (n.s.put key val dead deps clock cl op).1.2]/\
     ∃v' Lc X',H'=[yb b cb d w (n.s.put key val dead deps clock cl op).2.Xa tn,ta cb (n.s.put key val dead deps clock cl op).2.ch v',Lc,X']/\ia 49 (n.s.put key val dead deps clock cl op).2.ch.lg v' Lc/\
      Zf (n.s.put key val dead deps clock cl op).2 b (T+243) (yb b cb d w (n.s.put key val dead deps clock cl op).2.Xa tn++(ta cb (n.s.put key val dead deps clock cl op).2.ch v'++(Lc++X')))):=by
 obtain⟨cb,d,w,tn,v,hv,X,rfl,hs,k⟩:=iV ok.ok ok.cs hu hm Mi hT key val dead deps clock cl op;exact⟨cb,d,w,tn,v,hv,X,rfl,hs,k⟩
def va.cg(n:va)(h:Ob n.s.c0 s.c0)(gb hb sb:Nat)(vw vo:Value):Ba b {n with s:=s} gb hb sb vw vo=Ba b n gb hb sb vw vo:=by
 obtain⟨h1,h2,h3⟩:=h;unfold Ba va.jc va.dc va.rg va.nd;simp only[];rw[h1,h2,h3]
abbrev W1(b:Nat)(x:Wt):Hp:=[(b,.cells (List.toArray x.enc) 212 (0,0))]
section
variable(n:va){N T:Int}(ok:ef n N)(hN:N<1099511627776)(Mi:0<=T)(hT:T<=68719476736)(hu:n.s.Xa=true)(b gb hb sb:Nat){outs:List Da}{vo:Value}{ho:Hp}(On:ia 52 outs vo ho)(Ry:outs.length<=100000)
include ok hN Mi hT hu On Ry
theorem rR(m:Da){vw:Value}{hl hw:Hp}(hm:Zf n.s gb T hl)(yq:ia 212 n.ws vw hw):Ct prog 85 [b,.agg (List.toArray m.enc)] [Ba b n gb hb sb vw vo,ho,hl,hw]
  (λr H'=>r= .tuple #[]/\∃Cp ho' Vs Uh hl',ia 52 (outs++(n.put m).2) Cp ho'/\Zf (n.put m).1.s gb (T+243) hl'/\ia 212 (n.put m).1.ws Vs Uh/\H'=[Ba b (n.put m).1 gb hb sb Vs Cp,ho',hl',Uh]):=by
 have hm0:=hm;obtain⟨cb,d,w,tn,u,hv,X,rfl,Mf,k4⟩:=va.V1 ok hu hm Mi hT m.key m.val m.dead m.dp m.ct m.fr.nd m.op;have k3:=uk ok.ob.co cb u;have kb:=λcode=>uh n b gb hb sb vw On (by omega) {Da.z with kind:=4,to:=m.fr,op:=m.op,tr:=m.tr,code:=code};obtain⟨pw,cw,rfl⟩:=yq.len;unfold va.put;refine ce func85 λg R=>?_;simp only[can];refine W.f0 [Ba b n gb hb sb (.slice pw n.ws.length cw) vo,ho,qb n gb cb d w tn,ta cb n.c u,hv,X,hw,R] ?_;repeat' first|refine ga ?_|refine Ud λ_=>?_
 rename_i b3;by_cases c1:m.ep=n.ep
 .by_cases c2:n.c.head
  .rw[if_neg (λh=>h.elim (λh=>h c1) λh=>h c2)];have k3:Ct prog 91 [cb] [ta cb n.c u] (λr H'=>r= .bool true/\H'=[ta cb n.c u]):=by rw[<-Fi c2];exact k3
   have j0: ¬ ¬m.ep=n.ep:=not_not_intro c1;have hid:=Ea.Sp n.s m.key m.val m.dead m.dp m.ct m.fr.nd m.op;have Bh:=ok.put hN m;have F7:=Ea.sR ok.cs m.key m.val m.dead m.dp m.ct m.fr.nd m.op;have CO:=ok.ok.put hN m.key m.val m.dead m.dp m.ct m.fr.nd m.op;have Tq:(n.s.put m.key m.val m.dead m.dp m.ct m.fr.nd m.op).1.2=0->_:=λk=>Ea.Zu ok.ok k;try simp only[]
   generalize n.s.put m.key m.val m.dead m.dp m.ct m.fr.nd m.op=r at k4 hid CO F7 Tq⊢;obtain⟨⟨i,e⟩,s1⟩:=r;simp only[] at k4 hid CO F7 Tq;refine wq ?_;repeat' first|refine ga ?_|refine cq k3 ?_
   refine Ns (ml [19,1,5]) [Jc b3 m,Ba b n gb hb sb (.slice pw n.ws.length cw) vo] ?_;repeat' first|refine ga ?_|refine Xm b3 52 m.enc m.dp.enc ?_
   refine ck k4 ?_;rintro _ _ ⟨rfl,u1,RH,X1,rfl,Y1,Pf⟩;simp only[can];obtain⟨n1,yc⟩:∃n1:va,n1={n with s:=s1}:=⟨_,rfl⟩;have eN:∀v vo,Ba b n gb hb sb v vo=Ba b n1 gb hb sb v vo:=λv vo=>by rw[yc];exact(va.cg (b:=b) n hid gb hb sb v vo).symm
   have eC:s1=n1.s/\n.ws=n1.ws:=by rw[yc];exact⟨rfl,rfl⟩
   obtain⟨eC,eW⟩:=eC;rw[eC] at Y1 Pf CO F7⊢;have oc:=CO.ch;by_cases c3:e=0
   .rw[if_neg (not_not_intro c3)];obtain⟨i1,i2⟩:=Tq c3;have e4:({n with s:=n1.s}:va)=n1:=by rw[yc]
    rw[e4,eN];refine WX.h0 [qb n1 gb cb d w tn,ta cb n1.c u1,RH,X1,Jc b3 m,Ba b n1 gb hb sb (.slice pw n.ws.length cw) vo,ho,hw,R] ?_;repeat' first|refine ga ?_|refine al λ_=>?_|refine Xm b3 1 m.enc m.fr.enc ?_|refine Vf (Wt.enc ⟨m.fr,m.op,m.tr,i⟩) ?_|refine nh (Wt.enc ⟨Bl.z,0,0,0⟩) (Wt.enc ⟨m.fr,m.op,m.tr,i⟩) ?_
    rename_i b7;by_cases c4:i<=n1.c.st
    .rw[if_pos c4];have kt:=vI n1 b gb hb sb (.slice pw n.ws.length cw) On (by omega) (cb:=cb) (d:=d) (w:=w) (tn:=tn) (v:=u1) oc Y1.rs ⟨m.fr,m.op,m.tr,i⟩ ⟨by show 1<=i;omega,by show i<=1000000;omega⟩;repeat' first|refine ga ?_|refine yj (Wt.enc ⟨m.fr,m.op,m.tr,i⟩) ?_
     refine ck kt ?_;rintro _ _ ⟨rfl,Cp,ho',hs',rfl⟩;refine vb ?_;refine D.Oe [Ba b n1 gb hb sb (.slice pw n.ws.length cw) Cp,ho',qb n1 gb cb d w tn,ta cb n1.c u1,RH,X1,hw,R] (H2:=[Ba b n1 gb hb sb (.slice pw n.ws.length cw) Cp,ho',qb n1 gb cb d w tn++(ta cb n1.c u1++(RH++X1)),hw,R]) (by simp) ?_;exact D.ai [Ba b n1 gb hb sb (.slice pw n.ws.length cw) Cp,ho',qb n1 gb cb d w tn++(ta cb n1.c u1++(RH++X1)),hw] _ rfl ⟨rfl,_,_,_,_,_,hs',Pf,by rw[<-eW];exact yq,rfl⟩
    .rw[if_neg c4];have eW2:∀l:List Wt,({n with s:=n1.s,ws:=l}:va)={n1 with ws:=l}:=λl=>by rw[yc]
     unfold va.wait;rw[eW2,eW];rw[eW] at yq;have Hy:n1.ws.length<=16:=by rw[<-eW];exact ok.wl
     obtain⟨P,hP⟩:∃P:Wt->Bool,P=λx=>decide (x.to.nd=m.fr.nd/\x.op=m.op):=⟨_,rfl⟩;rw[<-hP];have hrw:=yq.rs;try refine ga ?_
     refine W.lo (α:=Nat) (λk=>k<=n1.ws.length/\∀(j:Nat) (x:Wt),j<k->n1.ws[j]? =some x->P x=false)
      (λk=>[(0,b),(3,b3),(7,b7),(8,.int .i64 (k:Int))])
      (λ_=>[W1 b7 ⟨m.fr,m.op,m.tr,i⟩,qb n1 gb cb d w tn,ta cb n1.c u1,RH,X1,Jc b3 m,Ba b n1 gb hb sb (.slice pw n1.ws.length cw) vo,ho,hw,R]) (λk=>n1.ws.length - k) 0 ⟨Gi _,λj x hj=>absurd hj (Nat.not_lt_zero _)⟩ ?_
     rintro k ⟨hk,hall⟩;by_cases hlt:k<n1.ws.length
     .obtain⟨x,hx⟩:=Sh hlt;by_cases e1:x.to.nd=m.fr.nd<;>by_cases e2:x.op=m.op
      all_goals
       try refine ga ?_
       refine ij ?_
      .refine Ns (ml [7]) [Jc b3 m,Ba b n1 gb hb sb (.slice pw n1.ws.length cw) vo] ?_;repeat' first|refine ga ?_|refine Xm b3 1 m.enc m.fr.enc ?_
       refine WX.ko (y':={x with to:=m.fr}) (vs:=m.fr.enc) (k:=k) (off:=0) (ms:=7) rfl rfl rfl yq hx rfl rfl rfl rfl rfl (λh8 Mq=>?_);have hx8:(n1.ws.set k {x with to:=m.fr})[k]? =some {x with to:=m.fr}:=List.getElem?_set_self hlt;have xaa:=Mq.rs;try refine ga ?_
       refine Ns (ml [7]) [Jc b3 m,Ba b n1 gb hb sb (.slice pw n1.ws.length cw) vo] ?_;try refine ga ?_
       refine WX.ko (y':={x with to:=m.fr,tr:=m.tr}) (vs:=[m.tr]) (k:=k) (off:=5) (ms:=7) rfl rfl rfl Mq hx8 rfl rfl rfl rfl rfl (λh9 Wo=>?_);try refine ga ?_
       have hf:n1.ws.findIdx? P=some k:=by
        rw[List.findIdx?_eq_some_iff_getElem];have aL:=(List.getElem?_eq_some_iff.1 hx).2;exact⟨hlt,by rw[aL,hP];exact Fi ⟨e1,e2⟩,λj hj=>by rw[hall j n1.ws[j] hj (oh _)];decide⟩
       have hg:n1.ws.getD k ⟨Bl.z,0,0,0⟩=x:=by rw[getD_eq_getElem?_getD,hx];rfl
       rw[set_set] at Wo;rw[hf];simp only[];rw[hg,append_nil];refine D.Oe [Ba b n1 gb hb sb (.slice pw n1.ws.length cw) vo,ho,qb n1 gb cb d w tn,ta cb n1.c u1,RH,X1,h9,R] (H2:=[Ba b n1 gb hb sb (.slice pw n1.ws.length cw) vo,ho,qb n1 gb cb d w tn++(ta cb n1.c u1++(RH++X1)),h9,R]) (by simp) ?_;exact D.ai [Ba b n1 gb hb sb (.slice pw n1.ws.length cw) vo,ho,qb n1 gb cb d w tn++(ta cb n1.c u1++(RH++X1)),h9] _ rfl ⟨rfl,_,_,_,_,_,On,Pf,Wo,rfl⟩
      all_goals
       refine D.rd (k+1) ⟨by omega,λj y hj hy=>?_⟩ (by omega);rcases Nat.lt_or_ge j k with h|h
       .exact hall j y h hy
       .obtain rfl:j=k:=by omega
        rw[hx] at hy;cases hy;rw[hP];exact gj λh=>by first|exact e1 h.1|exact e2 h.2
     .obtain rfl:k=n1.ws.length:=by omega
      have hf:n1.ws.findIdx? P=none:=by
       rw[List.findIdx?_eq_none_iff];intro x hx;obtain⟨j,hj⟩:=mem_iff_getElem?.1 hx;exact hall j x (by have:=(List.getElem?_eq_some_iff.1 hj).1;omega) hj
      rw[hf];by_cases c5:n1.ws.length<16
      .try refine ga ?_
       refine Ns (ml [6,2]) [W1 b7 ⟨m.fr,m.op,m.tr,i⟩,Ba b n1 gb hb sb (.slice pw n1.ws.length cw) vo] ?_;repeat' first|refine ga ?_|refine yj (Wt.enc ⟨m.fr,m.op,m.tr,i⟩) ?_
       refine Kp [(⟨m.fr,m.op,m.tr,i⟩:Wt)] (λv4 h4 hs4=>?_);try refine ga ?_
       refine Ys (zb:=by simp only[Gb,jd];omega) yq hs4.rs (λv5 h5 hs5=>?_);obtain⟨p5,q5,rfl⟩:=hs5.len;generalize(n1.ws++[(⟨m.fr,m.op,m.tr,i⟩:Wt)]).length=n5 at hs5⊢;try refine ga ?_
       refine Wh (n1.jc gb hb sb (.slice pw n1.ws.length cw) vo) (n1.jc gb hb sb (.slice p5 n5 q5) vo) ?_;try refine ga ?_
       refine D.Oe [Ba b n1 gb hb sb (.slice p5 n5 q5) vo,ho,qb n1 gb cb d w tn,ta cb n1.c u1,RH,X1,h5,R] (H2:=[Ba b n1 gb hb sb (.slice p5 n5 q5) vo,ho,qb n1 gb cb d w tn++(ta cb n1.c u1++(RH++X1)),h5,R]) (by simp) ?_;simp only[];rw[if_pos c5,append_nil];exact D.Bc [Ba b n1 gb hb sb (.slice p5 n5 q5) vo,ho,qb n1 gb cb d w tn++(ta cb n1.c u1++(RH++X1)),h5] _ rfl ⟨rfl,_,_,_,_,_,On,Pf,hs5,rfl⟩
      .try refine ga ?_
       refine D.Oe [Ba b n1 gb hb sb (.slice pw n1.ws.length cw) vo,ho,qb n1 gb cb d w tn,ta cb n1.c u1,RH,X1,hw,R] (H2:=[Ba b n1 gb hb sb (.slice pw n1.ws.length cw) vo,ho,qb n1 gb cb d w tn++(ta cb n1.c u1++(RH++X1)),hw,R]) (by simp) ?_;simp only[];rw[if_neg c5,append_nil];exact D.Bc [Ba b n1 gb hb sb (.slice pw n1.ws.length cw) vo,ho,qb n1 gb cb d w tn++(ta cb n1.c u1++(RH++X1)),hw] _ rfl ⟨rfl,_,_,_,_,_,On,Pf,yq,rfl⟩
   .rw[if_pos c3];have e4:({n with s:=n1.s}:va)=n1:=by rw[yc]
    have kb:=kb e;rw[e4];repeat' first|refine ga ?_|refine Xm b3 1 m.enc m.fr.enc ?_|refine Vf (Da.enc {Da.z with kind:=4,to:=m.fr,op:=m.op,tr:=m.tr,code:=e}) ?_
    refine ck kb ?_;rintro _ _ ⟨rfl,Cp,ho',hs',rfl⟩;refine vb ?_;rw[eN];refine D.Oe [Ba b n1 gb hb sb (.slice pw n.ws.length cw) Cp,ho',yb gb cb d w n1.s.Xa tn,ta cb n1.s.ch u1,RH,X1,hw,R] (H2:=[Ba b n1 gb hb sb (.slice pw n.ws.length cw) Cp,ho',yb gb cb d w n1.s.Xa tn++(ta cb n1.s.ch u1++(RH++X1)),hw,R]) (by simp) ?_;exact D.ai [Ba b n1 gb hb sb (.slice pw n.ws.length cw) Cp,ho',yb gb cb d w n1.s.Xa tn++(ta cb n1.s.ch u1++(RH++X1)),hw] _ rfl ⟨rfl,_,_,_,_,_,hs',Pf,by rw[<-eW];exact yq,rfl⟩
  .rw[if_pos (.inr c2)];have k3:Ct prog 91 [cb] [ta cb n.c u] (λr H'=>r= .bool false/\H'=[ta cb n.c u]):=by rw[<-gj c2];exact k3
   have j0: ¬ ¬m.ep=n.ep:=not_not_intro c1;have kb:=kb 90;refine wq ?_;repeat' first|refine ga ?_|refine cq k3 ?_|refine Xm b3 1 m.enc m.fr.enc ?_|refine Vf (Da.enc {Da.z with kind:=4,to:=m.fr,op:=m.op,tr:=m.tr,code:=90}) ?_
   refine ck kb ?_;rintro _ _ ⟨rfl,Cp,ho',hs',rfl⟩;refine vb ?_;refine D.Oe [Ba b n gb hb sb (.slice pw n.ws.length cw) Cp,ho',qb n gb cb d w tn,ta cb n.c u,hv,X,hw,R] (H2:=[Ba b n gb hb sb (.slice pw n.ws.length cw) Cp,ho',qb n gb cb d w tn++(ta cb n.c u++(hv++X)),hw,R]) (by simp) ?_;exact D.ai [Ba b n gb hb sb (.slice pw n.ws.length cw) Cp,ho',qb n gb cb d w tn++(ta cb n.c u++(hv++X)),hw] _ rfl ⟨rfl,_,_,_,_,_,hs',hm0.mono (by omega),yq,rfl⟩
 .rw[if_pos (.inl c1)];have kb:=kb 90;refine wq ?_;repeat' first|refine ga ?_|refine Xm b3 1 m.enc m.fr.enc ?_|refine Vf (Da.enc {Da.z with kind:=4,to:=m.fr,op:=m.op,tr:=m.tr,code:=90}) ?_
  refine ck kb ?_;rintro _ _ ⟨rfl,Cp,ho',hs',rfl⟩;refine vb ?_;refine D.Oe [Ba b n gb hb sb (.slice pw n.ws.length cw) Cp,ho',qb n gb cb d w tn,ta cb n.c u,hv,X,hw,R] (H2:=[Ba b n gb hb sb (.slice pw n.ws.length cw) Cp,ho',qb n gb cb d w tn++(ta cb n.c u++(hv++X)),hw,R]) (by simp) ?_;exact D.ai [Ba b n gb hb sb (.slice pw n.ws.length cw) Cp,ho',qb n gb cb d w tn++(ta cb n.c u++(hv++X)),hw] _ rfl ⟨rfl,_,_,_,_,_,hs',hm0.mono (by omega),yq,rfl⟩
end
end Go.Proofs.YthebagfahkebiaaGreat
