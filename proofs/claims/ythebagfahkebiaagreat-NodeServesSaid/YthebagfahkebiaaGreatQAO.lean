/- Texts of one road. -/
import Derived.Test.YthebagfahkebiaaGreatQAM
import Derived.Test.YthebagfahkebiaaGreatQAN
set_option linter.all false
set_option maxHeartbeats 8000000
set_option maxRecDepth 20000
namespace Go.Proofs.YthebagfahkebiaaGreat
open Go Go.Sl Go.Proofs.Tryz List
def Fq(r:Rec):bytes [r]=r.fr:=by rw[qe,sw,append_nil]
variable{qs:List Ub}{d:Nat}{t n:Int}{h hx:Hp}{u:Value}
def ru(qs:List Ub):Nat:=(qs.map λq=>q.b.length).sum
def iy(ok:Ds qs){lv:Value}{gs:List Gf}{lh:Hp}(hd:Zq (qs.map Ub.pl) lv gs lh):
  Ct prog 213 [d] [ue d lv t,lh,mc gs] (λr H'=>r= .int .i64 (ru qs:Int)/\H'=[ue d lv t,lh,mc gs]):=by
 have jg:=ok.len;have Nn:=NJ (d:=d) (t:=t) hd (by rw[We];omega) (by rw[map_map];have:=ok.used;exact Nat.le_trans this (by decide));rw[map_map] at Nn;exact Nn
def bq(ok:Ds qs)(zL:0<=t)(ht1:t<=1099511627776)(hd:pg (qs.map Ub.pl) t d h)(hlt:∀q∈qs,q.n<n)(hn0:0<=n)(yc:n<=1099511627776)(hlen:qs.length<64)
  {bs:List UInt8}(hb:Rs bs u hx)(j3:ru qs+bs.length<=1048576):
  Ct prog 217 [d,n,u] [h,hx] (λr H'=>∃h',r= .int .i64 0/\H'=[h',hx]/\pg ((qs++[(⟨n,bs,0,Cq t bs.length⟩:Ub)]).map Ub.pl) (t+bs.length) d h'):=by
 obtain⟨lv,gs,lh,hd,rfl⟩:=hd;have yQ:(gs.map Gf.gp).length=qs.length:=hd.len.trans (We _);have hgg:gs.length=qs.length:=by rw[We] at yQ;exact yQ
 have nO:(qs.map Ub.pl).length=qs.length:=We _;have Nn:=iy (d:=d) (t:=t) ok hd;have hr:=hd.sl.rs;have hfind:=Xv (d:=d) (t:=t) hd (n:=n) (λy hy=>by obtain⟨q,hq,rfl⟩:=mem_map.1 hy;exact hlt q hq) (by omega);unfold Wv at hfind;rw[nO] at hfind;obtain⟨lp,lc,rfl⟩:=hr.len;have hcap:(gs.map Gf.gp).length<=lc:=by obtain⟨aa,cc,e,le,_⟩:=id hr;cases e;exact le
 have th:=hr.take (m:=qs.length) (by omega);have hfr:=hr.from (m:=1) rfl (lo:=qs.length) (by omega);rw[take_of_length_le (by omega)] at th;rw[drop_eq_nil_of_le (by omega)] at hfr
 refine Ct.pack (pre:=[ue d (.slice lp (gs.map Gf.gp).length lc) t,lh,mc gs,hx])
  (post:=λr H'=>∃Um Vm blk pb lb cb hb' pc cG cc Vj,r= .int .i64 0/\H'=[ue d Um (t+bs.length),Vm,mc gs,wH blk n (.slice pb lb cb) (.slice pc cG cc),hb',Vj,hx]/\ia 268 (gs.map Gf.gp++[⟨blk⟩]) Um Vm/\ia 5 bs (.slice pb lb cb) hb'/\ia 3 (Cq t bs.length) (.slice pc cG cc) Vj) ?_ (by simp)
  (λr H' ⟨Um,Vm,blk,pb,lb,cb,hb',pc,cG,cc,Vj,e1,e2,e0,e3,e4⟩=>⟨[[ue d Um (t+bs.length),Vm,mc gs,wH blk n (.slice pb lb cb) (.slice pc cG cc),hb',Vj].flatten,hx],by rw[e2];simp,_,e1,rfl,Um,gs++[⟨n,bs,Cq t bs.length,blk,pb,lb,cb,hb',pc,cG,cc,Vj⟩],Vm,⟨λx hx=>?_,?_,by rw[Ae];exact e0⟩,by rw[Za];simp[mc]⟩)
 .refine cr func217 λg R=>?_;refine cq hfind ?_;try refine run ?_
  refine cq Nn ?_;try refine run ?_
  refine WX.Ke ?_;refine Ys (zb:=by simp only[jd];omega) (ia.nil _) th (λv1 h1 hs1=>?_);rw[nil_append] at hs1;repeat' first|refine run ?_|refine Ud λ_=>?_
  rename_i blk;refine Kp [(⟨blk⟩:Gp)] (λv2 h2 Oa=>?_);refine Ys (zb:=by simp only[Gb,jd];omega) hs1 Oa.rs (λv3 h3 Fc=>?_);try refine run ?_
  refine WX.ei (lo:=qs.length) rfl rfl (by omega) hcap rfl ?_;refine Ys (zb:=by simp only[Cb,Gb,jd];omega) Fc hfr (λv4 h4 hs4=>?_);rw[append_nil] at hs4;obtain⟨p4,n4,c4,rfl⟩:=hs4.sh;have hr4:=hs4.rs;have zj:(gs.map Gf.gp++[(⟨blk⟩:Gp)])[qs.length]? =some ⟨blk⟩:=by rw[<-yQ,List.getElem?_concat_length]
  try refine run ?_
  refine W.Ke ?_;refine W.Ke ?_
  refine W.lo (α:=Nat×Int×Option Addr×Nat×Nat×Hp×Option Addr×Nat×Nat×Hp) (λx=>x.1<=bs.length/\x.2.1=t+(x.1:Int)/\ia 5 (([]:List UInt8)++bs.take x.1) (.slice x.2.2.1 x.2.2.2.1 x.2.2.2.2.1) x.2.2.2.2.2.1/\ia 3 (([]:List Int)++Cq t x.1) (.slice x.2.2.2.2.2.2.1 x.2.2.2.2.2.2.2.1 x.2.2.2.2.2.2.2.2.1) x.2.2.2.2.2.2.2.2.2)
   (λx=>[(0,d),(2,u),(10,.pointer (some ⟨blk,0,none⟩)),(11,.int .i64 (x.1:Int))])
   (λx=>[ue d (.slice p4 n4 c4) x.2.1,wH (blk) (n) (.slice x.2.2.1 x.2.2.2.1 x.2.2.2.2.1) (.slice x.2.2.2.2.2.2.1 x.2.2.2.2.2.2.2.1 x.2.2.2.2.2.2.2.2.1),x.2.2.2.2.2.1,x.2.2.2.2.2.2.2.2.2,hx,h4,mc gs,R]) (λx=>bs.length - x.1) (0,t,none,0,0,[],none,0,0,[]) ⟨Gi _,by simp,ia.nil _,ia.nil _⟩ ?_
  rintro⟨i,tt,pb,lb,cb,hb,pc,cG,cc,hc⟩ ⟨hi,cZ,nI,hsc⟩;simp only[] at hi cZ nI hsc⊢;by_cases hil:i<bs.length
  .obtain⟨y,hy⟩:=Sh hil;have th:bs.take (i+1)=bs.take i++[y]:=by rw[take_succ_eq_append_getElem hil,(List.getElem?_eq_some_iff.1 hy).2]
   have htl:(bs.take i).length<=bs.length:=by rw[Fe];omega
   have u9:Cq t (i+1)=Cq t i++[tt+1]:=by rw[QJ,cZ]
   have htn:=Dq t i;try refine run ?_
   refine cX (ml [9,2]) [wH (blk) (n) (.slice pb lb cb) (.slice pc cG cc),hx] ?_;try refine run ?_
   refine Kp [y] (λv1 h1 hs1=>?_);try refine run ?_
   refine Ys (zb:=by simp only[Cb,Gb,jd];omega) nI hs1.rs (λv2 h2 Oa=>?_);rw[Oc,<-th] at Oa;obtain⟨p2,n2,c2,rfl⟩:=Oa.sh;try refine run ?_
   refine cX (ml [9,2]) [wH (blk) (n) (.slice p2 n2 c2) (.slice pc cG cc),ue d (.slice p4 n4 c4) (tt+1)] ?_;try refine run ?_
   refine Kp [tt+1] (λv3 h3 Fc=>?_);try refine run ?_
   refine Ys (zb:=by simp only[Cb,Gb,jd];omega) hsc Fc.rs (λv4 h4 hs4=>?_);rw[Oc,<-u9] at hs4;obtain⟨p4,n4,c4,rfl⟩:=hs4.sh;try refine run ?_
   exact D.rd (i+1,tt+1,p2,n2,c2,h2,p4,n4,c4,h4) ⟨by simp only[];omega,by simp only[];omega,Oa,hs4⟩ (by simp only[];omega)
  .obtain rfl:i=bs.length:=by omega
   rw[take_length] at nI;subst cZ;try refine run ?_
   rw[nil_append] at nI hsc;exact Wa [ue d (.slice p4 n4 c4) (t+bs.length),h4,mc gs,wH blk n (.slice pb lb cb) (.slice pc cG cc),hb,hc,hx] rfl rfl ⟨_,_,_,_,_,_,_,_,_,_,_,rfl,rfl,hs4,nI,hsc⟩
 .rcases mem_append.1 hx with hx|hx
  .exact hd.ok x hx
  .rw[mem_singleton.1 hx];exact⟨e3,e4,Dq _ _⟩
 .rw[Ae,Ae,hd.fs];rfl
def Sw{qs:List Ub}{t:Int}(yc:1099511627776<n):
  Ct prog 217 [d,n,u] [h,hx] (λr H'=>r= .int .i64 50/\H'=[h,hx]):=by
 refine cr func217 λg R=>?_;exact vj [h,hx]
def tu(ok:Ds qs)(hd:pg (qs.map Ub.pl) t d h)(hlt:∀q∈qs,q.n<n)(hn0:0<=n)(yc:n<=1099511627776)
  {bs:List UInt8}(hb:Rs bs u hx)(iM:bs.length<=1099511627776)(j3:64<=qs.length\/1048576<ru qs+bs.length):
  Ct prog 217 [d,n,u] [h,hx] (λr H'=>r= .int .i64 51/\H'=[h,hx]):=by
 have jg:=ok.len;have hu0:ru qs<=1048576:=ok.used;obtain⟨lv,gs,lh,hd,rfl⟩:=hd;have yQ:(gs.map Gf.gp).length=qs.length:=hd.len.trans (We _);have nO:(qs.map Ub.pl).length=qs.length:=We _;have Nn:=iy (d:=d) (t:=t) ok hd;have hr:=hd.sl.rs;have hfind:=Xv (d:=d) (t:=t) hd (n:=n) (λy hy=>by obtain⟨q,hq,rfl⟩:=mem_map.1 hy;exact hlt q hq) (by omega);unfold Wv at hfind;rw[nO] at hfind;obtain⟨lp,lc,rfl⟩:=hr.len;refine Ct.pack (pre:=[ue d (.slice lp (gs.map Gf.gp).length lc) t,lh,mc gs,hx]) (post:=λr H'=>r= .int .i64 51/\H'=[ue d (.slice lp (gs.map Gf.gp).length lc) t,lh,mc gs,hx]) ?_ (by simp) (λr H' ⟨e1,e2⟩=>⟨[ue d (.slice lp (gs.map Gf.gp).length lc) t++(lh++mc gs),hx],by rw[e2];simp,e1,rfl⟩);refine cr func217 λg R=>?_;refine cq hfind ?_;by_cases h64:64<=qs.length
 .try refine run ?_
  exact vj [ue d (.slice lp (gs.map Gf.gp).length lc) t,lh,mc gs,hx]
 .try refine run ?_
  refine cq Nn ?_;try refine run ?_
  exact vj [ue d (.slice lp (gs.map Gf.gp).length lc) t,lh,mc gs,hx]
def yH(ok:Ds qs)(hd:pg (qs.map Ub.pl) t d h){k:Nat}{q:Ub}(hq:qs[k]? =some q)(hn0:0<=q.n)(yc:q.n<=1099511627776)
  {bs:List UInt8}(hb:Rs bs u hx)(iM:bs.length<=1099511627776)(j3:1048576<ru qs+bs.length):
  Ct prog 217 [d,q.n,u] [h,hx] (λr H'=>r= .int .i64 51/\H'=[h,hx]):=by
 have jg:=ok.len;have hu0:ru qs<=1048576:=ok.used;obtain⟨lv,gs,lh,hd,rfl⟩:=hd;obtain⟨a,y0,b,e1,e,MJ⟩:=hd.gM (aq hq);have nO:(qs.map Ub.pl).length=qs.length:=We _;have Nn:=iy (d:=d) (t:=t) ok hd;have hr:=hd.sl.rs;have hn:y0.n=q.n:=congrArg Kn.n e;have hd':Zq (qs.map Ub.pl) lv (a++y0::b) lh:=by rw[<-e1];exact hd
 have hfind:=LJ (d:=d) (t:=t) hd' hd'.split (hd'.lt ok.Rw) (by omega);unfold Wv at hfind;rw[<-e1] at hfind;obtain⟨lp,lc,rfl⟩:=hr.len;rw[<-hn] at hn0 yc⊢;refine Ct.pack (pre:=[ue d (.slice lp (gs.map Gf.gp).length lc) t,lh,mc gs,hx]) (post:=λr H'=>r= .int .i64 51/\H'=[ue d (.slice lp (gs.map Gf.gp).length lc) t,lh,mc gs,hx]) ?_ (by simp) (λr H' ⟨e1,e2⟩=>⟨[ue d (.slice lp (gs.map Gf.gp).length lc) t++(lh++mc gs),hx],by rw[e2];simp,e1,rfl⟩);refine cr func217 λg R=>?_;refine cq hfind ?_;try refine run ?_
 refine cq Nn ?_;try refine run ?_
 exact vj [ue d (.slice lp (gs.map Gf.gp).length lc) t,lh,mc gs,hx]
variable{l:List Int}{m:Int}
def cnt(l:List Int)(m:Int):Nat:=(l.filter λx=>decide (x<=m)).length
def vT(l:List Int)(x m:Int):cnt (l++[x]) m=cnt l m+if x<=m then 1 else 0:=by
 unfold cnt;rw[filter_append,Cb];congr 1;by_cases h:x<=m
 .rw[if_pos h,filter_cons_of_pos (by simpa using h)];rfl
 .rw[if_neg h,filter_cons_of_neg (by simpa using h)];rfl
def jM(l:List Int)(m:Int):cnt l m<=l.length:=length_filter_le _ _
def zH(h:∀x∈l,x<=m):cnt l m=l.length:=by
 unfold cnt;rw[filter_eq_self.2 (λx hx=>by simpa using h x hx)]
def uu(h:∀x∈l,m<x):cnt l m=0:=by
 unfold cnt;rw[length_eq_zero_iff,filter_eq_nil_iff];intro x hx;have:=h x hx;simpa using this
def dZ{i:Nat}{y:Int}(h:l[i]? =some y)(hm:∀x∈l.take i,x<=m):∀x∈l.take (i+1),x<=max m y:=by
 intro x hx;rw[take_succ_eq_append_getElem (List.getElem?_eq_some_iff.1 h).1,(List.getElem?_eq_some_iff.1 h).2] at hx;rcases mem_append.1 hx with hx|hx
 .have:=hm x hx;omega
 .rw[mem_singleton.1 hx];omega
def eZ{v:Value}{h:Hp}(hr:Rs l v h)(hl:l.length<=1099511627776)(hp:∀x∈l,0<x/\x<=2199023255552){keep:Nat}(hk:keep<l.length):
  Ct prog 288 [v,.int .i64 (keep:Int)] [h] (λr H'=>∃m:Int,r= .int .i64 m/\H'=[h]/\0<=m/\cnt l m<=keep/\keep<cnt l (m+1)):=by
 refine cr func288 λg R=>?_;refine W.lo (α:=Nat×Nat) (λx=>x.1<=l.length/\1<=x.2/\x.2<=2199023255552/\∀y∈l.take x.1,y<=(x.2:Int)) (λx=>[(0,v),(1,.int .i64 (keep:Int)),(5,.int .i64 0),(6,.int .i64 (x.2:Int)),(7,.int .i64 (x.1:Int))]) (λ_=>[h,R]) (λx=>l.length - x.1) (0,1) ⟨Gi _,Nat.le_refl _,by decide,by simp⟩ ?_;rintro⟨i,hi⟩ ⟨h1,h2,h3,h4⟩;simp only[] at h1 h2 h3 h4⊢;by_cases hil:i<l.length
 .obtain⟨y,hy⟩:=Sh hil;have hyp:=hp y (mem_of_getElem? hy);have I6:=dZ hy h4;try refine run ?_
  refine D.as 6 (.int .i64 ((max hi y.toNat:Nat):Int)) rfl (by congr 1;split<;>omega) ?_;exact D.rd (i+1,max hi y.toNat) ⟨by simp only[];omega,by simp only[];omega,by simp only[];omega,λx hx=>by have:=I6 x hx;simp only[];omega⟩ (by simp only[];omega)
 .obtain rfl:i=l.length:=by omega
  rw[take_length] at h4;try refine run ?_
  refine W.lo (α:=Nat×Nat) (λx=>x.1<=x.2/\x.2<=2199023255552/\cnt l (x.1:Int)<=keep/\keep<cnt l ((x.2:Int)+1)) (λx=>[(0,v),(1,.int .i64 (keep:Int)),(5,.int .i64 (x.1:Int)),(6,.int .i64 (x.2:Int))]) (λ_=>[h,R]) (λx=>x.2 - x.1) (0,hi)
   ⟨Gi _,h3,by simp only[];rw[uu (λx hx=>by have:=hp x hx;simp only[Int.natCast_zero];omega)];omega,by simp only[];rw[zH (λx hx=>by have:=h4 x hx;omega)];exact hk⟩ ?_
  rintro⟨lo,hj⟩ ⟨g1,g2,g3,g4⟩;simp only[] at g1 g2 g3 g4⊢;by_cases hlt:lo<hj
  .repeat' first|refine run ?_|refine WX.kY (a:=lo+hj+1) (b:=2) rfl rfl (by omega) rfl (by decide) (by omega) rfl ?_
   generalize hm:(lo+hj+1)/2=m;have Ji:lo<m/\m<=hj:=by omega
   refine W.lo (α:=Nat) (λi=>i<=l.length) (λi=>[(0,v),(1,.int .i64 (keep:Int)),(5,.int .i64 (lo:Int)),(6,.int .i64 (hj:Int)),(8,.int .i64 (m:Int)),(9,.int .i64 (cnt (l.take i) (m:Int):Int)),(10,.int .i64 (i:Int))]) (λ_=>[h,R]) (λi=>l.length - i) 0 (Gi _) ?_;intro i h5;have mh:=jM (l.take i) (m:Int);rw[Fe] at mh;by_cases hil:i<l.length
   .obtain⟨y,hy⟩:=Sh hil
    have uq:cnt (l.take (i+1)) (m:Int)=cnt (l.take i) (m:Int)+if y<=(m:Int) then 1 else 0:=by
     rw[take_succ_eq_append_getElem hil,(List.getElem?_eq_some_iff.1 hy).2,vT]
    by_cases hym:y<=(m:Int)
    .rw[if_pos hym] at uq;try refine run ?_
     refine D.as 9 (.int .i64 (cnt (l.take (i+1)) (m:Int):Int)) rfl (by rw[uq];rfl) ?_;exact D.re (i+1)
    .rw[if_neg hym] at uq;try refine run ?_
     refine D.as 9 (.int .i64 (cnt (l.take (i+1)) (m:Int):Int)) rfl (by rw[uq];rfl) ?_;exact D.re (i+1)
   .obtain rfl:i=l.length:=by omega
    rw[take_length] at mh⊢;by_cases hc:cnt l (m:Int)<=keep
    .try refine run ?_
     exact D.rd (m,hj) ⟨by simp only[];omega,g2,hc,g4⟩ (by simp only[];omega)
    .try refine run ?_
     refine D.as 6 (.int .i64 ((m - 1:Nat):Int)) rfl (by congr 1;omega) ?_;exact D.rd (lo,m - 1) ⟨by simp only[];omega,by simp only[];omega,g3,by simp only[];rw[show(((m - 1:Nat):Int)+1)=(m:Int) by omega];omega⟩ (by simp only[];omega)
  .obtain rfl:lo=hj:=by omega
   try refine run ?_
   exact Wa [h] rfl rfl ⟨_,rfl,rfl,Int.natCast_nonneg _,g3,g4⟩
variable{i:Nat}
def Ub.tw(q:Ub)(last:Int):Nat:=(q.ts.takeWhile λx=>decide (x<=last)).length
def Ub.kp(q:Ub)(last:Int):Nat:=q.s+q.tw last
def Ub.Pb(q:Ub)(last:Int):Ub:=q.cut (q.kp last)
def D4(l:List Int)(m:Int):(l.takeWhile λx=>decide (x<=m)).length<=l.length:=(takeWhile_sublist _).length_le
def wT{m:Int}:∀{l:List Int} {j:Nat} {x:Int},l[j]? =some x->(j<(l.takeWhile λx=>decide (x<=m)).length->x<=m)/\(j=(l.takeWhile λx=>decide (x<=m)).length->m<x)
 |[],j,x,h=>by simp at h
 |y::t,j,x,h=>by
  by_cases hy:y<=m
  .rw[takeWhile_cons_of_pos (by simpa using hy),Gb]
   cases j with
   |zero=>cases h;exact⟨λ_=>hy,λe=>by omega⟩
   |succ j=>
    obtain⟨h1,h2⟩:=wT (m:=m) (l:=t) (j:=j) (x:=x) (by simpa using h);exact⟨λe=>h1 (by omega),λe=>h2 (by omega)⟩
  .rw[takeWhile_cons_of_neg (by simpa using hy),jd]
   cases j with
   |zero=>cases h;exact⟨λe=>by omega,λ_=>by omega⟩
   |succ j=>exact⟨λe=>by omega,λe=>by omega⟩
def Ub.sX{q:Ub}(h:q.Ok)(last:Int):q.kp last<=q.b.length:=by
 have h1:=h.e;have h2:=D4 q.ts last;unfold Ub.kp Ub.tw;omega
def Ub.at{q:Ub}(h:q.Ok){last:Int}(h0:0<=last){j:Nat}{x:Int}(hx:(List.replicate q.s (0:Int)++q.ts)[j]? =some x):(j<q.kp last->x<=last)/\(j=q.kp last->last<x):=by
 unfold Ub.kp Ub.tw;rcases Nat.lt_or_ge j q.s with hj|hj
 .rw[List.getElem?_append_left (by simpa using hj)] at hx
  have:x=0:=by
   have:=mem_of_getElem? hx;rw[mem_replicate] at this;exact this.2
  exact⟨λ_=>by omega,λe=>by omega⟩
 .rw[List.getElem?_append_right (by simpa using hj),length_replicate] at hx;obtain⟨h1,h2⟩:=wT (m:=last) hx;exact⟨λe=>h1 (by omega),λe=>h2 (by omega)⟩
def Ve(qs:List Ub):List Int:=(qs.map Ub.ts).flatten
def wj(qs:List Ub)(last:Int)(i:Nat):List Ub:=(qs.take i).map (λq=>q.Pb last)++qs.drop i
def xT{last:Int}{q:Ub}(h:qs[i]? =some q):(wj qs last i)[i]? =some q/\(wj qs last i).set i (q.Pb last)=wj qs last (i+1):=by
 obtain⟨h1,h2⟩:=List.getElem?_eq_some_iff.1 h;have hl:((qs.take i).map (λq=>q.Pb last)).length=i:=by rw[We,Fe];omega
 unfold wj;have hd:qs.drop i=q::qs.drop (i+1):=by rw[drop_eq_getElem_cons h1,h2]
 constructor
 .rw[List.getElem?_append_right (by omega),hl,Nat.sub_self,hd];rfl
 .rw[set_append_right _ _ (by omega),hl,Nat.sub_self,hd,set_cons_zero,take_succ_eq_append_getElem h1,h2,Ae,Oc];rfl
def GN{last:Int}(h:i<=qs.length):(wj qs last i).length=qs.length:=by
 unfold wj;rw[Cb,We,Fe,length_drop];omega
def tX(qs:List Ub)(last:Int):Nat:=(qs.map λq=>q.b.length - q.kp last).sum
def uA(qs:List Ub)(t:Int)(keep:Nat)(last:Int):Prop:=
 0<=last/\((Ve qs).length<=keep->last=t)/\(keep<(Ve qs).length->cnt (Ve qs) last<=keep/\keep<cnt (Ve qs) (last+1))
def wW(ok:Ds qs):(Ve qs).length<=1048576:=by
 have h1:∀l:List Ub,(∀q∈l,q.Ok)->(Ve l).length<=(l.map λq=>q.b.length).sum:=by
  intro l
  induction l with
  |nil=>intro _;exact Nat.le_refl _
  |cons x r ih=>
   intro hx;have h2:=(hx x (zf ..)).e;have h3:=ih λy hy=>hx y (Rn _ hy);unfold Ve at h3⊢;simp only[map_cons,flatten_cons,Cb,sum_cons];omega
 have:=h1 qs ok.ok;have:=ok.used;omega
def gq{α:Type}(f:α->Nat)(l:List α)(k:Nat):((l.take k).map f).sum<=(l.map f).sum:=by
 conv=>rhs;rw[<-take_append_drop k l]
 rw[Ae,sum_append];omega
def Es{α:Type}(f f':α->Nat):∀(l:List α),(∀x∈l,f x<=f' x)->(l.map f).sum<=(l.map f').sum
 |[],_=>Nat.le_refl _
 |x::t,h=>by
  have h1:=h x (zf ..);have h2:=Es f f' t λy hy=>h y (Rn _ hy);simp only[map_cons,sum_cons];omega
def XO{qs:List Ub}(ok:Ds qs){t:Int}(zL:0<=t)(ht1:t<=1099511627776)(hT:∀x∈Ve qs,x<=t){d:Nat}{h:Hp}(hd:pg (qs.map Ub.pl) t d h){keep:Int}(Lt: -9223372036854775808<=keep)(hk2:keep<=9223372036854775807):
  Ct prog 253 [d,keep] [h] (λr H'=>∃(last:Int) (h':Hp),r= .int .i64 (tX qs last:Int)/\H'=[h']/\pg ((qs.map λq=>q.Pb last).map Ub.pl) t d h'/\uA qs t keep.toNat last):=by
 have jg:=ok.len;have haT:=wW ok;obtain⟨lv,gs,lh,hd,rfl⟩:=hd;have hr:=hd.sl.rs;have yQ:(gs.map Gf.gp).length=qs.length:=hd.len.trans (We _);obtain⟨lp,lc,rfl⟩:=hr.len
 refine Ct.pack (pre:=[ue d (.slice lp (gs.map Gf.gp).length lc) t,lh,mc gs]) (post:=λr H'=>∃(last:Int) (gs':List Gf),r= .int .i64 (tX qs last:Int)/\H'=[ue d (.slice lp (gs.map Gf.gp).length lc) t,lh,mc gs']/\Zq ((qs.map λq=>q.Pb last).map Ub.pl) (.slice lp (gs.map Gf.gp).length lc) gs' lh/\uA qs t keep.toNat last) ?_ (by simp)
  (λr H' ⟨last,gs',e1,e2,e3,e4⟩=>⟨[[ue d (.slice lp (gs.map Gf.gp).length lc) t,lh,mc gs'].flatten],by rw[e2];simp,last,_,e1,rfl,⟨_,gs',lh,e3,by simp⟩,e4⟩)
 refine cr func253 λg R=>?_;refine W.as 1 (.int .i64 (keep.toNat:Int)) rfl (by congr 1;split<;>omega) ?_;refine W.Ke ?_
 refine W.lo (α:=Nat×Value×Hp) (λx=>x.1<=qs.length/\ia 3 (Ve (qs.take x.1)) x.2.1 x.2.2) (λx=>[(0,d),(1,.int .i64 (keep.toNat:Int)),(5,x.2.1),(6,.int .i64 (x.1:Int))])
  (λx=>[x.2.2,ue d (.slice lp (gs.map Gf.gp).length lc) t,lh,mc gs,R]) (λx=>qs.length - x.1) (0,.slice none 0 0,[]) ⟨Gi _,ia.nil _⟩ ?_
 rintro⟨i,u,hu⟩ ⟨hi,hsu⟩;simp only[] at hi hsu⊢;by_cases hil:i<qs.length
 .obtain⟨q,hq⟩:=Sh hil;obtain⟨a',g',b',bG,tT,fM,rW⟩:=hd.nth (aq hq);have KU:=mem_of_getElem? hq;have zD:=ok.ok q KU;have o9:=zD.e;have iM:=ok.bl KU;have xH:=Ub.B4 zD;have hrb:=fM.b.rs;have hrc:=fM.c.rs;have hgb:g'.b=q.b:=congrArg Kn.b tT;have w9:g'.cm=List.replicate q.s 0++q.ts:=congrArg Kn.cm tT;have Daa:g'.b.length=q.b.length:=by rw[hgb]
  have Eaa:g'.cm.length=q.b.length:=by rw[w9];exact xH
  have hd':Zq (qs.map Ub.pl) (.slice lp (gs.map Gf.gp).length lc) (a'++g'::b') lh:=by rw[<-bG];exact hd
  have E4:=AP (d:=d) (t:=t) hd' ok.Rw (by rw[We];omega) w9 zD.p (by omega)
  have hTn:Ve (qs.take (i+1))=Ve (qs.take i)++q.ts:=by
   unfold Ve;rw[take_succ_eq_append_getElem hil,(List.getElem?_eq_some_iff.1 hq).2,Ae,flatten_append];simp
  have hTl:(Ve (qs.take i)).length<=1048576:=by
   refine Nat.le_trans ?_ haT;unfold Ve
   conv=>rhs;rw[<-take_append_drop i qs]
   rw[Ae,flatten_append,Cb];omega
  refine W.flat (H':=[hu,ue d (.slice lp (gs.map Gf.gp).length lc) t,lh,mc a',g'.bk,g'.hb,g'.hc,mc b',R]) (by rw[bG,Za];simp) ?_;try refine run ?_
  refine cq E4 ?_;try refine run ?_
  refine W.lo (α:=Nat×Value×Hp) (λx=>x.1<=q.ts.length/\ia 3 (Ve (qs.take i)++q.ts.take x.1) x.2.1 x.2.2) (λx=>[(0,d),(1,.int .i64 (keep.toNat:Int)),(5,x.2.1),(6,.int .i64 (i:Int)),(7,.int .i64 ((q.s+x.1:Nat):Int))])
   (λx=>[x.2.2,ue d (.slice lp (gs.map Gf.gp).length lc) t,lh,mc a',g'.bk,g'.hb,g'.hc,mc b',R]) (λx=>q.ts.length - x.1) (0,u,hu) ⟨Gi _,by simpa using hsu⟩ ?_
  rintro⟨j,w,hw⟩ ⟨hj,hsw⟩;simp only[] at hj hsw⊢;by_cases hjl:j<q.ts.length
  .obtain⟨x,hx⟩:=Sh hjl;have hxc:g'.cm[q.s+j]? =some x:=by rw[w9,List.getElem?_append_right (by simp)];simpa using hx
   have O6:q.ts.take (j+1)=q.ts.take j++[x]:=by rw[take_succ_eq_append_getElem hjl,(List.getElem?_eq_some_iff.1 hx).2]
   try refine run ?_
   refine Kp [x] (λv1 h1 hs1=>?_);refine Ys (zb:=by simp only[Cb,Fe,Gb,jd];omega) hsw hs1.rs (λv2 h2 Oa=>?_);rw[Oc,<-O6] at Oa;try refine run ?_
   exact D.rd (j+1,v2,h2) ⟨by simp only[];omega,Oa⟩ (by simp only[];omega)
  .obtain rfl:j=q.ts.length:=by omega
   rw[take_length,<-hTn] at hsw;try refine run ?_
   refine D.flat (H':=[hw,ue d (.slice lp (gs.map Gf.gp).length lc) t,lh,mc gs,R]) (by rw[bG,Za];simp) ?_;exact D.rd (i+1,w,hw) ⟨by simp only[];omega,hsw⟩ (by simp only[];omega)
 .obtain rfl:i=qs.length:=by omega
  rw[take_length] at hsu;have hru:=hsu.rs
  have hpT:∀x∈Ve qs,0<x/\x<=2199023255552:=λx hx=>by
   refine⟨?_,by have:=hT x hx;omega⟩;unfold Ve at hx;obtain⟨l,hl,Wx⟩:=mem_flatten.1 hx;obtain⟨q,hq,rfl⟩:=mem_map.1 hl;exact(ok.ok q hq).p x Wx
  by_cases hkT:keep.toNat<(Ve qs).length
  .try refine run ?_
   refine ck (eZ hru (by omega) hpT hkT) ?_;rintro _ _ ⟨last,rfl,rfl,hl0,Pf,Vy⟩;have vA:uA qs t keep.toNat last:=⟨hl0,λh=>by omega,λ_=>⟨Pf,Vy⟩⟩;refine rn ?_
   refine W.lo (α:=Nat×List Gf) (λx=>x.1<=qs.length/\Zq ((wj qs last x.1).map Ub.pl) (.slice lp (gs.map Gf.gp).length lc) x.2 lh)
    (λx=>[(0,d),(8,.int .i64 last),(9,.int .i64 ((((qs.take x.1).map λq=>q.b.length - q.kp last).sum:Nat):Int)),(10,.int .i64 (x.1:Int))])
    (λx=>[ue d (.slice lp (gs.map Gf.gp).length lc) t,lh,mc x.2,R]) (λx=>qs.length - x.1) (0,gs) ⟨Gi _,hd⟩ ?_
   rintro⟨i,gs'⟩ ⟨hi,Ip⟩;simp only[] at hi Ip⊢;have fZ:=Ip.sl.rs;have x9:(gs'.map Gf.gp).length=qs.length:=Ip.len.trans ((We _).trans (GN hi));have y9:=gq (λq:Ub=>q.b.length - q.kp last) qs i
   have A9:(qs.map λq=>q.b.length - q.kp last).sum<=1048576:=by
    refine Nat.le_trans ?_ ok.used;exact Es _ _ _ λq _=>Nat.sub_le _ _
   by_cases hil:i<qs.length
   .obtain⟨q,hq⟩:=Sh hil;obtain⟨yT,zT⟩:=xT (last:=last) hq;obtain⟨a,y0,b,rfl,e,MJ⟩:=Ip.gM (aq yT);obtain⟨hok,gZ⟩:=Ip.me;rw[MJ] at gZ;have KU:=mem_of_getElem? hq;have zD:=ok.ok q KU;have iM:=ok.bl KU;have xH:=Ub.B4 zD;have hkp:=Ub.sX zD last;have hrb:=hok.b.rs;have yK:y0.b=q.b:=congrArg Kn.b e;have VA:y0.n=q.n:=congrArg Kn.n e;have bZ:y0.b.length=q.b.length:=by rw[yK]
    have qx:y0.cm=List.replicate q.s (0:Int)++q.ts:=congrArg Kn.cm e;have F4:y0.cm.length=q.b.length:=by rw[qx];exact xH
    have uq:((qs.take (i+1)).map λq=>q.b.length - q.kp last).sum=((qs.take i).map λq=>q.b.length - q.kp last).sum+(q.b.length - q.kp last):=by
     rw[take_succ_eq_append_getElem hil,(List.getElem?_eq_some_iff.1 hq).2];simp
    refine W.flat (H':=[ue d (.slice lp (gs.map Gf.gp).length lc) t,lh,mc a,y0.bk,y0.hb,y0.hc,mc b,R]) (by rw[Za];simp) ?_;try refine run ?_
    refine W.lo (α:=Nat×Hp) (λx=>x.1<=q.kp last/\ia 3 (List.replicate x.1 (0:Int)++y0.cm.drop x.1) (.slice y0.pc y0.lc y0.cc) x.2)
     (λx=>[(0,d),(8,.int .i64 last),(9,.int .i64 ((((qs.take i).map λq=>q.b.length - q.kp last).sum:Nat):Int)),(10,.int .i64 (i:Int)),(11,y0.blk),(12,.int .i64 (x.1:Int))])
     (λx=>[ue d (.slice lp (gs.map Gf.gp).length lc) t,lh,mc a,y0.bk,y0.hb,x.2,mc b,R]) (λx=>q.kp last+1 - x.1) (0,y0.hc) ⟨Gi _,by simpa using hok.c⟩ ?_
    rintro⟨n,Vj⟩ ⟨hn,hsc⟩;simp only[] at hn hsc⊢;have hrc:=hsc.rs;have PK:(List.replicate n (0:Int)++y0.cm.drop n).length=y0.cm.length:=by rw[Cb,length_replicate,length_drop];omega
    have Gy:∀x,(List.replicate n (0:Int)++y0.cm.drop n)[n]? =some x->(List.replicate q.s (0:Int)++q.ts)[n]? =some x:=λx hx=>by
     rw[List.getElem?_append_right (by simp),length_replicate,Nat.sub_self,List.getElem?_drop,Nat.add_zero,qx] at hx;exact hx
    by_cases hnk:n<q.kp last
    .obtain⟨x,hx⟩:∃x,(List.replicate n (0:Int)++y0.cm.drop n)[n]? =some x:=⟨_,oh (by omega)⟩;have Wx:=(Ub.at zD vA.1 (Gy x hx)).1 hnk;have hst:=sA (cm:=y0.cm) (k:=n) (by omega);try refine run ?_
     refine WX.ko (y':=(0:Int)) (vs:=[.int .i64 0]) rfl rfl rfl hsc hx rfl rfl rfl rfl rfl (λh2 Oa=>?_);rw[hst] at Oa;try refine run ?_
     exact D.rd (n+1,h2) ⟨by simp only[];omega,Oa⟩ (by simp only[];omega)
    .obtain rfl:n=q.kp last:=by omega
     have vK:=hok.b.to (m:=q.kp last) (by omega);have hc2:=hsc.to (m:=q.kp last) (by omega);rw[take_left' (by simp)] at hc2;have hnew:=Ip.put (y1:=⟨y0.n,y0.b.take (q.kp last),List.replicate (q.kp last) 0,y0.blk,y0.pb,q.kp last,y0.cb,y0.hb,y0.pc,q.kp last,y0.cc,Vj⟩) rfl ⟨vK,hc2,by simp only[length_replicate,Fe];omega⟩;rw[qu yT Ip.split.symm MJ (q1:=q.Pb last) (by unfold Gf.pl Ub.pl Ub.Pb Ub.cut;simp[VA,yK]),zT] at hnew;by_cases hnb:q.kp last<q.b.length
     .obtain⟨x,hx⟩:∃x,(List.replicate (q.kp last) (0:Int)++y0.cm.drop (q.kp last))[q.kp last]? =some x:=⟨_,oh (by omega)⟩;have Wx:=(Ub.at zD vA.1 (Gy x hx)).2 rfl;try refine run ?_
      refine D.as 9 (.int .i64 ((((qs.take (i+1)).map λq=>q.b.length - q.kp last).sum:Nat):Int)) rfl (by rw[uq];congr 1;omega) ?_;refine D.flat (H':=[ue d (.slice lp (gs.map Gf.gp).length lc) t,lh,mc (a++⟨y0.n,y0.b.take (q.kp last),List.replicate (q.kp last) 0,y0.blk,y0.pb,q.kp last,y0.cb,y0.hb,y0.pc,q.kp last,y0.cc,Vj⟩::b),R]) (by rw[Za];simp[qo]) ?_;exact D.rd (i+1,a++⟨y0.n,y0.b.take (q.kp last),List.replicate (q.kp last) 0,y0.blk,y0.pb,q.kp last,y0.cb,y0.hb,y0.pc,q.kp last,y0.cc,Vj⟩::b) ⟨by simp only[];omega,hnew⟩ (by simp only[];omega)
     .try refine run ?_
      refine D.as 9 (.int .i64 ((((qs.take (i+1)).map λq=>q.b.length - q.kp last).sum:Nat):Int)) rfl (by rw[uq];congr 1;omega) ?_;refine D.flat (H':=[ue d (.slice lp (gs.map Gf.gp).length lc) t,lh,mc (a++⟨y0.n,y0.b.take (q.kp last),List.replicate (q.kp last) 0,y0.blk,y0.pb,q.kp last,y0.cb,y0.hb,y0.pc,q.kp last,y0.cc,Vj⟩::b),R]) (by rw[Za];simp[qo]) ?_;exact D.rd (i+1,a++⟨y0.n,y0.b.take (q.kp last),List.replicate (q.kp last) 0,y0.blk,y0.pb,q.kp last,y0.cb,y0.hb,y0.pc,q.kp last,y0.cc,Vj⟩::b) ⟨by simp only[];omega,hnew⟩ (by simp only[];omega)
   .obtain rfl:i=qs.length:=by omega
    have By:wj qs last qs.length=qs.map (λq=>q.Pb last):=by unfold wj;rw[take_length,drop_length,append_nil]
    rw[By] at Ip;rw[take_length];try refine run ?_
    exact Wa [ue d (.slice lp (gs.map Gf.gp).length lc) t,lh,mc gs'] rfl rfl ⟨last,gs',rfl,rfl,Ip,vA⟩
  .obtain⟨last,hlt⟩:∃last,last=t:=⟨t,rfl⟩;have vA:uA qs t keep.toNat last:=⟨by omega,λ_=>hlt,λh=>absurd h hkT⟩;try refine run ?_
   refine W.as 8 (.int .i64 last) rfl (by rw[hlt]) ?_
   refine W.lo (α:=Nat×List Gf) (λx=>x.1<=qs.length/\Zq ((wj qs last x.1).map Ub.pl) (.slice lp (gs.map Gf.gp).length lc) x.2 lh)
    (λx=>[(0,d),(8,.int .i64 last),(9,.int .i64 ((((qs.take x.1).map λq=>q.b.length - q.kp last).sum:Nat):Int)),(10,.int .i64 (x.1:Int))])
    (λx=>[ue d (.slice lp (gs.map Gf.gp).length lc) t,lh,mc x.2,R]) (λx=>qs.length - x.1) (0,gs) ⟨Gi _,hd⟩ ?_
   rintro⟨i,gs'⟩ ⟨hi,Ip⟩;simp only[] at hi Ip⊢;have fZ:=Ip.sl.rs;have x9:(gs'.map Gf.gp).length=qs.length:=Ip.len.trans ((We _).trans (GN hi));have y9:=gq (λq:Ub=>q.b.length - q.kp last) qs i
   have A9:(qs.map λq=>q.b.length - q.kp last).sum<=1048576:=by
    refine Nat.le_trans ?_ ok.used;exact Es _ _ _ λq _=>Nat.sub_le _ _
   by_cases hil:i<qs.length
   .obtain⟨q,hq⟩:=Sh hil;obtain⟨yT,zT⟩:=xT (last:=last) hq;obtain⟨a,y0,b,rfl,e,MJ⟩:=Ip.gM (aq yT);obtain⟨hok,gZ⟩:=Ip.me;rw[MJ] at gZ;have KU:=mem_of_getElem? hq;have zD:=ok.ok q KU;have iM:=ok.bl KU;have xH:=Ub.B4 zD;have hkp:=Ub.sX zD last;have hrb:=hok.b.rs;have yK:y0.b=q.b:=congrArg Kn.b e;have VA:y0.n=q.n:=congrArg Kn.n e;have bZ:y0.b.length=q.b.length:=by rw[yK]
    have qx:y0.cm=List.replicate q.s (0:Int)++q.ts:=congrArg Kn.cm e;have F4:y0.cm.length=q.b.length:=by rw[qx];exact xH
    have uq:((qs.take (i+1)).map λq=>q.b.length - q.kp last).sum=((qs.take i).map λq=>q.b.length - q.kp last).sum+(q.b.length - q.kp last):=by
     rw[take_succ_eq_append_getElem hil,(List.getElem?_eq_some_iff.1 hq).2];simp
    refine W.flat (H':=[ue d (.slice lp (gs.map Gf.gp).length lc) t,lh,mc a,y0.bk,y0.hb,y0.hc,mc b,R]) (by rw[Za];simp) ?_;try refine run ?_
    refine W.lo (α:=Nat×Hp) (λx=>x.1<=q.kp last/\ia 3 (List.replicate x.1 (0:Int)++y0.cm.drop x.1) (.slice y0.pc y0.lc y0.cc) x.2)
     (λx=>[(0,d),(8,.int .i64 last),(9,.int .i64 ((((qs.take i).map λq=>q.b.length - q.kp last).sum:Nat):Int)),(10,.int .i64 (i:Int)),(11,y0.blk),(12,.int .i64 (x.1:Int))])
     (λx=>[ue d (.slice lp (gs.map Gf.gp).length lc) t,lh,mc a,y0.bk,y0.hb,x.2,mc b,R]) (λx=>q.kp last+1 - x.1) (0,y0.hc) ⟨Gi _,by simpa using hok.c⟩ ?_
    rintro⟨n,Vj⟩ ⟨hn,hsc⟩;simp only[] at hn hsc⊢;have hrc:=hsc.rs;have PK:(List.replicate n (0:Int)++y0.cm.drop n).length=y0.cm.length:=by rw[Cb,length_replicate,length_drop];omega
    have Gy:∀x,(List.replicate n (0:Int)++y0.cm.drop n)[n]? =some x->(List.replicate q.s (0:Int)++q.ts)[n]? =some x:=λx hx=>by
     rw[List.getElem?_append_right (by simp),length_replicate,Nat.sub_self,List.getElem?_drop,Nat.add_zero,qx] at hx;exact hx
    by_cases hnk:n<q.kp last
    .obtain⟨x,hx⟩:∃x,(List.replicate n (0:Int)++y0.cm.drop n)[n]? =some x:=⟨_,oh (by omega)⟩;have Wx:=(Ub.at zD vA.1 (Gy x hx)).1 hnk;have hst:=sA (cm:=y0.cm) (k:=n) (by omega);try refine run ?_
     refine WX.ko (y':=(0:Int)) (vs:=[.int .i64 0]) rfl rfl rfl hsc hx rfl rfl rfl rfl rfl (λh2 Oa=>?_);rw[hst] at Oa;try refine run ?_
     exact D.rd (n+1,h2) ⟨by simp only[];omega,Oa⟩ (by simp only[];omega)
    .obtain rfl:n=q.kp last:=by omega
     have vK:=hok.b.to (m:=q.kp last) (by omega);have hc2:=hsc.to (m:=q.kp last) (by omega);rw[take_left' (by simp)] at hc2;have hnew:=Ip.put (y1:=⟨y0.n,y0.b.take (q.kp last),List.replicate (q.kp last) 0,y0.blk,y0.pb,q.kp last,y0.cb,y0.hb,y0.pc,q.kp last,y0.cc,Vj⟩) rfl ⟨vK,hc2,by simp only[length_replicate,Fe];omega⟩;rw[qu yT Ip.split.symm MJ (q1:=q.Pb last) (by unfold Gf.pl Ub.pl Ub.Pb Ub.cut;simp[VA,yK]),zT] at hnew;by_cases hnb:q.kp last<q.b.length
     .obtain⟨x,hx⟩:∃x,(List.replicate (q.kp last) (0:Int)++y0.cm.drop (q.kp last))[q.kp last]? =some x:=⟨_,oh (by omega)⟩;have Wx:=(Ub.at zD vA.1 (Gy x hx)).2 rfl;try refine run ?_
      refine D.as 9 (.int .i64 ((((qs.take (i+1)).map λq=>q.b.length - q.kp last).sum:Nat):Int)) rfl (by rw[uq];congr 1;omega) ?_;refine D.flat (H':=[ue d (.slice lp (gs.map Gf.gp).length lc) t,lh,mc (a++⟨y0.n,y0.b.take (q.kp last),List.replicate (q.kp last) 0,y0.blk,y0.pb,q.kp last,y0.cb,y0.hb,y0.pc,q.kp last,y0.cc,Vj⟩::b),R]) (by rw[Za];simp[qo]) ?_;exact D.rd (i+1,a++⟨y0.n,y0.b.take (q.kp last),List.replicate (q.kp last) 0,y0.blk,y0.pb,q.kp last,y0.cb,y0.hb,y0.pc,q.kp last,y0.cc,Vj⟩::b) ⟨by simp only[];omega,hnew⟩ (by simp only[];omega)
     .try refine run ?_
      refine D.as 9 (.int .i64 ((((qs.take (i+1)).map λq=>q.b.length - q.kp last).sum:Nat):Int)) rfl (by rw[uq];congr 1;omega) ?_;refine D.flat (H':=[ue d (.slice lp (gs.map Gf.gp).length lc) t,lh,mc (a++⟨y0.n,y0.b.take (q.kp last),List.replicate (q.kp last) 0,y0.blk,y0.pb,q.kp last,y0.cb,y0.hb,y0.pc,q.kp last,y0.cc,Vj⟩::b),R]) (by rw[Za];simp[qo]) ?_;exact D.rd (i+1,a++⟨y0.n,y0.b.take (q.kp last),List.replicate (q.kp last) 0,y0.blk,y0.pb,q.kp last,y0.cb,y0.hb,y0.pc,q.kp last,y0.cc,Vj⟩::b) ⟨by simp only[];omega,hnew⟩ (by simp only[];omega)
   .obtain rfl:i=qs.length:=by omega
    have By:wj qs last qs.length=qs.map (λq=>q.Pb last):=by unfold wj;rw[take_length,drop_length,append_nil]
    rw[By] at Ip;rw[take_length];try refine run ?_
    exact Wa [ue d (.slice lp (gs.map Gf.gp).length lc) t,lh,mc gs'] rfl rfl ⟨last,gs',rfl,rfl,Ip,vA⟩
variable{α β:Type}{R:α->β->Prop}{l:List α}{m:List β}{a:α}
def Lf.s7(f:Lf):Nat:=(bytes (f.rs.take f.k)).length
structure FR(f:Lf)(q:Ub):Prop where
 n:q.n=f.n
 b:q.b=bytes f.rs
 s:q.s=f.s7
 e:q.s+q.ts.length=q.b.length
inductive Pk{α β:Type}(R:α->β->Prop):List α->List β->Prop
 |nil:Pk R [] []
 |cons {a:α} {b:β} {l:List α} {m:List β} (h:R a b) (t:Pk R l m):Pk R (a::l) (b::m)
def Pk.len(h:Pk R l m):l.length=m.length:=by
 induction h with
 |nil=>rfl
 |cons _ _ ih=>simp[ih]
def Pk.app{l':List α}{m':List β}(h:Pk R l m)(k:Pk R l' m'):Pk R (l++l') (m++m'):=by
 induction h with
 |nil=>exact k
 |cons a _ ih=>exact .cons a ih
def Pk.map_eq{γ:Type}{f:α->γ}{f':β->γ}(hf:∀a b,R a b->f' b=f a)(h:Pk R l m):m.map f'=l.map f:=by
 induction h with
 |nil=>rfl
 |cons a _ ih=>rw[map_cons,map_cons,ih,hf _ _ a]
def Pk.get(h:Pk R l m){i:Nat}{b:β}(ha:l[i]? =some a)(hb:m[i]? =some b):R a b:=by
 induction h generalizing i with
 |nil=>simp at ha
 |cons x _ ih=>
  cases i with
  |zero=>cases ha;cases hb;exact x
  |succ i=>exact ih (by simpa using ha) (by simpa using hb)
def Pk.SJ(h:Pk R (l++[a]) m):∃m' b,m=m'++[b]/\Pk R l m'/\R a b:=by
 induction l generalizing m with
 |nil=>
  cases h with
  |cons x t=>cases t;exact⟨[],_,rfl,.nil,x⟩
 |cons y r ih=>
  cases h with
  |cons x t=>
   obtain⟨m',b,rfl,h1,h2⟩:=ih t;exact⟨_::m',b,rfl,.cons x h1,h2⟩
structure LR(l:List Lf)(qs:List Ub)(t:Int):Prop where
 m:Pk FR l qs
 inc:(Ve qs).Pairwise (· < ·)
 pos:∀x∈Ve qs,0<x/\x<=t
 t0:0<=t
section
variable{l:List Lf}{qs:List Ub}{t:Int}
def AT{qs:List Ub}{q:Ub}(hq:q∈qs){x:Int}(hx:x∈q.ts):x∈Ve qs:=mem_flatten.2 ⟨q.ts,mem_map.2 ⟨q,hq,rfl⟩,hx⟩
def LR.names(h:LR l qs t):qs.map (·.n)=l.map (·.n):=h.m.map_eq λ_ _ x=>x.n
def LR.lens(h:LR l qs t):(qs.map λq=>q.b.length)=l.map λf=>(bytes f.rs).length:=h.m.map_eq λ_ _ x=>by rw[x.b]
def LR.fr(h:LR l qs t){q:Ub}(hq:q∈qs):∃f∈l,FR f q:=by
 obtain⟨i,hi⟩:=mem_iff_getElem?.1 hq;have hlt:=(List.getElem?_eq_some_iff.1 hi).1;have hl:=h.m.len;refine⟨l[i],getElem_mem (by omega),h.m.get (oh (by omega)) hi⟩
def LR.q(h:LR l qs t)(ok:Ku l):Ds qs where
 up:=by rw[h.names];exact pairwise_map.2 ok.up
 ok:=λq hq=>by
  obtain⟨f,_,hf⟩:=h.fr hq;exact⟨hf.e,λx hx=>(h.pos x (AT hq hx)).1⟩
 used:=by rw[h.lens];have:=ok.used;rw[Qe] at this;exact this
 len:=by have:=ok.len;rw[h.m.len] at this;exact this
def LR.used(h:LR l qs t):ru qs=(dk l).used:=by unfold ru;rw[h.lens,Qe]
def LR.nil:LR [] [] 0:=⟨.nil,.nil,by simp[Ve],Int.le_refl 0⟩
def HN{t:Int}{k:Nat}{x:Int}(h:x∈Cq t k):t<x/\x<=t+k:=by
 unfold Cq at h;obtain⟨i,hi,rfl⟩:=mem_map.1 h;have:=mem_range.1 hi;omega
def iZ(t:Int)(k:Nat):(Cq t k).Pairwise (· < ·):=by
 unfold Cq;rw[pairwise_map];exact List.Pairwise.imp (λh=>by omega) pairwise_lt_range
def Qk(a b:List Ub):Ve (a++b)=Ve a++Ve b:=by unfold Ve;rw[Ae,flatten_append]
def Bi(q:Ub):Ve [q]=q.ts:=by unfold Ve;simp
def LR.times{T:List Int}{t:Int}(hi:T.Pairwise (· < ·))(hp:∀x∈T,0<x/\x<=t)(h0:0<=t)(k:Nat):(T++Cq t k).Pairwise (· < ·)/\∀x∈T++Cq t k,0<x/\x<=t+k:=by
 refine⟨pairwise_append.2 ⟨hi,iZ t k,λa ha b hb=>?_⟩,λx hx=>?_⟩
 .have h1:=hp a ha;have h2:=HN hb;omega
 .rcases mem_append.1 hx with hx|hx
  .have:=hp x hx;omega
  .have:=HN hx;omega
def LR.new(h:LR l qs t)(n:Int)(r:Rec):LR (l++[⟨n,[r],0⟩]) (qs++[⟨n,r.fr,0,Cq t r.fr.length⟩]) (t+r.fr.length):=by
 obtain⟨h1,h2⟩:=LR.times h.inc h.pos h.t0 r.fr.length;refine⟨h.m.app (.cons ⟨rfl,(Fq r).symm,rfl,?_⟩ .nil),?_,?_,by have:=h.t0;omega⟩
 .simp only[Dq];omega
 .rw[Qk,Bi];exact h1
 .rw[Qk,Bi];exact h2
def LR.old{pre:List Lf}{f:Lf}{qp:List Ub}{q:Ub}(h:LR (pre++[f]) (qp++[q]) t)(hk:f.k<=f.rs.length)(r:Rec):LR (pre++[⟨f.n,f.rs++[r],f.k⟩]) (qp++[q.app r.fr t]) (t+r.fr.length):=by
 obtain⟨m',b',e,h1,h2⟩:=h.m.SJ
 obtain⟨rfl,rfl⟩:qp=m'/\q=b':=by
  have:=append_inj' e rfl;exact⟨this.1,by simpa using this.2⟩
 have hi:=h.inc;have hp:=h.pos;rw[Qk,Bi] at hi hp;obtain⟨h3,h4⟩:=LR.times hi hp h.t0 r.fr.length;refine⟨h1.app (.cons ⟨h2.n,?_,?_,?_⟩ .nil),?_,?_,by have:=h.t0;omega⟩
 .show q.b++r.fr=_;rw[h2.b,aj,Fq]
 .show q.s=_;rw[h2.s];unfold Lf.s7;simp only[take_append_of_le_length hk]
 .show q.s+(q.ts++Cq t r.fr.length).length=(q.b++r.fr).length;rw[Cb,Cb,Dq];have:=h2.e;omega
 .rw[Qk,Bi];show(Ve qp++(q.ts++Cq t r.fr.length)).Pairwise _;rw[<-Oc];exact h3
 .rw[Qk,Bi];show ∀x∈Ve qp++(q.ts++Cq t r.fr.length),_;rw[<-Oc];exact h4
def BT(qs:List Ub):Ve (qs.map Ub.syn)=[]:=by
 unfold Ve;rw[flatten_eq_nil_iff];intro x hx;obtain⟨q,hq,rfl⟩:=mem_map.1 hx;obtain⟨p,_,rfl⟩:=mem_map.1 hq;rfl
def FR.syn{f:Lf}{q:Ub}(h:FR f q):FR f.full q.syn:=⟨h.n,h.b,by show q.b.length=_;rw[h.b];unfold Lf.s7 Lf.full;simp,by show q.b.length+0=q.b.length;omega⟩
def Pk.maps{α β α' β':Type}{R:α->β->Prop}{S:α'->β'->Prop}{f:α->α'}{f':β->β'}(hf:∀a b,R a b->S (f a) (f' b)){l:List α}{m:List β}(h:Pk R l m):Pk S (l.map f) (m.map f'):=by
 induction h with
 |nil=>exact .nil
 |cons a _ ih=>exact .cons (hf _ _ a) ih
def LR.sync(h:LR l qs t):LR (Xe l) (qs.map Ub.syn) t:=⟨h.m.maps λ_ _ x=>x.syn,by rw[BT];exact .nil,by rw[BT];simp,h.t0⟩
end
def RD(l:List Lf)(d:Nat)(h:Hp)(T:Int):Prop:=∃qs t,LR l qs t/\t<=T/\pg (qs.map Ub.pl) t d h
def RD.mono{l:List Lf}{T T':Int}(k:RD l d h T)(hT:T<=T'):RD l d h T':=by
 obtain⟨qs,t,a,b,c⟩:=k;exact⟨qs,t,a,by omega,c⟩
def CP{fs:List Kn}{t:Int}(hd:pg fs t d h)(hl:fs.length<=1099511627776){n:Int}(hlt:∀y∈fs,y.n<n):
  Ct prog 267 [d,n] [h] (λr H'=>r= .int .i64 0/\H'=[h]):=by
 obtain⟨lv,gs,lh,hd,rfl⟩:=hd;have hf:=Xv (d:=d) (t:=t) hd hlt hl;unfold Wv at hf;refine Ct.pack (pre:=[ue d lv t,lh,mc gs]) (post:=λr H'=>r= .int .i64 0/\H'=[ue d lv t,lh,mc gs]) ?_ (by simp) (λr H' p=>⟨[ue d lv t++(lh++mc gs)],by rw[p.2];simp,p.1,rfl⟩);refine cr func267 λg R=>?_;refine cq hf ?_;try refine run ?_
 exact vj [ue d lv t,lh,mc gs]
section
variable{l:List Lf}{d:Nat}{h hx:Hp}{T:Int}
def Fs{pre:List Lf}{f:Lf}{qs:List Ub}{t:Int}(h:LR (pre++[f]) qs t):∃qp q,qs=qp++[q]/\FR f q/\qp.length=pre.length:=by
 obtain⟨m',b',e,h1,h2⟩:=h.m.SJ;exact⟨m',b',e,h2,h1.len.symm⟩
def DP(ok:Ge l)(hd:RD l d h T):Ct prog 267 [d,.int .i64 (ua l)] [h] (λr H'=>r= .int .i64 ((dk l).size (ua l):Int)/\H'=[h]):=by
 have hs:=Yv ok;obtain⟨qs,t,lr,-,hd⟩:=hd;have Ju:=lr.q ok.toKu;have jg:=Ju.len;rcases eq_nil_or_concat l with rfl|⟨pre,f,rfl⟩
 .rw[hs];have hq:qs=[]:=by have:=lr.m.len;exact length_eq_zero_iff.1 (by simpa using this.symm)
  subst hq;exact CP hd (by decide) (by simp)
 .rw[concat_eq_append] at hs lr⊢;rw[List.getLast?_concat] at hs;rw[hs];obtain⟨qp,q,rfl,fr,-⟩:=Fs lr;have hq:(qp++[q])[qp.length]? =some q:=List.getElem?_concat_length;have:=uT hd Ju.Rw (by rw[We];omega) (aq hq);rw[show q.pl.n=ua (pre++[f]) from by rw[Kb];exact fr.n,show q.pl.b=bytes f.rs from fr.b] at this;exact this
def TJ{qp:List Ub}{q q1:Ub}:(qp++[q]).set qp.length q1=qp++[q1]:=by rw[set_append_right _ _ (Nat.le_refl _),Nat.sub_self];rfl
def CT(ok:Ge l)(hd:RD l d h T)(hT:T<=549755813888){r:Rec}(hc:r.code=0){u:Value}(hb:Rs r.fr u hx):
  Ct prog 217 [d,.int .i64 (AH l),u] [h,hx] (λres H'=>∃(e:Int) (h':Hp),res= .int .i64 e/\H'=[h',hx]/\(e=0↔(Bb l r).2=0)/\RD (Bb l r).1 d h' (T+243)):=by
 have hle:=(Rec.good hc).yh;obtain⟨qs,t,lr,ht,hd⟩:=hd;have zL:=lr.t0;have Ju:=lr.q ok.toKu;have Nn:=lr.used;have jg:=lr.m.len;unfold Bb;rw[if_neg (by simpa using hc)];rcases eq_nil_or_concat l with rfl|⟨pre,f,rfl⟩
 .have hq:qs=[]:=length_eq_zero_iff.1 (by simpa using jg.symm);subst hq;have:=bq Ju zL (by omega) hd (n:=0) (by simp) (Int.le_refl 0) (by decide) (by decide) hb (by rw[Nn,vu];omega);refine Ct.mono this ?_;rintro _ H' ⟨h',rfl,e,hd'⟩;exact⟨0,h',rfl,e,⟨λ_=>rfl,λ_=>rfl⟩,_,_,LR.new lr 0 r,by omega,hd'⟩
 .rw[concat_eq_append] at ok lr Nn jg⊢;have hs:=Yv ok;have hlo:=ok.lo f (by simp);have hhi:=ok.hi f (by simp);have hlm:=ok.len;rw[List.getLast?_concat] at hs⊢;simp only[dropLast_concat] at hs⊢;obtain⟨qp,q,rfl,fr,hqp⟩:=Fs lr
  have DT:∀x∈qp++[q],x.n<f.n+1:=λx hx=>by
   have Dn:=Ju.up;rw[Ae,pairwise_append] at Dn;have hfn:=fr.n;rcases mem_append.1 hx with hx|hx
   .have:=Dn.2.2 _ (mem_map.2 ⟨x,hx,rfl⟩) q.n (by simp);omega
   .rw[mem_singleton.1 hx];omega
  by_cases h4:4096<=(bytes f.rs).length
  .have htn:AH (pre++[f])=f.n+1:=by unfold AH;rw[hs,if_pos h4,Kb]
   rw[htn,if_pos h4];by_cases EP:1099511627776<f.n+1
   .rw[if_pos (.inl EP)];refine Ct.mono (Sw (qs:=qp++[q]) (t:=t) (h:=h) (hx:=hx) EP) ?_;rintro _ H' ⟨rfl,e⟩;exact⟨50,h,rfl,e,⟨λh=>absurd h (by decide),λh=>absurd (show(51:Int)=0 from h) (by decide)⟩,_,_,lr,by omega,hd⟩
   by_cases Zv:64<=(pre++[f]).length\/1048576<(dk (pre++[f])).used+r.fr.length
   .rw[if_pos (.inr Zv)];refine Ct.mono (tu Ju hd DT (by omega) (by omega) hb (by omega) (by rw[Nn,<-jg];exact Zv)) ?_;rintro _ H' ⟨rfl,e⟩;exact⟨51,h,rfl,e,⟨λh=>absurd h (by decide),λh=>absurd (show(51:Int)=0 from h) (by decide)⟩,_,_,lr,by omega,hd⟩
   .rw[if_neg (λh=>h.elim EP Zv)];simp only[not_or,Nat.not_le,Nat.not_lt] at Zv;refine Ct.mono (bq Ju zL (by omega) hd DT (by omega) (by omega) (by omega) hb (by rw[Nn];omega)) ?_;rintro _ H' ⟨h',rfl,e,hd'⟩;exact⟨0,h',rfl,e,⟨λ_=>rfl,λ_=>rfl⟩,_,_,LR.new lr (f.n+1) r,by omega,hd'⟩
  .have htn:AH (pre++[f])=f.n:=by unfold AH;rw[hs,if_neg h4,Kb]
   have hq:(qp++[q])[qp.length]? =some q:=List.getElem?_concat_length;have hfn:=fr.n;rw[htn,if_neg h4,<-hfn];by_cases Zv:1048576<(dk (pre++[f])).used+r.fr.length
   .rw[if_pos Zv];refine Ct.mono (yH Ju hd hq (by omega) (by omega) hb (by omega) (by rw[Nn];exact Zv)) ?_;rintro _ H' ⟨rfl,e⟩;exact⟨51,h,rfl,e,⟨λh=>absurd h (by decide),λh=>absurd (show(51:Int)=0 from h) (by decide)⟩,_,_,lr,by omega,hd⟩
   .rw[if_neg Zv];refine Ct.mono (RJ Ju zL (by omega) hd hq (by omega) (by omega) hb (by show ru _+_<=_;rw[Nn];omega)) ?_;rintro _ H' ⟨h',rfl,e,hd'⟩;rw[TJ] at hd';rw[hfn];exact⟨0,h',rfl,e,⟨λ_=>rfl,λ_=>rfl⟩,_,_,LR.old lr (ok.k f (by simp)) r,by omega,hd'⟩
end
abbrev ff(w d:Nat)(seg Aa:Int):Hp:=[(w,.cells (List.toArray [d,seg,Aa]) 231 (0,0))]
def AV{l:List Lf}(ok:Ge l){d:Nat}{h:Hp}{T:Int}(hd:RD l d h T){rs:List Rec}{v:Value}{hx:Hp}(hr:Rs rs v hx)(hl:rs.length<=1000000)(Mi:0<=T)(hT:T<=274877906944)(hz:∀r∈rs,r.size<=1073741824){w:Nat}{Aa:Int}:
  Ct prog 219 [w,v] [ff w d (ua l) Aa,h,hx] (λres H'=>∃h',res= .int .i64 (Ep l rs).2/\H'=[ff w d (ua (Ep l rs).1) Aa,h',hx]/\RD (Ep l rs).1 d h' (T+243*(rs.length:Int))):=by
 refine cr func219 λg R=>?_
 refine W.lo (α:=Nat×List Lf×Hp) (λx=>x.1<=rs.length/\Ge x.2.1/\RD x.2.1 d x.2.2 (T+243*(x.1:Int))/\Ep l rs=Ep x.2.1 (rs.drop x.1))
  (λx=>[(0,w),(1,v),(5,.int .i64 (x.1:Int))])
  (λx=>[ff w d (ua x.2.1) Aa,x.2.2,hx,R]) (λx=>rs.length - x.1) (0,l,h) ⟨Gi _,ok,by simpa using hd,rfl⟩ ?_
 rintro⟨i,m,y⟩ ⟨hi,bg,KD,he⟩;simp only[] at hi bg KD he⊢;by_cases hlt:i<rs.length
 .obtain⟨r,fZ⟩:=Sh hlt;rw[dG fZ] at he;have hsz:=hz r (mem_of_getElem? fZ);have zK:=yN r hsz;have hsc:=DP bg KD;have Tq:=Eg bg;by_cases hc:r.code=0
  .rw[hc] at zK;obtain⟨hA,hB⟩:=wA bg hc;have Sr:=bg.JE r;try refine run ?_
   refine ck zK ?_;rintro _ _ ⟨u2,h2,rfl,rfl,Oa⟩;have hap:=CT bg KD (by omega) hc Oa.rs;have htn:AH m=if 4096<=(dk m).size (ua m) then ua m+1 else ua m:=rfl
   have P6:(Bb m r).2=0->ua (Bb m r).1=AH m:=λh0=>by
    by_cases hE:(dk m).Jg (AH m) r.fr.length=0
    .exact(hB hE).2.2
    .rw[hA hE] at h0;exact absurd (show(51:Int)=0 from h0) (by decide)
   have qk:(Bb m r).2≠0->(Bb m r)=(m,51):=λh0=>by
    by_cases hE:(dk m).Jg (AH m) r.fr.length=0
    .exact absurd (hB hE).1 h0
    .exact hA hE
   simp only[can];by_cases h4:4096<=(dk m).size (ua m)
   .rw[if_pos h4] at htn;rw[htn] at hap P6;try refine run ?_
    refine cq hsc ?_;try refine run ?_
    refine ck hap ?_;rintro _ _ ⟨e,y',rfl,rfl,hee,xp⟩;simp only[can];by_cases hE:(Bb m r).2=0
    .have xW:=hee.2 hE;subst xW;rw[if_neg (λhn=>hn hE)] at he;try refine run ?_
     rw[<-P6 hE];exact D.rd (i+1,(Bb m r).1,y') ⟨by simp only[];omega,Sr,xp.mono (by simp only[];omega),he⟩ (by simp only[];omega)
    .have xW: ¬e=0:=λh0=>hE (hee.1 h0);rw[if_pos hE,qk hE] at he;rw[qk hE] at xp;try refine run ?_
     exact Wa [ff w d (ua m) Aa,y',hx] rfl rfl ⟨y',by rw[he],by rw[he],by rw[he];exact xp.mono (by omega)⟩
   .rw[if_neg h4] at htn;rw[htn] at hap P6;try refine run ?_
    refine cq hsc ?_;try refine run ?_
    refine ck hap ?_;rintro _ _ ⟨e,y',rfl,rfl,hee,xp⟩;simp only[can];by_cases hE:(Bb m r).2=0
    .have xW:=hee.2 hE;subst xW;rw[if_neg (λhn=>hn hE)] at he;try refine run ?_
     rw[<-P6 hE];exact D.rd (i+1,(Bb m r).1,y') ⟨by simp only[];omega,Sr,xp.mono (by simp only[];omega),he⟩ (by simp only[];omega)
    .have xW: ¬e=0:=λh0=>hE (hee.1 h0);rw[if_pos hE,qk hE] at he;rw[qk hE] at xp;try refine run ?_
     exact Wa [ff w d (ua m) Aa,y',hx] rfl rfl ⟨y',by rw[he],by rw[he],by rw[he];exact xp.mono (by omega)⟩
  .rw[eG hc,if_pos hc] at he;try refine run ?_
   refine ck zK ?_;rintro _ _ ⟨u2,h2,rfl,rfl,Oa⟩;refine rn ?_;exact Wa [ff w d (ua m) Aa,y,hx] rfl rfl ⟨y,by rw[he],by rw[he],by rw[he];exact KD.mono (by omega)⟩
 .have hlen:rs.drop i=[]:=drop_eq_nil_of_le (by omega);rw[hlen] at he;try refine run ?_
  exact Wa [ff w d (ua m) Aa,y,hx] rfl rfl ⟨y,by rw[he];rfl,by rw[he];rfl,by rw[he];exact KD.mono (by omega)⟩
variable{l:List Lf}{T seg:Int}
def IN(qs:List Ub)(i:Nat):List Ub:=(qs.take i).map Ub.syn++qs.drop i
def jZ{i:Nat}{q:Ub}(h:qs[i]? =some q):(IN qs i)[i]? =some q/\(IN qs i).set i q.syn=IN qs (i+1):=by
 obtain⟨h1,h2⟩:=List.getElem?_eq_some_iff.1 h;have hl:((qs.take i).map Ub.syn).length=i:=by rw[We,Fe];omega
 unfold IN;have hd:qs.drop i=q::qs.drop (i+1):=by rw[drop_eq_getElem_cons h1,h2]
 constructor
 .rw[List.getElem?_append_right (by omega),hl,Nat.sub_self,hd];rfl
 .rw[set_append_right _ _ (by omega),hl,Nat.sub_self,hd,set_cons_zero,take_succ_eq_append_getElem h1,h2,Ae,Oc];rfl
def BH{γ:Type}{f:Ub->γ}(hf:∀q,f q.syn=f q)(qs:List Ub)(i:Nat):(IN qs i).map f=qs.map f:=by
 unfold IN;rw[Ae,map_map]
 conv=>rhs;rw[<-take_append_drop i qs,Ae]
 congr 1;exact map_congr_left λx _=>hf x
def ET(ok:Ds qs)(i:Nat):Ds (IN qs i) where
 up:=by rw[BH (f:=(·.n)) (λ_=>rfl)];exact ok.up
 ok:=λq hq=>by
  unfold IN at hq;rcases mem_append.1 hq with hq|hq
  .obtain⟨p,hp,rfl⟩:=mem_map.1 hq;exact⟨by show p.b.length+0=p.b.length;omega,by show ∀x∈[],_;simp⟩
  .exact ok.ok q (mem_of_mem_drop hq)
 used:=by rw[BH (f:=λq=>q.b.length) (λ_=>rfl)];exact ok.used
 len:=by have:=ok.len;have h2:=congrArg List.length (BH (f:=(·.n)) (λ_=>rfl) qs i);simp only[We] at h2;omega
def Az(ok:Ge l)(hd:RD l d h T){w:Nat}{Aa:Int}:
  Ct prog 139 [w] [ff w d seg Aa,h] (λres H'=>∃h',H'=[ff w d seg Aa,h']/\RD (Xe l) d h' T):=by
 obtain⟨qs,t,lr,ht,hd⟩:=hd;have Ju:=lr.q ok.toKu;have jg:=Ju.len;have CC:=Bq hd (by rw[We];omega);have hnm:(qs.map Ub.pl).map (·.n)=qs.map (·.n):=by rw[map_map];rfl
 rw[hnm] at CC;have hnl:(qs.map (·.n)).length=qs.length:=We _;refine cr func139 λg R=>?_;refine ck CC ?_;rintro u _ ⟨hn,rfl,hs⟩;have hr:=hs.rs;refine rn ?_
 refine W.lo (α:=Nat×Hp) (λx=>x.1<=qs.length/\pg ((IN qs x.1).map Ub.pl) t d x.2) (λx=>[(0,w),(2,u),(3,.int .i64 (x.1:Int))])
  (λx=>[ff w d seg Aa,x.2,hn,R]) (λx=>qs.length - x.1) (0,h) ⟨Gi _,by simpa[IN] using hd⟩ ?_
 rintro⟨i,y⟩ ⟨hi,Ip⟩;simp only[] at hi Ip⊢;by_cases hil:i<qs.length
 .obtain⟨q,hq⟩:=Sh hil;have DT:(qs.map (·.n))[i]? =some q.n:=by rw[List.getElem?_map,hq];rfl
  obtain⟨h1,h2⟩:=jZ hq;have Ws:=PJ (ET Ju i) Ip h1;rw[h2] at Ws;try refine run ?_
  refine cX (ml [8]) [ff w d seg Aa,hn] ?_;try refine run ?_
  refine ck Ws ?_;rintro _ _ ⟨y',rfl,rfl,xp⟩;refine rn ?_;exact D.rd (i+1,y') ⟨by simp only[];omega,xp⟩ (by simp only[];omega)
 .obtain rfl:i=qs.length:=by omega
  have By:IN qs qs.length=qs.map Ub.syn:=by unfold IN;rw[take_length,drop_length,append_nil]
  rw[By] at Ip;try refine run ?_
  exact D.Bc [ff w d seg Aa,y] _ rfl ⟨y,rfl,_,t,lr.sync,ht,Ip⟩
def Yt(ok:Ge l)(hd:RD l d h T){w:Nat}{Aa:Int}(n:Int):
  Ct prog 135 [w,n] [ff w d seg Aa,h] (λres H'=>res= .bool (Ce l n)/\H'=[ff w d seg Aa,h]):=by
 obtain⟨qs,t,lr,ht,hd⟩:=hd;have Ju:=lr.q ok.toKu;have jg:=Ju.len;have hml:=lr.m.len;have Nn:=lr.used;have hu1:=ok.used;have CC:=Bq hd (by rw[We];omega);have hnm:(qs.map Ub.pl).map (·.n)=qs.map (·.n):=by rw[map_map];rfl
 rw[hnm] at CC;have hnl:(qs.map (·.n)).length=qs.length:=We _
 have L0:Ct prog 213 [d] [h] (λr H'=>r= .int .i64 ((dk l).used:Int)/\H'=[h]):=by
  obtain⟨lv,gs,lh,cL,rfl⟩:=hd;rw[<-Nn];exact(iy (d:=d) (t:=t) Ju cL).pack (by simp) (λr H' p=>⟨[ue d lv t++(lh++mc gs)],by rw[p.2];simp,p.1,rfl⟩)
 refine ce func135 λg R=>?_;simp only[can];unfold Ce;by_cases h0:0<=n
 .by_cases h2:n<=2048
  .try refine run ?_
   refine ck CC ?_;rintro u _ ⟨hn,rfl,hs⟩;have hr:=hs.rs;simp only[can];by_cases h63:l.length<63
   .try refine run ?_
    refine cq L0 ?_;repeat' first|refine run ?_|refine WX.mul rfl rfl rfl (by omega) ?_
    exact Wa [ff w d seg Aa,h] rfl rfl ⟨by congr 1;rw[decide_eq_decide];omega,rfl⟩
   .try refine run ?_
    exact Wa [ff w d seg Aa,h] rfl rfl ⟨by rw[gj (by omega)],rfl⟩
  .try refine run ?_
   exact Wa [ff w d seg Aa,h] rfl rfl ⟨by rw[gj (by omega)],rfl⟩
 .try refine run ?_
  exact Wa [ff w d seg Aa,h] rfl rfl ⟨by rw[gj (by omega)],rfl⟩
structure Bl where
 (k dc rg nd:Int)
 deriving DecidableEq
def Bl.enc(a:Bl):List Value:=[a.k,a.dc,a.rg,a.nd]
structure Da where
 kind:Int
 (fr to:Bl)
 (ep ix ct op tr:Int)
 cf:Va
 en:ya
 has:Bool
 (key val:ByteArray)
 (dead snap:Bool)
 (dp av:V9)
 (c0 c1 c2 code:Int)
 deriving DecidableEq
def Da.enc(m:Da):List Value:=
 .int .i64 m.kind::(m.fr.enc++(m.to.enc++([.int .i64 m.ep,.int .i64 m.ix,.int .i64 m.ct,.int .i64 m.op,.int .i64 m.tr]++(m.cf.enc++(m.en.enc++
  ([.bool m.has,.string m.key,.string m.val,.bool m.dead,.bool m.snap]++(m.dp.enc++(m.av.enc++[.int .i64 m.c0,.int .i64 m.c1,.int .i64 m.c2,.int .i64 m.code]))))))))
instance : Nb Da := ⟨74, Da.enc, fun _ => rfl, fun _ => rfl, by decide⟩
def Bl.z:Bl:=⟨0,0,0,0⟩
def Da.z:Da:=⟨0,Bl.z,Bl.z,0,0,0,0,0,Va.z,ya.z,false,ByteArray.empty,ByteArray.empty,false,false,V9.z,V9.z,0,0,0,0⟩
variable{hd:Hp}
abbrev Jb(b cb:Nat)(dc rg nd:Int)(d w:Nat)(up:Bool):Hp:=[(b,.cells (List.toArray [cb,dc,rg,nd,d,w,.bool up]) 78 (0,0))]
def fY(b cb:Nat)(dc rg nd:Int)(d w:Nat)(up:Bool):Ct prog 24 [.pointer (some ⟨b,0,none⟩)] [Jb b cb dc rg nd d w up] (λr H'=>r= .bool up/\H'=[Jb b cb dc rg nd d w up]):=by
 refine Ct.mk' func24 rfl rfl rfl (λg R=>?_);try simp only[ca]
 simp only[na];try refine ga ?_
 exact D.Ia [Jb b cb dc rg nd d w up] _ rfl rfl ⟨rfl,rfl⟩
def wV(l:List Lf):Int:=if Ce l 1=true then 0 else 51
def IG(ok:Ge l)(b cb:Nat)(dc rg nd:Int){w:Nat}{seg Aa:Int}(hdk:Od (dk l) d hd):Ct prog 144 [b] [Jb b cb dc rg nd d w true,qf w d seg Aa,hd] (λr H'=>r= .int .i64 (wV l)/\H'=[Jb b cb dc rg nd d w true,qf w d seg Aa,hd]):=by
 have hrm:=UM ok hdk (w:=w) (seg:=seg) (Aa:=Aa) 1;unfold wV;refine ce func144 λg R=>?_;simp only[can]
 cases hr:Ce l 1 with
 |true=>
  rw[hr] at hrm;repeat' first|refine ga ?_|refine cq hrm ?_
  exact vj [Jb b cb dc rg nd d w true,qf w d seg Aa,hd]
 |false=>
  rw[hr] at hrm;repeat' first|refine ga ?_|refine cq hrm ?_
  exact vj [Jb b cb dc rg nd d w true,qf w d seg Aa,hd]
def jz(b cb:Nat)(dc rg nd:Int)(d w:Nat):Ct prog 144 [.pointer (some ⟨b,0,none⟩)] [Jb b cb dc rg nd d w false] (λr H'=>r= .int .i64 52/\H'=[Jb b cb dc rg nd d w false]):=by
 refine Ct.mk' func144 rfl rfl rfl (λg R=>?_);try simp only[ca]
 simp only[na];try refine ga ?_
 exact D.Ia [Jb b cb dc rg nd d w false] _ rfl rfl ⟨rfl,rfl⟩
def td(l:List Lf)(c:CS)(was:Int):List Lf:=if was<c.len then(Bb l (Im (c.lg.getD was.toNat ya.z))).1 else l
def qv(ok:Ge l)(b cb:Nat)(dc rg nd:Int){w:Nat}{Aa:Int}(hdk:Od (dk l) d hd){c:CS}(ob:Lb c){v:Value}{hv:Hp}(hs:Rs c.lg v hv){was:Int}(h0:0<=was)(h1:was<=1000):
  Ct prog 147 [b,was] [Jb b cb dc rg nd d w true,oa cb c v,hv,qf w d (ua l) Aa,hd]
   (λr H'=>r= .tuple #[]/\∃hd',H'=[Jb b cb dc rg nd d w true,oa cb c v,hv,qf w d (ua (td l c was)) Aa,hd']/\Od (dk (td l c was)) d hd'):=by
 have jg:=ob.len;have hlen:c.len=(c.lg.length:Int):=rfl;have zj:=JK c cb hs (by omega) (was+1) (by omega);unfold td;by_cases hw:was<c.len
 .rw[if_pos hw];rw[if_pos (show 1<=was+1/\was+1<=c.len by omega),Fi (show 1<=was+1/\was+1<=c.len by omega),show(was+1).toNat - 1=was.toNat by omega] at zj;obtain⟨e,he⟩:∃e,c.lg.getD was.toNat ya.z=e:=⟨_,rfl⟩
  have D6:Xc e:=by
   have hlt:was.toNat<c.lg.length:=by omega
   rw[<-he,getD_eq_getElem?_getD,oh hlt];exact ob.es _ (getElem_mem hlt)
  rw[he] at zj⊢;refine ce func147 λg R=>?_;repeat' first|refine vb ?_|refine al λ_=>?_|refine cq zj ?_|refine nh ya.z.enc e.enc ?_
  rename_i b4;refine sK (ml [6,1]) [Jb b cb dc rg nd d w true,Fb b4 e] ?_;repeat' first|refine ga ?_|refine Of (t:=49) e.enc e.enc ?_|refine Vf (t:=140) (Im e).enc ?_
  refine Kp [Im e] (λv2 h2 Oa=>?_);try refine ga ?_
  have Lr:=qL ok hdk Oa.rs (by simp) (λr hr=>by
   rw[mem_singleton.1 hr];have hk:=D6.key;have hv:=D6.val;show e.key.data.toList.length+e.val.data.toList.length<=1073741824;rw[show e.key.data.toList.length=e.key.size from Array.length_toList,show e.val.data.toList.length=e.val.size from Array.length_toList];omega) (w:=w) (Aa:=Aa)
  rw[HG] at Lr;refine ck Lr ?_;rintro _ _ ⟨hd',rfl,rfl,Fj⟩;refine vb ?_;exact D.Bc [Jb b cb dc rg nd d w true,oa cb c v,hv,qf w d (ua (Bb l (Im e)).1) Aa,hd'] _ rfl ⟨rfl,hd',rfl,Fj⟩
 .rw[if_neg hw];rw[if_neg (show ¬(1<=was+1/\was+1<=c.len) by omega),gj (show ¬(1<=was+1/\was+1<=c.len) by omega)] at zj;refine ce func147 λg R=>?_;repeat' first|refine vb ?_|refine al λ_=>?_|refine cq zj ?_|refine nh ya.z.enc ya.z.enc ?_
  exact D.Bc [Jb b cb dc rg nd d w true,oa cb c v,hv,qf w d (ua l) Aa,hd] _ rfl ⟨rfl,hd,rfl,hdk⟩
end Go.Proofs.YthebagfahkebiaaGreat
