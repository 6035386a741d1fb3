/- Texts of one road. -/
import Derived.Test.YthebagfahkebiaaGreatRAM
import Derived.Test.YthebagfahkebiaaGreatRAN
set_option linter.all false
set_option maxHeartbeats 8000000
set_option maxRecDepth 20000
namespace Go.Proofs.YthebagfahkebiaaGreat
open Go Go.Sl Go.Proofs.Tryz List
def Tq(r:Rec):bytes [r]=r.fr:=by rw[ve,Iw,append_nil]
variable{qs:List Ub}{d:Nat}{t n:Int}{h hx:Hp}{u:Value}
def Gu(qs:List Ub):Nat:=(qs.map λq=>q.b.length).sum
def Ey(ok:Ts qs){lv:Value}{gs:List Gf}{lh:Hp}(hd:Kr (qs.map Ub.pl) lv gs lh):
  Ct prog 213 [d] [we d lv t,lh,qc gs] (λr H'=>r= .int .i64 (Gu qs:Int)/\H'=[we d lv t,lh,qc gs]):=by
 have tg:=ok.len;have Sn:=fK (d:=d) (t:=t) hd (by rw[bf];omega) (by rw[map_map];have:=ok.used;exact Nat.le_trans this (by decide));rw[map_map] at Sn;exact Sn
def tq(ok:Ts qs)(JL:0<=t)(ht1:t<=1099511627776)(hd:vg (qs.map Ub.pl) t d h)(hlt:∀q∈qs,q.n<n)(hn0:0<=n)(ic:n<=1099511627776)(hlen:qs.length<64)
  {bs:List UInt8}(hb:Rs bs u hx)(Q2:Gu qs+bs.length<=1048576):
  Ct prog 217 [d,n,u] [h,hx] (λr H'=>∃h',r= .int .i64 0/\H'=[h',hx]/\vg ((qs++[(⟨n,bs,0,Rq t bs.length⟩:Ub)]).map Ub.pl) (t+bs.length) d h'):=by
 obtain⟨lv,gs,lh,hd,rfl⟩:=hd;have KQ:(gs.map Gf.gp).length=qs.length:=hd.len.trans (bf _);have hgg:gs.length=qs.length:=by rw[bf] at KQ;exact KQ
 have DO:(qs.map Ub.pl).length=qs.length:=bf _;have Sn:=Ey (d:=d) (t:=t) ok hd;have hr:=hd.sl.rs;have hfind:=yw (d:=d) (t:=t) hd (n:=n) (λy hy=>by obtain⟨q,hq,rfl⟩:=mem_map.1 hy;exact hlt q hq) (by omega);unfold xw at hfind;rw[DO] at hfind;obtain⟨lp,lc,rfl⟩:=hr.len;have hcap:(gs.map Gf.gp).length<=lc:=by obtain⟨aa,cc,e,le,_⟩:=id hr;cases e;exact le
 have Fh:=hr.take (m:=qs.length) (by omega);have hfr:=hr.from (m:=1) rfl (lo:=qs.length) (by omega);rw[take_of_length_le (by omega)] at Fh;rw[drop_eq_nil_of_le (by omega)] at hfr
 refine Ct.pack (pre:=[we d (.slice lp (gs.map Gf.gp).length lc) t,lh,qc gs,hx])
  (post:=λr H'=>∃Ym Zm blk pb lb cb hb' pc gG cc Yj,r= .int .i64 0/\H'=[we d Ym (t+bs.length),Zm,qc gs,CH blk n (.slice pb lb cb) (.slice pc gG cc),hb',Yj,hx]/\ia 268 (gs.map Gf.gp++[⟨blk⟩]) Ym Zm/\ia 5 bs (.slice pb lb cb) hb'/\ia 3 (Rq t bs.length) (.slice pc gG cc) Yj) ?_ (by simp)
  (λr H' ⟨Ym,Zm,blk,pb,lb,cb,hb',pc,gG,cc,Yj,e1,e2,e0,e3,e4⟩=>⟨[[we d Ym (t+bs.length),Zm,qc gs,CH blk n (.slice pb lb cb) (.slice pc gG cc),hb',Yj].flatten,hx],by rw[e2];simp,_,e1,rfl,Ym,gs++[⟨n,bs,Rq t bs.length,blk,pb,lb,cb,hb',pc,gG,cc,Yj⟩],Zm,⟨λx hx=>?_,?_,by rw[He];exact e0⟩,by rw[mb];simp[qc]⟩)
 .refine Tk func217 λg R=>?_;refine cq hfind ?_;try refine run ?_
  refine cq Sn ?_;try refine run ?_
  refine WX.Pe ?_;refine Jt (zb:=by simp only[td];omega) (ia.nil _) Fh (λv1 h1 hs1=>?_);rw[nil_append] at hs1;repeat' first|refine run ?_|refine Uc λ_=>?_
  rename_i blk;refine Up [(⟨blk⟩:Gp)] (λv2 h2 Sa=>?_);refine Jt (zb:=by simp only[Ib,td];omega) hs1 Sa.rs (λv3 h3 Cc=>?_);try refine run ?_
  refine WX.vi (lo:=qs.length) rfl rfl (by omega) hcap rfl ?_;refine Jt (zb:=by simp only[Eb,Ib,td];omega) Cc hfr (λv4 h4 hs4=>?_);rw[append_nil] at hs4;obtain⟨p4,n4,c4,rfl⟩:=hs4.sh;have hr4:=hs4.rs;have Cj:(gs.map Gf.gp++[(⟨blk⟩:Gp)])[qs.length]? =some ⟨blk⟩:=by rw[<-KQ,List.getElem?_concat_length]
  try refine run ?_
  refine W.Pe ?_;refine W.Pe ?_
  refine W.lo (α:=Nat×Int×Option Addr×Nat×Nat×Hp×Option Addr×Nat×Nat×Hp) (λx=>x.1<=bs.length/\x.2.1=t+(x.1:Int)/\ia 5 (([]:List UInt8)++bs.take x.1) (.slice x.2.2.1 x.2.2.2.1 x.2.2.2.2.1) x.2.2.2.2.2.1/\ia 3 (([]:List Int)++Rq t x.1) (.slice x.2.2.2.2.2.2.1 x.2.2.2.2.2.2.2.1 x.2.2.2.2.2.2.2.2.1) x.2.2.2.2.2.2.2.2.2)
   (λx=>[(0,d),(2,u),(10,.pointer (some ⟨blk,0,none⟩)),(11,.int .i64 (x.1:Int))])
   (λx=>[we d (.slice p4 n4 c4) x.2.1,CH (blk) (n) (.slice x.2.2.1 x.2.2.2.1 x.2.2.2.2.1) (.slice x.2.2.2.2.2.2.1 x.2.2.2.2.2.2.2.1 x.2.2.2.2.2.2.2.2.1),x.2.2.2.2.2.1,x.2.2.2.2.2.2.2.2.2,hx,h4,qc gs,R]) (λx=>bs.length - x.1) (0,t,none,0,0,[],none,0,0,[]) ⟨di _,by simp,ia.nil _,ia.nil _⟩ ?_
  rintro⟨i,tt,pb,lb,cb,hb,pc,gG,cc,hc⟩ ⟨hi,eZ,vI,hsc⟩;simp only[] at hi eZ vI hsc⊢;by_cases hil:i<bs.length
  .obtain⟨y,hy⟩:=Lh hil;have Fh:bs.take (i+1)=bs.take i++[y]:=by rw[take_succ_eq_append_getElem hil,(List.getElem?_eq_some_iff.1 hy).2]
   have htl:(bs.take i).length<=bs.length:=by rw[Oe];omega
   have U8:Rq t (i+1)=Rq t i++[tt+1]:=by rw[jK,eZ]
   have htn:=Sq t i;try refine run ?_
   refine iX (ml [9,2]) [CH (blk) (n) (.slice pb lb cb) (.slice pc gG cc),hx] ?_;try refine run ?_
   refine Up [y] (λv1 h1 hs1=>?_);try refine run ?_
   refine Jt (zb:=by simp only[Eb,Ib,td];omega) vI hs1.rs (λv2 h2 Sa=>?_);rw[Sc,<-Fh] at Sa;obtain⟨p2,n2,c2,rfl⟩:=Sa.sh;try refine run ?_
   refine iX (ml [9,2]) [CH (blk) (n) (.slice p2 n2 c2) (.slice pc gG cc),we d (.slice p4 n4 c4) (tt+1)] ?_;try refine run ?_
   refine Up [tt+1] (λv3 h3 Cc=>?_);try refine run ?_
   refine Jt (zb:=by simp only[Eb,Ib,td];omega) hsc Cc.rs (λv4 h4 hs4=>?_);rw[Sc,<-U8] at hs4;obtain⟨p4,n4,c4,rfl⟩:=hs4.sh;try refine run ?_
   exact D.rd (i+1,tt+1,p2,n2,c2,h2,p4,n4,c4,h4) ⟨by simp only[];omega,by simp only[];omega,Sa,hs4⟩ (by simp only[];omega)
  .obtain rfl:i=bs.length:=by omega
   rw[take_length] at vI;subst eZ;try refine run ?_
   rw[nil_append] at vI hsc;exact Xa [we d (.slice p4 n4 c4) (t+bs.length),h4,qc gs,CH blk n (.slice pb lb cb) (.slice pc gG cc),hb,hc,hx] rfl rfl ⟨_,_,_,_,_,_,_,_,_,_,_,rfl,rfl,hs4,vI,hsc⟩
 .rcases mem_append.1 hx with hx|hx
  .exact hd.ok x hx
  .rw[mem_singleton.1 hx];exact⟨e3,e4,Sq _ _⟩
 .rw[He,He,hd.fs];rfl
def sx{qs:List Ub}{t:Int}(ic:1099511627776<n):
  Ct prog 217 [d,n,u] [h,hx] (λr H'=>r= .int .i64 50/\H'=[h,hx]):=by
 refine Tk func217 λg R=>?_;exact Wi [h,hx]
def Hu(ok:Ts qs)(hd:vg (qs.map Ub.pl) t d h)(hlt:∀q∈qs,q.n<n)(hn0:0<=n)(ic:n<=1099511627776)
  {bs:List UInt8}(hb:Rs bs u hx)(rM:bs.length<=1099511627776)(Q2:64<=qs.length\/1048576<Gu qs+bs.length):
  Ct prog 217 [d,n,u] [h,hx] (λr H'=>r= .int .i64 51/\H'=[h,hx]):=by
 have tg:=ok.len;have hu0:Gu qs<=1048576:=ok.used;obtain⟨lv,gs,lh,hd,rfl⟩:=hd;have KQ:(gs.map Gf.gp).length=qs.length:=hd.len.trans (bf _);have DO:(qs.map Ub.pl).length=qs.length:=bf _;have Sn:=Ey (d:=d) (t:=t) ok hd;have hr:=hd.sl.rs;have hfind:=yw (d:=d) (t:=t) hd (n:=n) (λy hy=>by obtain⟨q,hq,rfl⟩:=mem_map.1 hy;exact hlt q hq) (by omega);unfold xw at hfind;rw[DO] at hfind;obtain⟨lp,lc,rfl⟩:=hr.len;refine Ct.pack (pre:=[we d (.slice lp (gs.map Gf.gp).length lc) t,lh,qc gs,hx]) (post:=λr H'=>r= .int .i64 51/\H'=[we d (.slice lp (gs.map Gf.gp).length lc) t,lh,qc gs,hx]) ?_ (by simp) (λr H' ⟨e1,e2⟩=>⟨[we d (.slice lp (gs.map Gf.gp).length lc) t++(lh++qc gs),hx],by rw[e2];simp,e1,rfl⟩);refine Tk func217 λg R=>?_;refine cq hfind ?_;by_cases h64:64<=qs.length
 .try refine run ?_
  exact Wi [we d (.slice lp (gs.map Gf.gp).length lc) t,lh,qc gs,hx]
 .try refine run ?_
  refine cq Sn ?_;try refine run ?_
  exact Wi [we d (.slice lp (gs.map Gf.gp).length lc) t,lh,qc gs,hx]
def EH(ok:Ts qs)(hd:vg (qs.map Ub.pl) t d h){k:Nat}{q:Ub}(hq:qs[k]? =some q)(hn0:0<=q.n)(ic:q.n<=1099511627776)
  {bs:List UInt8}(hb:Rs bs u hx)(rM:bs.length<=1099511627776)(Q2:1048576<Gu qs+bs.length):
  Ct prog 217 [d,q.n,u] [h,hx] (λr H'=>r= .int .i64 51/\H'=[h,hx]):=by
 have tg:=ok.len;have hu0:Gu qs<=1048576:=ok.used;obtain⟨lv,gs,lh,hd,rfl⟩:=hd;obtain⟨a,y0,b,e1,e,dK⟩:=hd.qM (rq hq);have DO:(qs.map Ub.pl).length=qs.length:=bf _;have Sn:=Ey (d:=d) (t:=t) ok hd;have hr:=hd.sl.rs;have hn:y0.n=q.n:=congrArg Pn.n e;have hd':Kr (qs.map Ub.pl) lv (a++y0::b) lh:=by rw[<-e1];exact hd
 have hfind:=cK (d:=d) (t:=t) hd' hd'.split (hd'.lt ok.qx) (by omega);unfold xw at hfind;rw[<-e1] at hfind;obtain⟨lp,lc,rfl⟩:=hr.len;rw[<-hn] at hn0 ic⊢;refine Ct.pack (pre:=[we d (.slice lp (gs.map Gf.gp).length lc) t,lh,qc gs,hx]) (post:=λr H'=>r= .int .i64 51/\H'=[we d (.slice lp (gs.map Gf.gp).length lc) t,lh,qc gs,hx]) ?_ (by simp) (λr H' ⟨e1,e2⟩=>⟨[we d (.slice lp (gs.map Gf.gp).length lc) t++(lh++qc gs),hx],by rw[e2];simp,e1,rfl⟩);refine Tk func217 λg R=>?_;refine cq hfind ?_;try refine run ?_
 refine cq Sn ?_;try refine run ?_
 exact Wi [we d (.slice lp (gs.map Gf.gp).length lc) t,lh,qc gs,hx]
variable{l:List Int}{m:Int}
def cnt(l:List Int)(m:Int):Nat:=(l.filter λx=>decide (x<=m)).length
def CT(l:List Int)(x m:Int):cnt (l++[x]) m=cnt l m+if x<=m then 1 else 0:=by
 unfold cnt;rw[filter_append,Eb];congr 1;by_cases h:x<=m
 .rw[if_pos h,filter_cons_of_pos (by simpa using h)];rfl
 .rw[if_neg h,filter_cons_of_neg (by simpa using h)];rfl
def sM(l:List Int)(m:Int):cnt l m<=l.length:=length_filter_le _ _
def FH(h:∀x∈l,x<=m):cnt l m=l.length:=by
 unfold cnt;rw[filter_eq_self.2 (λx hx=>by simpa using h x hx)]
def Iu(h:∀x∈l,m<x):cnt l m=0:=by
 unfold cnt;rw[length_eq_zero_iff,filter_eq_nil_iff];intro x hx;have:=h x hx;simpa using this
def fZ{i:Nat}{y:Int}(h:l[i]? =some y)(hm:∀x∈l.take i,x<=m):∀x∈l.take (i+1),x<=max m y:=by
 intro x hx;rw[take_succ_eq_append_getElem (List.getElem?_eq_some_iff.1 h).1,(List.getElem?_eq_some_iff.1 h).2] at hx;rcases mem_append.1 hx with hx|hx
 .have:=hm x hx;omega
 .rw[mem_singleton.1 hx];omega
def gZ{v:Value}{h:Hp}(hr:Rs l v h)(hl:l.length<=1099511627776)(hp:∀x∈l,0<x/\x<=2199023255552){keep:Nat}(hk:keep<l.length):
  Ct prog 288 [v,.int .i64 (keep:Int)] [h] (λr H'=>∃m:Int,r= .int .i64 m/\H'=[h]/\0<=m/\cnt l m<=keep/\keep<cnt l (m+1)):=by
 refine Tk func288 λg R=>?_;refine W.lo (α:=Nat×Nat) (λx=>x.1<=l.length/\1<=x.2/\x.2<=2199023255552/\∀y∈l.take x.1,y<=(x.2:Int)) (λx=>[(0,v),(1,.int .i64 (keep:Int)),(5,.int .i64 0),(6,.int .i64 (x.2:Int)),(7,.int .i64 (x.1:Int))]) (λ_=>[h,R]) (λx=>l.length - x.1) (0,1) ⟨di _,Nat.le_refl _,by decide,by simp⟩ ?_;rintro⟨i,hi⟩ ⟨h1,h2,h3,h4⟩;simp only[] at h1 h2 h3 h4⊢;by_cases hil:i<l.length
 .obtain⟨y,hy⟩:=Lh hil;have hyp:=hp y (mem_of_getElem? hy);have w6:=fZ hy h4;try refine run ?_
  refine D.as 6 (.int .i64 ((max hi y.toNat:Nat):Int)) rfl (by congr 1;split<;>omega) ?_;exact D.rd (i+1,max hi y.toNat) ⟨by simp only[];omega,by simp only[];omega,by simp only[];omega,λx hx=>by have:=w6 x hx;simp only[];omega⟩ (by simp only[];omega)
 .obtain rfl:i=l.length:=by omega
  rw[take_length] at h4;try refine run ?_
  refine W.lo (α:=Nat×Nat) (λx=>x.1<=x.2/\x.2<=2199023255552/\cnt l (x.1:Int)<=keep/\keep<cnt l ((x.2:Int)+1)) (λx=>[(0,v),(1,.int .i64 (keep:Int)),(5,.int .i64 (x.1:Int)),(6,.int .i64 (x.2:Int))]) (λ_=>[h,R]) (λx=>x.2 - x.1) (0,hi)
   ⟨di _,h3,by simp only[];rw[Iu (λx hx=>by have:=hp x hx;simp only[Int.natCast_zero];omega)];omega,by simp only[];rw[FH (λx hx=>by have:=h4 x hx;omega)];exact hk⟩ ?_
  rintro⟨lo,hj⟩ ⟨g1,g2,g3,g4⟩;simp only[] at g1 g2 g3 g4⊢;by_cases hlt:lo<hj
  .repeat' first|refine run ?_|refine WX.mY (a:=lo+hj+1) (b:=2) rfl rfl (by omega) rfl (by decide) (by omega) rfl ?_
   generalize hm:(lo+hj+1)/2=m;have xe:lo<m/\m<=hj:=by omega
   refine W.lo (α:=Nat) (λi=>i<=l.length) (λi=>[(0,v),(1,.int .i64 (keep:Int)),(5,.int .i64 (lo:Int)),(6,.int .i64 (hj:Int)),(8,.int .i64 (m:Int)),(9,.int .i64 (cnt (l.take i) (m:Int):Int)),(10,.int .i64 (i:Int))]) (λ_=>[h,R]) (λi=>l.length - i) 0 (di _) ?_;intro i h5;have Ah:=sM (l.take i) (m:Int);rw[Oe] at Ah;by_cases hil:i<l.length
   .obtain⟨y,hy⟩:=Lh hil
    have Iq:cnt (l.take (i+1)) (m:Int)=cnt (l.take i) (m:Int)+if y<=(m:Int) then 1 else 0:=by
     rw[take_succ_eq_append_getElem hil,(List.getElem?_eq_some_iff.1 hy).2,CT]
    by_cases hym:y<=(m:Int)
    .rw[if_pos hym] at Iq;try refine run ?_
     refine D.as 9 (.int .i64 (cnt (l.take (i+1)) (m:Int):Int)) rfl (by rw[Iq];rfl) ?_;exact D.re (i+1)
    .rw[if_neg hym] at Iq;try refine run ?_
     refine D.as 9 (.int .i64 (cnt (l.take (i+1)) (m:Int):Int)) rfl (by rw[Iq];rfl) ?_;exact D.re (i+1)
   .obtain rfl:i=l.length:=by omega
    rw[take_length] at Ah⊢;by_cases hc:cnt l (m:Int)<=keep
    .try refine run ?_
     exact D.rd (m,hj) ⟨by simp only[];omega,g2,hc,g4⟩ (by simp only[];omega)
    .try refine run ?_
     refine D.as 6 (.int .i64 ((m - 1:Nat):Int)) rfl (by congr 1;omega) ?_;exact D.rd (lo,m - 1) ⟨by simp only[];omega,by simp only[];omega,g3,by simp only[];rw[show(((m - 1:Nat):Int)+1)=(m:Int) by omega];omega⟩ (by simp only[];omega)
  .obtain rfl:lo=hj:=by omega
   try refine run ?_
   exact Xa [h] rfl rfl ⟨_,rfl,rfl,Int.natCast_nonneg _,g3,g4⟩
variable{i:Nat}
def Ub.tw(q:Ub)(last:Int):Nat:=(q.ts.takeWhile λx=>decide (x<=last)).length
def Ub.kp(q:Ub)(last:Int):Nat:=q.s+q.tw last
def Ub.Dc(q:Ub)(last:Int):Ub:=q.cut (q.kp last)
def Y3(l:List Int)(m:Int):(l.takeWhile λx=>decide (x<=m)).length<=l.length:=(takeWhile_sublist _).length_le
def DT{m:Int}:∀{l:List Int} {j:Nat} {x:Int},l[j]? =some x->(j<(l.takeWhile λx=>decide (x<=m)).length->x<=m)/\(j=(l.takeWhile λx=>decide (x<=m)).length->m<x)
 |[],j,x,h=>by simp at h
 |y::t,j,x,h=>by
  by_cases hy:y<=m
  .rw[takeWhile_cons_of_pos (by simpa using hy),Ib]
   cases j with
   |zero=>cases h;exact⟨λ_=>hy,λe=>by omega⟩
   |succ j=>
    obtain⟨h1,h2⟩:=DT (m:=m) (l:=t) (j:=j) (x:=x) (by simpa using h);exact⟨λe=>h1 (by omega),λe=>h2 (by omega)⟩
  .rw[takeWhile_cons_of_neg (by simpa using hy),td]
   cases j with
   |zero=>cases h;exact⟨λe=>by omega,λ_=>by omega⟩
   |succ j=>exact⟨λe=>by omega,λe=>by omega⟩
def Ub.wX{q:Ub}(h:q.Ok)(last:Int):q.kp last<=q.b.length:=by
 have h1:=h.e;have h2:=Y3 q.ts last;unfold Ub.kp Ub.tw;omega
def Ub.at{q:Ub}(h:q.Ok){last:Int}(h0:0<=last){j:Nat}{x:Int}(hx:(List.replicate q.s (0:Int)++q.ts)[j]? =some x):(j<q.kp last->x<=last)/\(j=q.kp last->last<x):=by
 unfold Ub.kp Ub.tw;rcases Nat.lt_or_ge j q.s with hj|hj
 .rw[List.getElem?_append_left (by simpa using hj)] at hx
  have:x=0:=by
   have:=mem_of_getElem? hx;rw[mem_replicate] at this;exact this.2
  exact⟨λ_=>by omega,λe=>by omega⟩
 .rw[List.getElem?_append_right (by simpa using hj),length_replicate] at hx;obtain⟨h1,h2⟩:=DT (m:=last) hx;exact⟨λe=>h1 (by omega),λe=>h2 (by omega)⟩
def Ye(qs:List Ub):List Int:=(qs.map Ub.ts).flatten
def LQ(qs:List Ub)(last:Int)(i:Nat):List Ub:=(qs.take i).map (λq=>q.Dc last)++qs.drop i
def ET{last:Int}{q:Ub}(h:qs[i]? =some q):(LQ qs last i)[i]? =some q/\(LQ qs last i).set i (q.Dc last)=LQ qs last (i+1):=by
 obtain⟨h1,h2⟩:=List.getElem?_eq_some_iff.1 h;have hl:((qs.take i).map (λq=>q.Dc last)).length=i:=by rw[bf,Oe];omega
 unfold LQ;have hd:qs.drop i=q::qs.drop (i+1):=by rw[drop_eq_getElem_cons h1,h2]
 constructor
 .rw[List.getElem?_append_right (by omega),hl,Nat.sub_self,hd];rfl
 .rw[set_append_right _ _ (by omega),hl,Nat.sub_self,hd,set_cons_zero,take_succ_eq_append_getElem h1,h2,He,Sc];rfl
def VN{last:Int}(h:i<=qs.length):(LQ qs last i).length=qs.length:=by
 unfold LQ;rw[Eb,bf,Oe,length_drop];omega
def xX(qs:List Ub)(last:Int):Nat:=(qs.map λq=>q.b.length - q.kp last).sum
def uA(qs:List Ub)(t:Int)(keep:Nat)(last:Int):Prop:=
 0<=last/\((Ye qs).length<=keep->last=t)/\(keep<(Ye qs).length->cnt (Ye qs) last<=keep/\keep<cnt (Ye qs) (last+1))
def CW(ok:Ts qs):(Ye qs).length<=1048576:=by
 have h1:∀l:List Ub,(∀q∈l,q.Ok)->(Ye l).length<=(l.map λq=>q.b.length).sum:=by
  intro l
  induction l with
  |nil=>intro _;exact Nat.le_refl _
  |cons x r ih=>
   intro hx;have h2:=(hx x (qf ..)).e;have h3:=ih λy hy=>hx y (Vn _ hy);unfold Ye at h3⊢;simp only[map_cons,flatten_cons,Eb,sum_cons];omega
 have:=h1 qs ok.ok;have:=ok.used;omega
def uq{α:Type}(f:α->Nat)(l:List α)(k:Nat):((l.take k).map f).sum<=(l.map f).sum:=by
 conv=>rhs;rw[<-take_append_drop k l]
 rw[He,sum_append];omega
def Us{α:Type}(f f':α->Nat):∀(l:List α),(∀x∈l,f x<=f' x)->(l.map f).sum<=(l.map f').sum
 |[],_=>Nat.le_refl _
 |x::t,h=>by
  have h1:=h x (qf ..);have h2:=Us f f' t λy hy=>h y (Vn _ hy);simp only[map_cons,sum_cons];omega
def qP{qs:List Ub}(ok:Ts qs){t:Int}(JL:0<=t)(ht1:t<=1099511627776)(hT:∀x∈Ye qs,x<=t){d:Nat}{h:Hp}(hd:vg (qs.map Ub.pl) t d h){keep:Int}(Om: -9223372036854775808<=keep)(hk2:keep<=9223372036854775807):
  Ct prog 253 [d,keep] [h] (λr H'=>∃(last:Int) (h':Hp),r= .int .i64 (xX qs last:Int)/\H'=[h']/\vg ((qs.map λq=>q.Dc last).map Ub.pl) t d h'/\uA qs t keep.toNat last):=by
 have tg:=ok.len;have haT:=CW ok;obtain⟨lv,gs,lh,hd,rfl⟩:=hd;have hr:=hd.sl.rs;have KQ:(gs.map Gf.gp).length=qs.length:=hd.len.trans (bf _);obtain⟨lp,lc,rfl⟩:=hr.len
 refine Ct.pack (pre:=[we d (.slice lp (gs.map Gf.gp).length lc) t,lh,qc gs]) (post:=λr H'=>∃(last:Int) (gs':List Gf),r= .int .i64 (xX qs last:Int)/\H'=[we d (.slice lp (gs.map Gf.gp).length lc) t,lh,qc gs']/\Kr ((qs.map λq=>q.Dc last).map Ub.pl) (.slice lp (gs.map Gf.gp).length lc) gs' lh/\uA qs t keep.toNat last) ?_ (by simp)
  (λr H' ⟨last,gs',e1,e2,e3,e4⟩=>⟨[[we d (.slice lp (gs.map Gf.gp).length lc) t,lh,qc gs'].flatten],by rw[e2];simp,last,_,e1,rfl,⟨_,gs',lh,e3,by simp⟩,e4⟩)
 refine Tk func253 λg R=>?_;refine W.as 1 (.int .i64 (keep.toNat:Int)) rfl (by congr 1;split<;>omega) ?_;refine W.Pe ?_
 refine W.lo (α:=Nat×Value×Hp) (λx=>x.1<=qs.length/\ia 3 (Ye (qs.take x.1)) x.2.1 x.2.2) (λx=>[(0,d),(1,.int .i64 (keep.toNat:Int)),(5,x.2.1),(6,.int .i64 (x.1:Int))])
  (λx=>[x.2.2,we d (.slice lp (gs.map Gf.gp).length lc) t,lh,qc gs,R]) (λx=>qs.length - x.1) (0,.slice none 0 0,[]) ⟨di _,ia.nil _⟩ ?_
 rintro⟨i,u,hu⟩ ⟨hi,hsu⟩;simp only[] at hi hsu⊢;by_cases hil:i<qs.length
 .obtain⟨q,hq⟩:=Lh hil;obtain⟨a',g',b',fG,AT,pM,xW⟩:=hd.nth (rq hq);have RU:=mem_of_getElem? hq;have xD:=ok.ok q RU;have T8:=xD.e;have rM:=ok.bl RU;have DH:=Ub.X3 xD;have hrb:=pM.b.rs;have hrc:=pM.c.rs;have hgb:g'.b=q.b:=congrArg Pn.b AT;have V8:g'.cm=List.replicate q.s 0++q.ts:=congrArg Pn.cm AT;have vaa:g'.b.length=q.b.length:=by rw[hgb]
  have waa:g'.cm.length=q.b.length:=by rw[V8];exact DH
  have hd':Kr (qs.map Ub.pl) (.slice lp (gs.map Gf.gp).length lc) (a'++g'::b') lh:=by rw[<-fG];exact hd
  have Z3:=NP (d:=d) (t:=t) hd' ok.qx (by rw[bf];omega) V8 xD.p (by omega)
  have hTn:Ye (qs.take (i+1))=Ye (qs.take i)++q.ts:=by
   unfold Ye;rw[take_succ_eq_append_getElem hil,(List.getElem?_eq_some_iff.1 hq).2,He,flatten_append];simp
  have hTl:(Ye (qs.take i)).length<=1048576:=by
   refine Nat.le_trans ?_ haT;unfold Ye
   conv=>rhs;rw[<-take_append_drop i qs]
   rw[He,flatten_append,Eb];omega
  refine W.flat (H':=[hu,we d (.slice lp (gs.map Gf.gp).length lc) t,lh,qc a',g'.bk,g'.hb,g'.hc,qc b',R]) (by rw[fG,mb];simp) ?_;try refine run ?_
  refine cq Z3 ?_;try refine run ?_
  refine W.lo (α:=Nat×Value×Hp) (λx=>x.1<=q.ts.length/\ia 3 (Ye (qs.take i)++q.ts.take x.1) x.2.1 x.2.2) (λx=>[(0,d),(1,.int .i64 (keep.toNat:Int)),(5,x.2.1),(6,.int .i64 (i:Int)),(7,.int .i64 ((q.s+x.1:Nat):Int))])
   (λx=>[x.2.2,we d (.slice lp (gs.map Gf.gp).length lc) t,lh,qc a',g'.bk,g'.hb,g'.hc,qc b',R]) (λx=>q.ts.length - x.1) (0,u,hu) ⟨di _,by simpa using hsu⟩ ?_
  rintro⟨j,w,hw⟩ ⟨hj,hsw⟩;simp only[] at hj hsw⊢;by_cases hjl:j<q.ts.length
  .obtain⟨x,hx⟩:=Lh hjl;have hxc:g'.cm[q.s+j]? =some x:=by rw[V8,List.getElem?_append_right (by simp)];simpa using hx
   have F6:q.ts.take (j+1)=q.ts.take j++[x]:=by rw[take_succ_eq_append_getElem hjl,(List.getElem?_eq_some_iff.1 hx).2]
   try refine run ?_
   refine Up [x] (λv1 h1 hs1=>?_);refine Jt (zb:=by simp only[Eb,Oe,Ib,td];omega) hsw hs1.rs (λv2 h2 Sa=>?_);rw[Sc,<-F6] at Sa;try refine run ?_
   exact D.rd (j+1,v2,h2) ⟨by simp only[];omega,Sa⟩ (by simp only[];omega)
  .obtain rfl:j=q.ts.length:=by omega
   rw[take_length,<-hTn] at hsw;try refine run ?_
   refine D.flat (H':=[hw,we d (.slice lp (gs.map Gf.gp).length lc) t,lh,qc gs,R]) (by rw[fG,mb];simp) ?_;exact D.rd (i+1,w,hw) ⟨by simp only[];omega,hsw⟩ (by simp only[];omega)
 .obtain rfl:i=qs.length:=by omega
  rw[take_length] at hsu;have hru:=hsu.rs
  have hpT:∀x∈Ye qs,0<x/\x<=2199023255552:=λx hx=>by
   refine⟨?_,by have:=hT x hx;omega⟩;unfold Ye at hx;obtain⟨l,hl,zy⟩:=mem_flatten.1 hx;obtain⟨q,hq,rfl⟩:=mem_map.1 hl;exact(ok.ok q hq).p x zy
  by_cases hkT:keep.toNat<(Ye qs).length
  .try refine run ?_
   refine ck (gZ hru (by omega) hpT hkT) ?_;rintro _ _ ⟨last,rfl,rfl,hl0,cg,ny⟩;have vA:uA qs t keep.toNat last:=⟨hl0,λh=>by omega,λ_=>⟨cg,ny⟩⟩;refine rn ?_
   refine W.lo (α:=Nat×List Gf) (λx=>x.1<=qs.length/\Kr ((LQ qs last x.1).map Ub.pl) (.slice lp (gs.map Gf.gp).length lc) x.2 lh)
    (λx=>[(0,d),(8,.int .i64 last),(9,.int .i64 ((((qs.take x.1).map λq=>q.b.length - q.kp last).sum:Nat):Int)),(10,.int .i64 (x.1:Int))])
    (λx=>[we d (.slice lp (gs.map Gf.gp).length lc) t,lh,qc x.2,R]) (λx=>qs.length - x.1) (0,gs) ⟨di _,hd⟩ ?_
   rintro⟨i,gs'⟩ ⟨hi,Sp⟩;simp only[] at hi Sp⊢;have iZ:=Sp.sl.rs;have W8:(gs'.map Gf.gp).length=qs.length:=Sp.len.trans ((bf _).trans (VN hi));have X8:=uq (λq:Ub=>q.b.length - q.kp last) qs i
   have Y8:(qs.map λq=>q.b.length - q.kp last).sum<=1048576:=by
    refine Nat.le_trans ?_ ok.used;exact Us _ _ _ λq _=>Nat.sub_le _ _
   by_cases hil:i<qs.length
   .obtain⟨q,hq⟩:=Lh hil;obtain⟨FT,HT⟩:=ET (last:=last) hq;obtain⟨a,y0,b,rfl,e,dK⟩:=Sp.qM (rq FT);obtain⟨hok,jZ⟩:=Sp.me;rw[dK] at jZ;have RU:=mem_of_getElem? hq;have xD:=ok.ok q RU;have rM:=ok.bl RU;have DH:=Ub.X3 xD;have hkp:=Ub.wX xD last;have hrb:=hok.b.rs;have OK:y0.b=q.b:=congrArg Pn.b e;have VA:y0.n=q.n:=congrArg Pn.n e;have dZ:y0.b.length=q.b.length:=by rw[OK]
    have Jn:y0.cm=List.replicate q.s (0:Int)++q.ts:=congrArg Pn.cm e;have j4:y0.cm.length=q.b.length:=by rw[Jn];exact DH
    have Iq:((qs.take (i+1)).map λq=>q.b.length - q.kp last).sum=((qs.take i).map λq=>q.b.length - q.kp last).sum+(q.b.length - q.kp last):=by
     rw[take_succ_eq_append_getElem hil,(List.getElem?_eq_some_iff.1 hq).2];simp
    refine W.flat (H':=[we d (.slice lp (gs.map Gf.gp).length lc) t,lh,qc a,y0.bk,y0.hb,y0.hc,qc b,R]) (by rw[mb];simp) ?_;try refine run ?_
    refine W.lo (α:=Nat×Hp) (λx=>x.1<=q.kp last/\ia 3 (List.replicate x.1 (0:Int)++y0.cm.drop x.1) (.slice y0.pc y0.lc y0.cc) x.2)
     (λx=>[(0,d),(8,.int .i64 last),(9,.int .i64 ((((qs.take i).map λq=>q.b.length - q.kp last).sum:Nat):Int)),(10,.int .i64 (i:Int)),(11,y0.blk),(12,.int .i64 (x.1:Int))])
     (λx=>[we d (.slice lp (gs.map Gf.gp).length lc) t,lh,qc a,y0.bk,y0.hb,x.2,qc b,R]) (λx=>q.kp last+1 - x.1) (0,y0.hc) ⟨di _,by simpa using hok.c⟩ ?_
    rintro⟨n,Yj⟩ ⟨hn,hsc⟩;simp only[] at hn hsc⊢;have hrc:=hsc.rs;have dL:(List.replicate n (0:Int)++y0.cm.drop n).length=y0.cm.length:=by rw[Eb,length_replicate,length_drop];omega
    have Xy:∀x,(List.replicate n (0:Int)++y0.cm.drop n)[n]? =some x->(List.replicate q.s (0:Int)++q.ts)[n]? =some x:=λx hx=>by
     rw[List.getElem?_append_right (by simp),length_replicate,Nat.sub_self,List.getElem?_drop,Nat.add_zero,Jn] at hx;exact hx
    by_cases hnk:n<q.kp last
    .obtain⟨x,hx⟩:∃x,(List.replicate n (0:Int)++y0.cm.drop n)[n]? =some x:=⟨_,Wg (by omega)⟩;have zy:=(Ub.at xD vA.1 (Xy x hx)).1 hnk;have hst:=sA (cm:=y0.cm) (k:=n) (by omega);try refine run ?_
     refine WX.zo (y':=(0:Int)) (vs:=[.int .i64 0]) rfl rfl rfl hsc hx rfl rfl rfl rfl rfl (λh2 Sa=>?_);rw[hst] at Sa;try refine run ?_
     exact D.rd (n+1,h2) ⟨by simp only[];omega,Sa⟩ (by simp only[];omega)
    .obtain rfl:n=q.kp last:=by omega
     have dy:=hok.b.to (m:=q.kp last) (by omega);have hc2:=hsc.to (m:=q.kp last) (by omega);rw[take_left' (by simp)] at hc2;have hnew:=Sp.put (y1:=⟨y0.n,y0.b.take (q.kp last),List.replicate (q.kp last) 0,y0.blk,y0.pb,q.kp last,y0.cb,y0.hb,y0.pc,q.kp last,y0.cc,Yj⟩) rfl ⟨dy,hc2,by simp only[length_replicate,Oe];omega⟩;rw[Fu FT Sp.split.symm dK (q1:=q.Dc last) (by unfold Gf.pl Ub.pl Ub.Dc Ub.cut;simp[VA,OK]),HT] at hnew;by_cases hnb:q.kp last<q.b.length
     .obtain⟨x,hx⟩:∃x,(List.replicate (q.kp last) (0:Int)++y0.cm.drop (q.kp last))[q.kp last]? =some x:=⟨_,Wg (by omega)⟩;have zy:=(Ub.at xD vA.1 (Xy x hx)).2 rfl;try refine run ?_
      refine D.as 9 (.int .i64 ((((qs.take (i+1)).map λq=>q.b.length - q.kp last).sum:Nat):Int)) rfl (by rw[Iq];congr 1;omega) ?_;refine D.flat (H':=[we d (.slice lp (gs.map Gf.gp).length lc) t,lh,qc (a++⟨y0.n,y0.b.take (q.kp last),List.replicate (q.kp last) 0,y0.blk,y0.pb,q.kp last,y0.cb,y0.hb,y0.pc,q.kp last,y0.cc,Yj⟩::b),R]) (by rw[mb];simp[Ao]) ?_;exact D.rd (i+1,a++⟨y0.n,y0.b.take (q.kp last),List.replicate (q.kp last) 0,y0.blk,y0.pb,q.kp last,y0.cb,y0.hb,y0.pc,q.kp last,y0.cc,Yj⟩::b) ⟨by simp only[];omega,hnew⟩ (by simp only[];omega)
     .try refine run ?_
      refine D.as 9 (.int .i64 ((((qs.take (i+1)).map λq=>q.b.length - q.kp last).sum:Nat):Int)) rfl (by rw[Iq];congr 1;omega) ?_;refine D.flat (H':=[we d (.slice lp (gs.map Gf.gp).length lc) t,lh,qc (a++⟨y0.n,y0.b.take (q.kp last),List.replicate (q.kp last) 0,y0.blk,y0.pb,q.kp last,y0.cb,y0.hb,y0.pc,q.kp last,y0.cc,Yj⟩::b),R]) (by rw[mb];simp[Ao]) ?_;exact D.rd (i+1,a++⟨y0.n,y0.b.take (q.kp last),List.replicate (q.kp last) 0,y0.blk,y0.pb,q.kp last,y0.cb,y0.hb,y0.pc,q.kp last,y0.cc,Yj⟩::b) ⟨by simp only[];omega,hnew⟩ (by simp only[];omega)
   .obtain rfl:i=qs.length:=by omega
    have Sy:LQ qs last qs.length=qs.map (λq=>q.Dc last):=by unfold LQ;rw[take_length,drop_length,append_nil]
    rw[Sy] at Sp;rw[take_length];try refine run ?_
    exact Xa [we d (.slice lp (gs.map Gf.gp).length lc) t,lh,qc gs'] rfl rfl ⟨last,gs',rfl,rfl,Sp,vA⟩
  .obtain⟨last,hlt⟩:∃last,last=t:=⟨t,rfl⟩;have vA:uA qs t keep.toNat last:=⟨by omega,λ_=>hlt,λh=>absurd h hkT⟩;try refine run ?_
   refine W.as 8 (.int .i64 last) rfl (by rw[hlt]) ?_
   refine W.lo (α:=Nat×List Gf) (λx=>x.1<=qs.length/\Kr ((LQ qs last x.1).map Ub.pl) (.slice lp (gs.map Gf.gp).length lc) x.2 lh)
    (λx=>[(0,d),(8,.int .i64 last),(9,.int .i64 ((((qs.take x.1).map λq=>q.b.length - q.kp last).sum:Nat):Int)),(10,.int .i64 (x.1:Int))])
    (λx=>[we d (.slice lp (gs.map Gf.gp).length lc) t,lh,qc x.2,R]) (λx=>qs.length - x.1) (0,gs) ⟨di _,hd⟩ ?_
   rintro⟨i,gs'⟩ ⟨hi,Sp⟩;simp only[] at hi Sp⊢;have iZ:=Sp.sl.rs;have W8:(gs'.map Gf.gp).length=qs.length:=Sp.len.trans ((bf _).trans (VN hi));have X8:=uq (λq:Ub=>q.b.length - q.kp last) qs i
   have Y8:(qs.map λq=>q.b.length - q.kp last).sum<=1048576:=by
    refine Nat.le_trans ?_ ok.used;exact Us _ _ _ λq _=>Nat.sub_le _ _
   by_cases hil:i<qs.length
   .obtain⟨q,hq⟩:=Lh hil;obtain⟨FT,HT⟩:=ET (last:=last) hq;obtain⟨a,y0,b,rfl,e,dK⟩:=Sp.qM (rq FT);obtain⟨hok,jZ⟩:=Sp.me;rw[dK] at jZ;have RU:=mem_of_getElem? hq;have xD:=ok.ok q RU;have rM:=ok.bl RU;have DH:=Ub.X3 xD;have hkp:=Ub.wX xD last;have hrb:=hok.b.rs;have OK:y0.b=q.b:=congrArg Pn.b e;have VA:y0.n=q.n:=congrArg Pn.n e;have dZ:y0.b.length=q.b.length:=by rw[OK]
    have Jn:y0.cm=List.replicate q.s (0:Int)++q.ts:=congrArg Pn.cm e;have j4:y0.cm.length=q.b.length:=by rw[Jn];exact DH
    have Iq:((qs.take (i+1)).map λq=>q.b.length - q.kp last).sum=((qs.take i).map λq=>q.b.length - q.kp last).sum+(q.b.length - q.kp last):=by
     rw[take_succ_eq_append_getElem hil,(List.getElem?_eq_some_iff.1 hq).2];simp
    refine W.flat (H':=[we d (.slice lp (gs.map Gf.gp).length lc) t,lh,qc a,y0.bk,y0.hb,y0.hc,qc b,R]) (by rw[mb];simp) ?_;try refine run ?_
    refine W.lo (α:=Nat×Hp) (λx=>x.1<=q.kp last/\ia 3 (List.replicate x.1 (0:Int)++y0.cm.drop x.1) (.slice y0.pc y0.lc y0.cc) x.2)
     (λx=>[(0,d),(8,.int .i64 last),(9,.int .i64 ((((qs.take i).map λq=>q.b.length - q.kp last).sum:Nat):Int)),(10,.int .i64 (i:Int)),(11,y0.blk),(12,.int .i64 (x.1:Int))])
     (λx=>[we d (.slice lp (gs.map Gf.gp).length lc) t,lh,qc a,y0.bk,y0.hb,x.2,qc b,R]) (λx=>q.kp last+1 - x.1) (0,y0.hc) ⟨di _,by simpa using hok.c⟩ ?_
    rintro⟨n,Yj⟩ ⟨hn,hsc⟩;simp only[] at hn hsc⊢;have hrc:=hsc.rs;have dL:(List.replicate n (0:Int)++y0.cm.drop n).length=y0.cm.length:=by rw[Eb,length_replicate,length_drop];omega
    have Xy:∀x,(List.replicate n (0:Int)++y0.cm.drop n)[n]? =some x->(List.replicate q.s (0:Int)++q.ts)[n]? =some x:=λx hx=>by
     rw[List.getElem?_append_right (by simp),length_replicate,Nat.sub_self,List.getElem?_drop,Nat.add_zero,Jn] at hx;exact hx
    by_cases hnk:n<q.kp last
    .obtain⟨x,hx⟩:∃x,(List.replicate n (0:Int)++y0.cm.drop n)[n]? =some x:=⟨_,Wg (by omega)⟩;have zy:=(Ub.at xD vA.1 (Xy x hx)).1 hnk;have hst:=sA (cm:=y0.cm) (k:=n) (by omega);try refine run ?_
     refine WX.zo (y':=(0:Int)) (vs:=[.int .i64 0]) rfl rfl rfl hsc hx rfl rfl rfl rfl rfl (λh2 Sa=>?_);rw[hst] at Sa;try refine run ?_
     exact D.rd (n+1,h2) ⟨by simp only[];omega,Sa⟩ (by simp only[];omega)
    .obtain rfl:n=q.kp last:=by omega
     have dy:=hok.b.to (m:=q.kp last) (by omega);have hc2:=hsc.to (m:=q.kp last) (by omega);rw[take_left' (by simp)] at hc2;have hnew:=Sp.put (y1:=⟨y0.n,y0.b.take (q.kp last),List.replicate (q.kp last) 0,y0.blk,y0.pb,q.kp last,y0.cb,y0.hb,y0.pc,q.kp last,y0.cc,Yj⟩) rfl ⟨dy,hc2,by simp only[length_replicate,Oe];omega⟩;rw[Fu FT Sp.split.symm dK (q1:=q.Dc last) (by unfold Gf.pl Ub.pl Ub.Dc Ub.cut;simp[VA,OK]),HT] at hnew;by_cases hnb:q.kp last<q.b.length
     .obtain⟨x,hx⟩:∃x,(List.replicate (q.kp last) (0:Int)++y0.cm.drop (q.kp last))[q.kp last]? =some x:=⟨_,Wg (by omega)⟩;have zy:=(Ub.at xD vA.1 (Xy x hx)).2 rfl;try refine run ?_
      refine D.as 9 (.int .i64 ((((qs.take (i+1)).map λq=>q.b.length - q.kp last).sum:Nat):Int)) rfl (by rw[Iq];congr 1;omega) ?_;refine D.flat (H':=[we d (.slice lp (gs.map Gf.gp).length lc) t,lh,qc (a++⟨y0.n,y0.b.take (q.kp last),List.replicate (q.kp last) 0,y0.blk,y0.pb,q.kp last,y0.cb,y0.hb,y0.pc,q.kp last,y0.cc,Yj⟩::b),R]) (by rw[mb];simp[Ao]) ?_;exact D.rd (i+1,a++⟨y0.n,y0.b.take (q.kp last),List.replicate (q.kp last) 0,y0.blk,y0.pb,q.kp last,y0.cb,y0.hb,y0.pc,q.kp last,y0.cc,Yj⟩::b) ⟨by simp only[];omega,hnew⟩ (by simp only[];omega)
     .try refine run ?_
      refine D.as 9 (.int .i64 ((((qs.take (i+1)).map λq=>q.b.length - q.kp last).sum:Nat):Int)) rfl (by rw[Iq];congr 1;omega) ?_;refine D.flat (H':=[we d (.slice lp (gs.map Gf.gp).length lc) t,lh,qc (a++⟨y0.n,y0.b.take (q.kp last),List.replicate (q.kp last) 0,y0.blk,y0.pb,q.kp last,y0.cb,y0.hb,y0.pc,q.kp last,y0.cc,Yj⟩::b),R]) (by rw[mb];simp[Ao]) ?_;exact D.rd (i+1,a++⟨y0.n,y0.b.take (q.kp last),List.replicate (q.kp last) 0,y0.blk,y0.pb,q.kp last,y0.cb,y0.hb,y0.pc,q.kp last,y0.cc,Yj⟩::b) ⟨by simp only[];omega,hnew⟩ (by simp only[];omega)
   .obtain rfl:i=qs.length:=by omega
    have Sy:LQ qs last qs.length=qs.map (λq=>q.Dc last):=by unfold LQ;rw[take_length,drop_length,append_nil]
    rw[Sy] at Sp;rw[take_length];try refine run ?_
    exact Xa [we d (.slice lp (gs.map Gf.gp).length lc) t,lh,qc gs'] rfl rfl ⟨last,gs',rfl,rfl,Sp,vA⟩
variable{α β:Type}{R:α->β->Prop}{l:List α}{m:List β}{a:α}
def Lf.s7(f:Lf):Nat:=(bytes (f.rs.take f.k)).length
structure FR(f:Lf)(q:Ub):Prop where
 n:q.n=f.n
 b:q.b=bytes f.rs
 s:q.s=f.s7
 e:q.s+q.ts.length=q.b.length
inductive Nk{α β:Type}(R:α->β->Prop):List α->List β->Prop
 |nil:Nk R [] []
 |cons {a:α} {b:β} {l:List α} {m:List β} (h:R a b) (t:Nk R l m):Nk R (a::l) (b::m)
def Nk.len(h:Nk R l m):l.length=m.length:=by
 induction h with
 |nil=>rfl
 |cons _ _ ih=>simp[ih]
def Nk.app{l':List α}{m':List β}(h:Nk R l m)(k:Nk R l' m'):Nk R (l++l') (m++m'):=by
 induction h with
 |nil=>exact k
 |cons a _ ih=>exact .cons a ih
def Nk.map_eq{γ:Type}{f:α->γ}{f':β->γ}(hf:∀a b,R a b->f' b=f a)(h:Nk R l m):m.map f'=l.map f:=by
 induction h with
 |nil=>rfl
 |cons a _ ih=>rw[map_cons,map_cons,ih,hf _ _ a]
def Nk.get(h:Nk R l m){i:Nat}{b:β}(ha:l[i]? =some a)(hb:m[i]? =some b):R a b:=by
 induction h generalizing i with
 |nil=>simp at ha
 |cons x _ ih=>
  cases i with
  |zero=>cases ha;cases hb;exact x
  |succ i=>exact ih (by simpa using ha) (by simpa using hb)
def Nk.lK(h:Nk R (l++[a]) m):∃m' b,m=m'++[b]/\Nk R l m'/\R a b:=by
 induction l generalizing m with
 |nil=>
  cases h with
  |cons x t=>cases t;exact⟨[],_,rfl,.nil,x⟩
 |cons y r ih=>
  cases h with
  |cons x t=>
   obtain⟨m',b,rfl,h1,h2⟩:=ih t;exact⟨_::m',b,rfl,.cons x h1,h2⟩
structure LR(l:List Lf)(qs:List Ub)(t:Int):Prop where
 m:Nk FR l qs
 inc:(Ye qs).Pairwise (· < ·)
 pos:∀x∈Ye qs,0<x/\x<=t
 t0:0<=t
section
variable{l:List Lf}{qs:List Ub}{t:Int}
def IT{qs:List Ub}{q:Ub}(hq:q∈qs){x:Int}(hx:x∈q.ts):x∈Ye qs:=mem_flatten.2 ⟨q.ts,mem_map.2 ⟨q,hq,rfl⟩,hx⟩
def LR.names(h:LR l qs t):qs.map (·.n)=l.map (·.n):=h.m.map_eq λ_ _ x=>x.n
def LR.lens(h:LR l qs t):(qs.map λq=>q.b.length)=l.map λf=>(bytes f.rs).length:=h.m.map_eq λ_ _ x=>by rw[x.b]
def LR.fr(h:LR l qs t){q:Ub}(hq:q∈qs):∃f∈l,FR f q:=by
 obtain⟨i,hi⟩:=mem_iff_getElem?.1 hq;have hlt:=(List.getElem?_eq_some_iff.1 hi).1;have hl:=h.m.len;refine⟨l[i],getElem_mem (by omega),h.m.get (Wg (by omega)) hi⟩
def LR.q(h:LR l qs t)(ok:Xu l):Ts qs where
 up:=by rw[h.names];exact pairwise_map.2 ok.up
 ok:=λq hq=>by
  obtain⟨f,_,hf⟩:=h.fr hq;exact⟨hf.e,λx hx=>(h.pos x (IT hq hx)).1⟩
 used:=by rw[h.lens];have:=ok.used;rw[Se] at this;exact this
 len:=by have:=ok.len;rw[h.m.len] at this;exact this
def LR.used(h:LR l qs t):Gu qs=(dk l).used:=by unfold Gu;rw[h.lens,Se]
def LR.nil:LR [] [] 0:=⟨.nil,.nil,by simp[Ye],Int.le_refl 0⟩
def XN{t:Int}{k:Nat}{x:Int}(h:x∈Rq t k):t<x/\x<=t+k:=by
 unfold Rq at h;obtain⟨i,hi,rfl⟩:=mem_map.1 h;have:=mem_range.1 hi;omega
def kZ(t:Int)(k:Nat):(Rq t k).Pairwise (· < ·):=by
 unfold Rq;rw[pairwise_map];exact List.Pairwise.imp (λh=>by omega) pairwise_lt_range
def Pk(a b:List Ub):Ye (a++b)=Ye a++Ye b:=by unfold Ye;rw[He,flatten_append]
def Fi(q:Ub):Ye [q]=q.ts:=by unfold Ye;simp
def LR.times{T:List Int}{t:Int}(hi:T.Pairwise (· < ·))(hp:∀x∈T,0<x/\x<=t)(h0:0<=t)(k:Nat):(T++Rq t k).Pairwise (· < ·)/\∀x∈T++Rq t k,0<x/\x<=t+k:=by
 refine⟨pairwise_append.2 ⟨hi,kZ t k,λa ha b hb=>?_⟩,λx hx=>?_⟩
 .have h1:=hp a ha;have h2:=XN hb;omega
 .rcases mem_append.1 hx with hx|hx
  .have:=hp x hx;omega
  .have:=XN hx;omega
def LR.new(h:LR l qs t)(n:Int)(r:Rec):LR (l++[⟨n,[r],0⟩]) (qs++[⟨n,r.fr,0,Rq t r.fr.length⟩]) (t+r.fr.length):=by
 obtain⟨h1,h2⟩:=LR.times h.inc h.pos h.t0 r.fr.length;refine⟨h.m.app (.cons ⟨rfl,(Tq r).symm,rfl,?_⟩ .nil),?_,?_,by have:=h.t0;omega⟩
 .simp only[Sq];omega
 .rw[Pk,Fi];exact h1
 .rw[Pk,Fi];exact h2
def LR.old{pre:List Lf}{f:Lf}{qp:List Ub}{q:Ub}(h:LR (pre++[f]) (qp++[q]) t)(hk:f.k<=f.rs.length)(r:Rec):LR (pre++[⟨f.n,f.rs++[r],f.k⟩]) (qp++[q.app r.fr t]) (t+r.fr.length):=by
 obtain⟨m',b',e,h1,h2⟩:=h.m.lK
 obtain⟨rfl,rfl⟩:qp=m'/\q=b':=by
  have:=append_inj' e rfl;exact⟨this.1,by simpa using this.2⟩
 have hi:=h.inc;have hp:=h.pos;rw[Pk,Fi] at hi hp;obtain⟨h3,h4⟩:=LR.times hi hp h.t0 r.fr.length;refine⟨h1.app (.cons ⟨h2.n,?_,?_,?_⟩ .nil),?_,?_,by have:=h.t0;omega⟩
 .show q.b++r.fr=_;rw[h2.b,mj,Tq]
 .show q.s=_;rw[h2.s];unfold Lf.s7;simp only[take_append_of_le_length hk]
 .show q.s+(q.ts++Rq t r.fr.length).length=(q.b++r.fr).length;rw[Eb,Eb,Sq];have:=h2.e;omega
 .rw[Pk,Fi];show(Ye qp++(q.ts++Rq t r.fr.length)).Pairwise _;rw[<-Sc];exact h3
 .rw[Pk,Fi];show ∀x∈Ye qp++(q.ts++Rq t r.fr.length),_;rw[<-Sc];exact h4
def JT(qs:List Ub):Ye (qs.map Ub.syn)=[]:=by
 unfold Ye;rw[flatten_eq_nil_iff];intro x hx;obtain⟨q,hq,rfl⟩:=mem_map.1 hx;obtain⟨p,_,rfl⟩:=mem_map.1 hq;rfl
def FR.syn{f:Lf}{q:Ub}(h:FR f q):FR f.full q.syn:=⟨h.n,h.b,by show q.b.length=_;rw[h.b];unfold Lf.s7 Lf.full;simp,by show q.b.length+0=q.b.length;omega⟩
def Nk.maps{α β α' β':Type}{R:α->β->Prop}{S:α'->β'->Prop}{f:α->α'}{f':β->β'}(hf:∀a b,R a b->S (f a) (f' b)){l:List α}{m:List β}(h:Nk R l m):Nk S (l.map f) (m.map f'):=by
 induction h with
 |nil=>exact .nil
 |cons a _ ih=>exact .cons (hf _ _ a) ih
def LR.sync(h:LR l qs t):LR (Ze l) (qs.map Ub.syn) t:=⟨h.m.maps λ_ _ x=>x.syn,by rw[JT];exact .nil,by rw[JT];simp,h.t0⟩
end
def RD(l:List Lf)(d:Nat)(h:Hp)(T:Int):Prop:=∃qs t,LR l qs t/\t<=T/\vg (qs.map Ub.pl) t d h
def RD.mono{l:List Lf}{T T':Int}(k:RD l d h T)(hT:T<=T'):RD l d h T':=by
 obtain⟨qs,t,a,b,c⟩:=k;exact⟨qs,t,a,by omega,c⟩
def RP{fs:List Pn}{t:Int}(hd:vg fs t d h)(hl:fs.length<=1099511627776){n:Int}(hlt:∀y∈fs,y.n<n):
  Ct prog 267 [d,n] [h] (λr H'=>r= .int .i64 0/\H'=[h]):=by
 obtain⟨lv,gs,lh,hd,rfl⟩:=hd;have hf:=yw (d:=d) (t:=t) hd hlt hl;unfold xw at hf;refine Ct.pack (pre:=[we d lv t,lh,qc gs]) (post:=λr H'=>r= .int .i64 0/\H'=[we d lv t,lh,qc gs]) ?_ (by simp) (λr H' p=>⟨[we d lv t++(lh++qc gs)],by rw[p.2];simp,p.1,rfl⟩);refine Tk func267 λg R=>?_;refine cq hf ?_;try refine run ?_
 exact Wi [we d lv t,lh,qc gs]
section
variable{l:List Lf}{d:Nat}{h hx:Hp}{T:Int}
def Vs{pre:List Lf}{f:Lf}{qs:List Ub}{t:Int}(h:LR (pre++[f]) qs t):∃qp q,qs=qp++[q]/\FR f q/\qp.length=pre.length:=by
 obtain⟨m',b',e,h1,h2⟩:=h.m.lK;exact⟨m',b',e,h2,h1.len.symm⟩
def SP(ok:Ie l)(hd:RD l d h T):Ct prog 267 [d,.int .i64 (va l)] [h] (λr H'=>r= .int .i64 ((dk l).size (va l):Int)/\H'=[h]):=by
 have hs:=zw ok;obtain⟨qs,t,lr,-,hd⟩:=hd;have Wu:=lr.q ok.toXu;have tg:=Wu.len;rcases eq_nil_or_concat l with rfl|⟨pre,f,rfl⟩
 .rw[hs];have hq:qs=[]:=by have:=lr.m.len;exact length_eq_zero_iff.1 (by simpa using this.symm)
  subst hq;exact RP hd (by decide) (by simp)
 .rw[concat_eq_append] at hs lr⊢;rw[List.getLast?_concat] at hs;rw[hs];obtain⟨qp,q,rfl,fr,-⟩:=Vs lr;have hq:(qp++[q])[qp.length]? =some q:=List.getElem?_concat_length;have:=BT hd Wu.qx (by rw[bf];omega) (rq hq);rw[show q.pl.n=va (pre++[f]) from by rw[Nb];exact fr.n,show q.pl.b=bytes f.rs from fr.b] at this;exact this
def mK{qp:List Ub}{q q1:Ub}:(qp++[q]).set qp.length q1=qp++[q1]:=by rw[set_append_right _ _ (Nat.le_refl _),Nat.sub_self];rfl
def KT(ok:Ie l)(hd:RD l d h T)(hT:T<=549755813888){r:Rec}(hc:r.code=0){u:Value}(hb:Rs r.fr u hx):
  Ct prog 217 [d,.int .i64 (GH l),u] [h,hx] (λres H'=>∃(e:Int) (h':Hp),res= .int .i64 e/\H'=[h',hx]/\(e=0↔(Db l r).2=0)/\RD (Db l r).1 d h' (T+243)):=by
 have hle:=(Rec.good hc).Jh;obtain⟨qs,t,lr,ht,hd⟩:=hd;have JL:=lr.t0;have Wu:=lr.q ok.toXu;have Sn:=lr.used;have tg:=lr.m.len;unfold Db;rw[if_neg (by simpa using hc)];rcases eq_nil_or_concat l with rfl|⟨pre,f,rfl⟩
 .have hq:qs=[]:=length_eq_zero_iff.1 (by simpa using tg.symm);subst hq;have:=tq Wu JL (by omega) hd (n:=0) (by simp) (Int.le_refl 0) (by decide) (by decide) hb (by rw[Sn,Ju];omega);refine Ct.mono this ?_;rintro _ H' ⟨h',rfl,e,hd'⟩;exact⟨0,h',rfl,e,⟨λ_=>rfl,λ_=>rfl⟩,_,_,LR.new lr 0 r,by omega,hd'⟩
 .rw[concat_eq_append] at ok lr Sn tg⊢;have hs:=zw ok;have hlo:=ok.lo f (by simp);have hhi:=ok.hi f (by simp);have hlm:=ok.len;rw[List.getLast?_concat] at hs⊢;simp only[dropLast_concat] at hs⊢;obtain⟨qp,q,rfl,fr,hqp⟩:=Vs lr
  have MT:∀x∈qp++[q],x.n<f.n+1:=λx hx=>by
   have Uk:=Wu.up;rw[He,pairwise_append] at Uk;have hfn:=fr.n;rcases mem_append.1 hx with hx|hx
   .have:=Uk.2.2 _ (mem_map.2 ⟨x,hx,rfl⟩) q.n (by simp);omega
   .rw[mem_singleton.1 hx];omega
  by_cases h4:4096<=(bytes f.rs).length
  .have htn:GH (pre++[f])=f.n+1:=by unfold GH;rw[hs,if_pos h4,Nb]
   rw[htn,if_pos h4];by_cases UP:1099511627776<f.n+1
   .rw[if_pos (.inl UP)];refine Ct.mono (sx (qs:=qp++[q]) (t:=t) (h:=h) (hx:=hx) UP) ?_;rintro _ H' ⟨rfl,e⟩;exact⟨50,h,rfl,e,⟨λh=>absurd h (by decide),λh=>absurd (show(51:Int)=0 from h) (by decide)⟩,_,_,lr,by omega,hd⟩
   by_cases Aw:64<=(pre++[f]).length\/1048576<(dk (pre++[f])).used+r.fr.length
   .rw[if_pos (.inr Aw)];refine Ct.mono (Hu Wu hd MT (by omega) (by omega) hb (by omega) (by rw[Sn,<-tg];exact Aw)) ?_;rintro _ H' ⟨rfl,e⟩;exact⟨51,h,rfl,e,⟨λh=>absurd h (by decide),λh=>absurd (show(51:Int)=0 from h) (by decide)⟩,_,_,lr,by omega,hd⟩
   .rw[if_neg (λh=>h.elim UP Aw)];simp only[not_or,Nat.not_le,Nat.not_lt] at Aw;refine Ct.mono (tq Wu JL (by omega) hd MT (by omega) (by omega) (by omega) hb (by rw[Sn];omega)) ?_;rintro _ H' ⟨h',rfl,e,hd'⟩;exact⟨0,h',rfl,e,⟨λ_=>rfl,λ_=>rfl⟩,_,_,LR.new lr (f.n+1) r,by omega,hd'⟩
  .have htn:GH (pre++[f])=f.n:=by unfold GH;rw[hs,if_neg h4,Nb]
   have hq:(qp++[q])[qp.length]? =some q:=List.getElem?_concat_length;have hfn:=fr.n;rw[htn,if_neg h4,<-hfn];by_cases Aw:1048576<(dk (pre++[f])).used+r.fr.length
   .rw[if_pos Aw];refine Ct.mono (EH Wu hd hq (by omega) (by omega) hb (by omega) (by rw[Sn];exact Aw)) ?_;rintro _ H' ⟨rfl,e⟩;exact⟨51,h,rfl,e,⟨λh=>absurd h (by decide),λh=>absurd (show(51:Int)=0 from h) (by decide)⟩,_,_,lr,by omega,hd⟩
   .rw[if_neg Aw];refine Ct.mono (kK Wu JL (by omega) hd hq (by omega) (by omega) hb (by show Gu _+_<=_;rw[Sn];omega)) ?_;rintro _ H' ⟨h',rfl,e,hd'⟩;rw[mK] at hd';rw[hfn];exact⟨0,h',rfl,e,⟨λ_=>rfl,λ_=>rfl⟩,_,_,LR.old lr (ok.k f (by simp)) r,by omega,hd'⟩
end
abbrev uf(w d:Nat)(seg Ba:Int):Hp:=[(w,.cells (List.toArray [d,seg,Ba]) 231 (0,0))]
def EV{l:List Lf}(ok:Ie l){d:Nat}{h:Hp}{T:Int}(hd:RD l d h T){rs:List Rec}{v:Value}{hx:Hp}(hr:Rs rs v hx)(hl:rs.length<=1000000)(Qh:0<=T)(hT:T<=274877906944)(hz:∀r∈rs,r.size<=1073741824){w:Nat}{Ba:Int}:
  Ct prog 219 [w,v] [uf w d (va l) Ba,h,hx] (λres H'=>∃h',res= .int .i64 (Pp l rs).2/\H'=[uf w d (va (Pp l rs).1) Ba,h',hx]/\RD (Pp l rs).1 d h' (T+243*(rs.length:Int))):=by
 refine Tk func219 λg R=>?_
 refine W.lo (α:=Nat×List Lf×Hp) (λx=>x.1<=rs.length/\Ie x.2.1/\RD x.2.1 d x.2.2 (T+243*(x.1:Int))/\Pp l rs=Pp x.2.1 (rs.drop x.1))
  (λx=>[(0,w),(1,v),(5,.int .i64 (x.1:Int))])
  (λx=>[uf w d (va x.2.1) Ba,x.2.2,hx,R]) (λx=>rs.length - x.1) (0,l,h) ⟨di _,ok,by simpa using hd,rfl⟩ ?_
 rintro⟨i,m,y⟩ ⟨hi,Eg,ID,he⟩;simp only[] at hi Eg ID he⊢;by_cases hlt:i<rs.length
 .obtain⟨r,iZ⟩:=Lh hlt;rw[hG iZ] at he;have hsz:=hz r (mem_of_getElem? iZ);have PK:=NN r hsz;have hsc:=SP Eg ID;have nr:=Lg Eg;by_cases hc:r.code=0
  .rw[hc] at PK;obtain⟨hA,hB⟩:=wA Eg hc;have Ko:=Eg.HE r;try refine run ?_
   refine ck PK ?_;rintro _ _ ⟨u2,h2,rfl,rfl,Sa⟩;have hap:=KT Eg ID (by omega) hc Sa.rs;have htn:GH m=if 4096<=(dk m).size (va m) then va m+1 else va m:=rfl
   have G6:(Db m r).2=0->va (Db m r).1=GH m:=λh0=>by
    by_cases hE:(dk m).Tg (GH m) r.fr.length=0
    .exact(hB hE).2.2
    .rw[hA hE] at h0;exact absurd (show(51:Int)=0 from h0) (by decide)
   have vk:(Db m r).2≠0->(Db m r)=(m,51):=λh0=>by
    by_cases hE:(dk m).Tg (GH m) r.fr.length=0
    .exact absurd (hB hE).1 h0
    .exact hA hE
   simp only[can];by_cases h4:4096<=(dk m).size (va m)
   .rw[if_pos h4] at htn;rw[htn] at hap G6;try refine run ?_
    refine cq hsc ?_;try refine run ?_
    refine ck hap ?_;rintro _ _ ⟨e,y',rfl,rfl,hee,Ip⟩;simp only[can];by_cases hE:(Db m r).2=0
    .have DW:=hee.2 hE;subst DW;rw[if_neg (λhn=>hn hE)] at he;try refine run ?_
     rw[<-G6 hE];exact D.rd (i+1,(Db m r).1,y') ⟨by simp only[];omega,Ko,Ip.mono (by simp only[];omega),he⟩ (by simp only[];omega)
    .have DW: ¬e=0:=λh0=>hE (hee.1 h0);rw[if_pos hE,vk hE] at he;rw[vk hE] at Ip;try refine run ?_
     exact Xa [uf w d (va m) Ba,y',hx] rfl rfl ⟨y',by rw[he],by rw[he],by rw[he];exact Ip.mono (by omega)⟩
   .rw[if_neg h4] at htn;rw[htn] at hap G6;try refine run ?_
    refine cq hsc ?_;try refine run ?_
    refine ck hap ?_;rintro _ _ ⟨e,y',rfl,rfl,hee,Ip⟩;simp only[can];by_cases hE:(Db m r).2=0
    .have DW:=hee.2 hE;subst DW;rw[if_neg (λhn=>hn hE)] at he;try refine run ?_
     rw[<-G6 hE];exact D.rd (i+1,(Db m r).1,y') ⟨by simp only[];omega,Ko,Ip.mono (by simp only[];omega),he⟩ (by simp only[];omega)
    .have DW: ¬e=0:=λh0=>hE (hee.1 h0);rw[if_pos hE,vk hE] at he;rw[vk hE] at Ip;try refine run ?_
     exact Xa [uf w d (va m) Ba,y',hx] rfl rfl ⟨y',by rw[he],by rw[he],by rw[he];exact Ip.mono (by omega)⟩
  .rw[iG hc,if_pos hc] at he;try refine run ?_
   refine ck PK ?_;rintro _ _ ⟨u2,h2,rfl,rfl,Sa⟩;refine rn ?_;exact Xa [uf w d (va m) Ba,y,hx] rfl rfl ⟨y,by rw[he],by rw[he],by rw[he];exact ID.mono (by omega)⟩
 .have hlen:rs.drop i=[]:=drop_eq_nil_of_le (by omega);rw[hlen] at he;try refine run ?_
  exact Xa [uf w d (va m) Ba,y,hx] rfl rfl ⟨y,by rw[he];rfl,by rw[he];rfl,by rw[he];exact ID.mono (by omega)⟩
variable{l:List Lf}{T seg:Int}
def YN(qs:List Ub)(i:Nat):List Ub:=(qs.take i).map Ub.syn++qs.drop i
def lZ{i:Nat}{q:Ub}(h:qs[i]? =some q):(YN qs i)[i]? =some q/\(YN qs i).set i q.syn=YN qs (i+1):=by
 obtain⟨h1,h2⟩:=List.getElem?_eq_some_iff.1 h;have hl:((qs.take i).map Ub.syn).length=i:=by rw[bf,Oe];omega
 unfold YN;have hd:qs.drop i=q::qs.drop (i+1):=by rw[drop_eq_getElem_cons h1,h2]
 constructor
 .rw[List.getElem?_append_right (by omega),hl,Nat.sub_self,hd];rfl
 .rw[set_append_right _ _ (by omega),hl,Nat.sub_self,hd,set_cons_zero,take_succ_eq_append_getElem h1,h2,He,Sc];rfl
def JH{γ:Type}{f:Ub->γ}(hf:∀q,f q.syn=f q)(qs:List Ub)(i:Nat):(YN qs i).map f=qs.map f:=by
 unfold YN;rw[He,map_map]
 conv=>rhs;rw[<-take_append_drop i qs,He]
 congr 1;exact map_congr_left λx _=>hf x
def NT(ok:Ts qs)(i:Nat):Ts (YN qs i) where
 up:=by rw[JH (f:=(·.n)) (λ_=>rfl)];exact ok.up
 ok:=λq hq=>by
  unfold YN at hq;rcases mem_append.1 hq with hq|hq
  .obtain⟨p,hp,rfl⟩:=mem_map.1 hq;exact⟨by show p.b.length+0=p.b.length;omega,by show ∀x∈[],_;simp⟩
  .exact ok.ok q (mem_of_mem_drop hq)
 used:=by rw[JH (f:=λq=>q.b.length) (λ_=>rfl)];exact ok.used
 len:=by have:=ok.len;have h2:=congrArg List.length (JH (f:=(·.n)) (λ_=>rfl) qs i);simp only[bf] at h2;omega
def Qz(ok:Ie l)(hd:RD l d h T){w:Nat}{Ba:Int}:
  Ct prog 139 [w] [uf w d seg Ba,h] (λres H'=>∃h',H'=[uf w d seg Ba,h']/\RD (Ze l) d h' T):=by
 obtain⟨qs,t,lr,ht,hd⟩:=hd;have Wu:=lr.q ok.toXu;have tg:=Wu.len;have zC:=Qq hd (by rw[bf];omega);have hnm:(qs.map Ub.pl).map (·.n)=qs.map (·.n):=by rw[map_map];rfl
 rw[hnm] at zC;have hnl:(qs.map (·.n)).length=qs.length:=bf _;refine Tk func139 λg R=>?_;refine ck zC ?_;rintro u _ ⟨hn,rfl,hs⟩;have hr:=hs.rs;refine rn ?_
 refine W.lo (α:=Nat×Hp) (λx=>x.1<=qs.length/\vg ((YN qs x.1).map Ub.pl) t d x.2) (λx=>[(0,w),(2,u),(3,.int .i64 (x.1:Int))])
  (λx=>[uf w d seg Ba,x.2,hn,R]) (λx=>qs.length - x.1) (0,h) ⟨di _,by simpa[YN] using hd⟩ ?_
 rintro⟨i,y⟩ ⟨hi,Sp⟩;simp only[] at hi Sp⊢;by_cases hil:i<qs.length
 .obtain⟨q,hq⟩:=Lh hil;have MT:(qs.map (·.n))[i]? =some q.n:=by rw[List.getElem?_map,hq];rfl
  obtain⟨h1,h2⟩:=lZ hq;have Gt:=iK (NT Wu i) Sp h1;rw[h2] at Gt;try refine run ?_
  refine iX (ml [8]) [uf w d seg Ba,hn] ?_;try refine run ?_
  refine ck Gt ?_;rintro _ _ ⟨y',rfl,rfl,Ip⟩;refine rn ?_;exact D.rd (i+1,y') ⟨by simp only[];omega,Ip⟩ (by simp only[];omega)
 .obtain rfl:i=qs.length:=by omega
  have Sy:YN qs qs.length=qs.map Ub.syn:=by unfold YN;rw[take_length,drop_length,append_nil]
  rw[Sy] at Sp;try refine run ?_
  exact D.fc [uf w d seg Ba,y] _ rfl ⟨y,rfl,_,t,lr.sync,ht,Sp⟩
def ru(ok:Ie l)(hd:RD l d h T){w:Nat}{Ba:Int}(n:Int):
  Ct prog 135 [w,n] [uf w d seg Ba,h] (λres H'=>res= .bool (Ee l n)/\H'=[uf w d seg Ba,h]):=by
 obtain⟨qs,t,lr,ht,hd⟩:=hd;have Wu:=lr.q ok.toXu;have tg:=Wu.len;have hml:=lr.m.len;have Sn:=lr.used;have hu1:=ok.used;have zC:=Qq hd (by rw[bf];omega);have hnm:(qs.map Ub.pl).map (·.n)=qs.map (·.n):=by rw[map_map];rfl
 rw[hnm] at zC;have hnl:(qs.map (·.n)).length=qs.length:=bf _
 have K0:Ct prog 213 [d] [h] (λr H'=>r= .int .i64 ((dk l).used:Int)/\H'=[h]):=by
  obtain⟨lv,gs,lh,VO,rfl⟩:=hd;rw[<-Sn];exact(Ey (d:=d) (t:=t) Wu VO).pack (by simp) (λr H' p=>⟨[we d lv t++(lh++qc gs)],by rw[p.2];simp,p.1,rfl⟩)
 refine ce func135 λg R=>?_;simp only[can];unfold Ee;by_cases h0:0<=n
 .by_cases h2:n<=2048
  .try refine run ?_
   refine ck zC ?_;rintro u _ ⟨hn,rfl,hs⟩;have hr:=hs.rs;simp only[can];by_cases h63:l.length<63
   .try refine run ?_
    refine cq K0 ?_;repeat' first|refine run ?_|refine WX.mul rfl rfl rfl (by omega) ?_
    exact Xa [uf w d seg Ba,h] rfl rfl ⟨by congr 1;rw[decide_eq_decide];omega,rfl⟩
   .try refine run ?_
    exact Xa [uf w d seg Ba,h] rfl rfl ⟨by rw[rj (by omega)],rfl⟩
  .try refine run ?_
   exact Xa [uf w d seg Ba,h] rfl rfl ⟨by rw[rj (by omega)],rfl⟩
 .try refine run ?_
  exact Xa [uf w d seg Ba,h] rfl rfl ⟨by rw[rj (by omega)],rfl⟩
structure Ki where
 (k dc rg nd:Int)
 deriving DecidableEq
def Ki.enc(a:Ki):List Value:=[a.k,a.dc,a.rg,a.nd]
structure Da where
 kind:Int
 (fr to:Ki)
 (ep ix ct op tr:Int)
 cf:Wa
 en:ya
 has:Bool
 (key val:ByteArray)
 (dead snap:Bool)
 (dp av:V9)
 (c0 c1 c2 code:Int)
 deriving DecidableEq
def Da.enc(m:Da):List Value:=
 m.kind::(m.fr.enc++(m.to.enc++([.int .i64 m.ep,.int .i64 m.ix,.int .i64 m.ct,.int .i64 m.op,.int .i64 m.tr]++(m.cf.enc++(m.en.enc++
  ([.bool m.has,.string m.key,.string m.val,.bool m.dead,.bool m.snap]++(m.dp.enc++(m.av.enc++[.int .i64 m.c0,.int .i64 m.c1,.int .i64 m.c2,.int .i64 m.code]))))))))
instance:Qb Da:=⟨74,Da.enc,λ_=>rfl,λ_=>rfl,by decide⟩
def Ki.z:Ki:=⟨0,0,0,0⟩
def Da.z:Da:=⟨0,Ki.z,Ki.z,0,0,0,0,0,Wa.z,ya.z,false,ByteArray.empty,ByteArray.empty,false,false,V9.z,V9.z,0,0,0,0⟩
variable{hd:Hp}
abbrev Mb(b cb:Nat)(dc rg nd:Int)(d w:Nat)(up:Bool):Hp:=[(b,.cells (List.toArray [cb,dc,rg,nd,d,w,.bool up]) 78 (0,0))]
def hY(b cb:Nat)(dc rg nd:Int)(d w:Nat)(up:Bool):Ct prog 24 [b] [Mb b cb dc rg nd d w up] (λr H'=>r= .bool up/\H'=[Mb b cb dc rg nd d w up]):=by
 refine ng func24 λg R=>?_;exact Wi [Mb b cb dc rg nd d w up]
def AV(l:List Lf):Int:=if Ee l 1=true then 0 else 51
def NG(ok:Ie l)(b cb:Nat)(dc rg nd:Int){w:Nat}{seg Ba:Int}(hdk:Od (dk l) d hd):Ct prog 144 [b] [Mb b cb dc rg nd d w true,zf w d seg Ba,hd] (λr H'=>r= .int .i64 (AV l)/\H'=[Mb b cb dc rg nd d w true,zf w d seg Ba,hd]):=by
 have hrm:=jN ok hdk (w:=w) (seg:=seg) (Ba:=Ba) 1;unfold AV;refine ce func144 λg R=>?_;simp only[can]
 cases hr:Ee l 1 with
 |true=>
  rw[hr] at hrm;repeat' first|refine ga ?_|refine cq hrm ?_
  exact Wi [Mb b cb dc rg nd d w true,zf w d seg Ba,hd]
 |false=>
  rw[hr] at hrm;repeat' first|refine ga ?_|refine cq hrm ?_
  exact Wi [Mb b cb dc rg nd d w true,zf w d seg Ba,hd]
def Ez(b cb:Nat)(dc rg nd:Int)(d w:Nat):Ct prog 144 [b] [Mb b cb dc rg nd d w false] (λr H'=>r= .int .i64 52/\H'=[Mb b cb dc rg nd d w false]):=by
 refine ng func144 λg R=>?_;exact Wi [Mb b cb dc rg nd d w false]
def xd(l:List Lf)(c:CS)(was:Int):List Lf:=if was<c.len then(Db l (Km (c.lg.getD was.toNat ya.z))).1 else l
def Gv(ok:Ie l)(b cb:Nat)(dc rg nd:Int){w:Nat}{Ba:Int}(hdk:Od (dk l) d hd){c:CS}(xb:Ob c){v:Value}{hv:Hp}(hs:Rs c.lg v hv){was:Int}(h0:0<=was)(h1:was<=1000):
  Ct prog 147 [b,was] [Mb b cb dc rg nd d w true,ja cb c v,hv,zf w d (va l) Ba,hd]
   (λr H'=>r= .tuple #[]/\∃hd',H'=[Mb b cb dc rg nd d w true,ja cb c v,hv,zf w d (va (xd l c was)) Ba,hd']/\Od (dk (xd l c was)) d hd'):=by
 have tg:=xb.len;have hlen:c.len=(c.lg.length:Int):=rfl;have Cj:=XK c cb hs (by omega) (was+1) (by omega);unfold xd;by_cases hw:was<c.len
 .rw[if_pos hw];rw[if_pos (show 1<=was+1/\was+1<=c.len by omega),Mi (show 1<=was+1/\was+1<=c.len by omega),show(was+1).toNat - 1=was.toNat by omega] at Cj;obtain⟨e,he⟩:∃e,c.lg.getD was.toNat ya.z=e:=⟨_,rfl⟩
  have Y5:ud e:=by
   have hlt:was.toNat<c.lg.length:=by omega
   rw[<-he,getD_eq_getElem?_getD,Wg hlt];exact xb.es _ (getElem_mem hlt)
  rw[he] at Cj⊢;refine ce func147 λg R=>?_;repeat' first|refine Za ?_|refine al λ_=>?_|refine cq Cj ?_|refine xg ya.z.enc e.enc ?_
  rename_i b4;refine KK (ml [6,1]) [Mb b cb dc rg nd d w true,Gb b4 e] ?_;repeat' first|refine ga ?_|refine Xf (t:=49) e.enc e.enc ?_|refine jf (t:=140) (Km e).enc ?_
  refine Up [Km e] (λv2 h2 Sa=>?_);try refine ga ?_
  have js:=BL ok hdk Sa.rs (by simp) (λr hr=>by
   rw[mem_singleton.1 hr];have hk:=Y5.key;have hv:=Y5.val;show e.key.data.toList.length+e.val.data.toList.length<=1073741824;rw[show e.key.data.toList.length=e.key.size from Array.length_toList,show e.val.data.toList.length=e.val.size from Array.length_toList];omega) (w:=w) (Ba:=Ba)
  rw[MG] at js;refine ck js ?_;rintro _ _ ⟨hd',rfl,rfl,Hj⟩;refine Za ?_;exact D.fc [Mb b cb dc rg nd d w true,ja cb c v,hv,zf w d (va (Db l (Km e)).1) Ba,hd'] _ rfl ⟨rfl,hd',rfl,Hj⟩
 .rw[if_neg hw];rw[if_neg (show ¬(1<=was+1/\was+1<=c.len) by omega),rj (show ¬(1<=was+1/\was+1<=c.len) by omega)] at Cj;refine ce func147 λg R=>?_;repeat' first|refine Za ?_|refine al λ_=>?_|refine cq Cj ?_|refine xg ya.z.enc ya.z.enc ?_
  exact D.fc [Mb b cb dc rg nd d w true,ja cb c v,hv,zf w d (va l) Ba,hd] _ rfl ⟨rfl,hd,rfl,hdk⟩
end Go.Proofs.YthebagfahkebiaaGreat
