/- Texts of one road. -/
import Derived.Test.YthebagfahkebiaaGreatRAW
set_option linter.all false
set_option maxHeartbeats 8000000
set_option maxRecDepth 20000
namespace Go.Proofs.YthebagfahkebiaaGreat
open Go Go.Sl Go.Proofs.Tryz List
variable{hd:List ya}{hh:Hp}
def MR{es:List ya}{v u:Value}{hu:Hp}(hs:ia 49 hd v hh)(he:Rs es u hu)(b:Nat)(rg:Int)(hl:hd.length<=16)(hel:es.length<=1000):
  Ct prog 93 [b,u] [Oa b rg v,hh,hu] (λr H'=>∃k v' zj,r= .int .i64 k/\H'=[Oa b rg v',zj,hu]/\ia 49 (es.foldl (Vg rg) hd) v' zj):=by
 obtain⟨pu,cu,rfl⟩:=he.len;refine ng func93 λg R=>?_
 refine W.lo (α:=Nat×Nat×Value×Hp) (λx=>x.1<=es.length/\x.2.1<=x.1/\ia 49 ((es.take x.1).foldl (Vg rg) hd) x.2.2.1 x.2.2.2/\((es.take x.1).foldl (Vg rg) hd).length<=16)
  (λx=>[(0,b),(1,.slice pu es.length cu),(5,.int .i64 (x.2.1:Int)),(6,.int .i64 (x.1:Int))]) (λx=>[Oa b rg x.2.2.1,x.2.2.2,hu,R]) (λx=>es.length - x.1) (0,0,v,hh) ⟨di _,Nat.le_refl _,hs,hl⟩ ?_
 clear hs hl;rintro⟨i,n,v,hh⟩ ⟨hi,hni,hs,hl⟩;simp only[] at hi hni hs hl⊢;by_cases hlt:i<es.length
 .obtain⟨e,hx⟩:=Lh hlt;have hn:(es.take (i+1)).foldl (Vg rg) hd=Vg rg ((es.take i).foldl (Vg rg) hd) e:=by rw[take_add_one,hx,foldl_append];rfl
  generalize(es.take i).foldl (Vg rg) hd=l at hs hl hn;have hR:=Rt e;have Mw:=hs.rs;obtain⟨pv,cv,rfl⟩:=Mw.len;repeat' first|refine ga ?_|refine al λ_=>?_|refine Vx he hx ?_|refine xg ya.z.enc e.enc ?_
  rename_i b7
  refine W.lo (α:=Nat) (λk=>k<=l.length) (λk=>[(0,b),(1,.slice pu es.length cu),(5,.int .i64 (n:Int)),(6,.int .i64 (i:Int)),(7,b7),(8,.bool ((l.take k).any (Mj e))),(9,.int .i64 (k:Int))])
   (λ_=>[Gb b7 e,Oa b rg (.slice pv l.length cv),hh,hu,R]) (λk=>l.length - k) 0 (di _) ?_
  intro k hk;by_cases hlk:k<l.length
  .obtain⟨y,hy⟩:=Lh hlk;have iw:(l.take (k+1)).any (Mj e)=((l.take k).any (Mj e)||Mj e y):=by rw[take_add_one,hy,any_append];simp
   have hcmp:=RS y e;generalize(l.take k).any (Mj e)=tb at iw⊢
   cases tb with
   |true=>
    try refine ga ?_
    refine sj ?_;refine D.as 8 (.bool ((l.take (k+1)).any (Mj e))) rfl (by rw[iw];rfl) ?_
    exact D.re (k+1)
   |false=>
    try refine ga ?_
    refine wq ?_;repeat' first|refine ga ?_|refine bn b7 0 e.enc [e.dc,e.rg,e.sq] ?_|refine lF (us:=[y.dc,y.rg,y.sq]) rfl Mw ?_ (hk:=hy) (ho:=rfl)|refine WX.aq rfl rfl hcmp rfl ?_
    refine D.as 8 (.bool ((l.take (k+1)).any (Mj e))) rfl (by rw[iw];rfl) ?_;exact D.re (k+1)
  obtain rfl:k=l.length:=by omega
  rw[take_length]
  have neg: ¬(ud e/\e.rg=rg/\l.any (Mj e)=false/\l.length<16)->ia 49 ((es.take (i+1)).foldl (Vg rg) hd) (.slice pv l.length cv) hh/\((es.take (i+1)).foldl (Vg rg) hd).length<=16:=λh=>by
   rw[hn,show Vg rg l e=l from if_neg h];exact⟨hs,hl⟩
  cases ha:l.any (Mj e)<;>by_cases hE:ud e<;>by_cases hg:e.rg=rg<;>by_cases yY:l.length<16
  .clear neg;rw[show Vg rg l e=_ from if_pos ⟨hE,hg,ha,yY⟩] at hn;rw[Mi hE] at hR;try refine ga ?_
   refine Wp (ml [1,1,21]) [Gb b7 e,Oa b rg (.slice pv l.length cv)] ?_;repeat' first|refine ga ?_|refine Pg e.enc ?_|refine cq hR ?_
   refine Wp (ml [6,2]) [Gb b7 e,Oa b rg (.slice pv l.length cv)] ?_;repeat' first|refine ga ?_|refine Pg e.enc ?_
   refine Up [e] (λv4 h4 hs4=>?_);try refine ga ?_
   refine Jt (zb:=by simp only[Ib,td];omega) hs hs4.rs (λv5 h5 hs5=>?_);rw[<-hn] at hs5;obtain⟨p5,c5,rfl⟩:=hs5.rs.len;try refine ga ?_
   refine ei [rg,.slice pv l.length cv] [rg,.slice p5 ((es.take (i+1)).foldl (Vg rg) hd).length c5] ?_;try refine ga ?_
   refine D.as 5 (.int .i64 ((n+1:Nat):Int)) rfl (by congr 1) ?_;exact D.rd (i+1,n+1,.slice p5 ((es.take (i+1)).foldl (Vg rg) hd).length c5,h5) ⟨by simp only[];omega,by simp only[];omega,hs5,by simp only[hn,Eb,Ib,td];omega⟩ (by simp only[];omega)
  all_goals
   have neg:=neg (by simp only[ha,hE,hg,yY,and_true,and_false,true_and,false_and,not_false_eq_true,Bool.true_eq_false]);first|rw[Mi hE] at hR|rw[rj hE] at hR
   try refine ga ?_
   refine Wp (ml [1,1,21]) [Gb b7 e,Oa b rg (.slice pv l.length cv)] ?_;repeat' first|refine ga ?_|refine Pg e.enc ?_|refine cq hR ?_
   exact D.rd (i+1,n,.slice pv l.length cv,hh) ⟨by simp only[];omega,by simp only[];omega,neg⟩ (by simp only[];omega)
 .obtain rfl:i=es.length:=by omega
  rw[take_length] at hs;try refine ga ?_
  exact Xa [Oa b rg v,hh,hu] rfl rfl ⟨_,v,hh,rfl,rfl,hs⟩
def oL{v:Value}(hs:ia 49 hd v hh)(b:Nat)(rg:Int)(hl:hd.length<=16)(hv:V9)(hok:∀e∈hd,cM hv e):
  Ct prog 186 [b,.agg (List.toArray hv.enc)] [Oa b rg v,hh] (λr H'=>∃k v' zj,r= .int .i64 k/\H'=[Oa b rg v',zj]/\ia 49 (hd.filter λe=>decide (hv.of e<e.sq)) v' zj):=by
 have hr:=hs.rs;obtain⟨pv,cv,rfl⟩:=hr.len;refine ce func186 λg R=>?_;repeat' first|refine Za ?_|refine Uc λ_=>?_
 rename_i b3;refine W.h0 [Ra b3 hv,Oa b rg (.slice pv hd.length cv),hh,R] ?_
 refine W.lo (α:=Nat×Value×Hp) (λx=>x.1<=hd.length/\ia 49 ((hd.take x.1).filter λe=>decide (hv.of e<e.sq)) x.2.1 x.2.2) (λx=>[(0,b),(3,b3),(5,x.2.1),(6,.int .i64 (x.1:Int))])
  (λx=>[x.2.2,Ra b3 hv,Oa b rg (.slice pv hd.length cv),hh,R]) (λx=>hd.length - x.1) (0,.slice none 0 0,[]) ⟨di _,ia.nil _⟩ ?_
 rintro⟨i,v2,h2⟩ ⟨hi,Sa⟩;simp only[] at hi Sa⊢;have hle:((hd.take i).filter λe=>decide (hv.of e<e.sq)).length<=16:=by have:=length_filter_le (λe=>decide (hv.of e<e.sq)) (hd.take i);rw[Oe] at this;omega
 by_cases hlt:i<hd.length
 .obtain⟨e,hx⟩:=Lh hlt;have JY:=VF (hok e (mem_of_getElem? hx))
  have hn:((hd.take (i+1)).filter λe=>decide (hv.of e<e.sq))=((hd.take i).filter λe=>decide (hv.of e<e.sq))++(if hv.of e<e.sq then[e] else[]):=by
   rw[take_add_one,hx,filter_append];congr 1;by_cases h:hv.of e<e.sq<;>simp[h]
  generalize((hd.take i).filter λe=>decide (hv.of e<e.sq))=l at Sa hn hle;try refine ga ?_
  refine Wp (ml [17,1,1]) [Ra b3 hv,Oa b rg (.slice pv hd.length cv),hh] ?_;by_cases hc:hv.of e<e.sq
  .rw[if_pos hc] at hn;repeat' first|refine ga ?_|refine Vx hr hx ?_|refine Pg hv.enc ?_|refine cq JY ?_
   refine Up [e] (λv4 h4 hs4=>?_);refine Jt (zb:=by simp only[Ib,td];omega) Sa hs4.rs (λv5 h5 hs5=>?_);rw[<-hn] at hs5;try refine ga ?_
   exact D.rd (i+1,v5,h5) ⟨by simp only[];omega,hs5⟩ (by simp only[];omega)
  .rw[if_neg hc,append_nil] at hn;repeat' first|refine ga ?_|refine Vx hr hx ?_|refine Pg hv.enc ?_|refine cq JY ?_
   exact D.rd (i+1,v2,h2) ⟨by simp only[];omega,by rw[hn];exact Sa⟩ (by simp only[];omega)
 .obtain rfl:i=hd.length:=by omega
  rw[take_length] at Sa hle;obtain⟨pw,cw,rfl⟩:=Sa.rs.len;try refine ga ?_
  refine ei [rg,.slice pv hd.length cv] [rg,.slice pw (hd.filter λe=>decide (hv.of e<e.sq)).length cw] ?_;try refine ga ?_
  exact Xa [Oa b rg (.slice pw (hd.filter λe=>decide (hv.of e<e.sq)).length cw),h2] rfl rfl ⟨_,_,_,rfl,rfl,Sa⟩
def PO{hd:List ya}{v:Value}{hh:Hp}(hs:ia 49 hd v hh)(b:Nat)(rg:Int)(hl:hd.length<=16)(hv:V9)(hok:∀e∈hd,cM hv e):
  Ct prog 188 [b,.agg (List.toArray hv.enc)] [Oa b rg v,hh] (λr H'=>∃v' zj,r=jW (Ar hv hd).1/\H'=[Oa b rg v',zj]/\ia 49 (Ar hv hd).2 v' zj):=by
 have hr:=hs.rs;obtain⟨pv,cv,rfl⟩:=hr.len;refine ce func188 λg R=>?_;repeat' first|refine Za ?_|refine Uc λ_=>?_|refine al λ_=>?_
 rename_i b3 b4;refine W.h0 [Gb b4 ya.z,Ra b3 hv,Oa b rg (.slice pv hd.length cv),hh,R] ?_
 refine W.lo (α:=Nat) (λk=>k<=hd.length) (λk=>[(0,b),(3,b3),(4,b4),(6,.int .i64 (Ad hv hd k)),(7,.int .i64 (k:Int))])
  (λ_=>[Gb b4 ya.z,Ra b3 hv,Oa b rg (.slice pv hd.length cv),hh,R]) (λk=>hd.length - k) 0 (di _) ?_
 intro k hk;obtain⟨r1,r2⟩:=Em hv hd k;by_cases hlt:k<hd.length
 .obtain⟨e,hx⟩:=Lh hlt;have he:=hok e (mem_of_getElem? hx);have JY:=VF he;obtain⟨g1,g2⟩:=he.rg;obtain⟨g3,g4⟩:=he.sq;have hge:hd.getD k ya.z=e:=by rw[getD_eq_getElem?_getD,hx];rfl
  have hn:Ad hv hd (k+1)=if wu hv e/\(Ad hv hd k<0\/Vl e (hd.getD (Ad hv hd k).toNat ya.z)<0) then(k:Int) else Ad hv hd k:=by rw[<-hge];rfl
  have si:=dM hv e.dp;repeat' first|refine ga ?_|refine al λ_=>?_|refine Vx hr hx ?_|refine xg ya.z.enc e.enc ?_
  rename_i b8;have hcs:∀y:ya,Ct prog 247 [qX e,qX y] [] (λr H'=>r= .int .i64 (Vl e y)/\H'=[]):=λy=>FJ e y;refine Wp (ml [6,1,5,1,2]) [Gb b8 e,Ra b3 hv] ?_;by_cases c1:e.sq=hv.of e+1<;>by_cases c2:YE hv e.dp<;>first|rw[Mi c2] at si|rw[rj c2] at si
  .by_cases c3:Ad hv hd k<0
   .rw[if_pos ⟨⟨c1,c2⟩,.inl c3⟩] at hn;repeat' first|refine ga ?_|refine Pg hv.enc ?_|refine bn b8 9 e.enc e.dp.enc ?_|refine Pg e.enc ?_|refine cq JY ?_|refine cq si ?_
    refine Wp (ml [13,1,2]) [Gb b8 e,Oa b rg (.slice pv hd.length cv),hh] ?_;try refine ga ?_
    refine D.as 6 (.int .i64 (Ad hv hd (k+1))) rfl (by rw[hn]) ?_;exact D.re (k+1)
   .obtain⟨J,hJ⟩:∃J:Nat,Ad hv hd k=(J:Int):=⟨(Ad hv hd k).toNat,by omega⟩;obtain⟨y,hy⟩:∃y,hd[J]? =some y:=⟨_,Wg (by omega)⟩;have IY:hd.getD J ya.z=y:=by rw[getD_eq_getElem?_getD,hy];rfl
    have hcs:=hcs y;rw[hJ,Int.toNat_natCast,IY] at hn;rw[hJ] at r2⊢;by_cases c4:Vl e y<0
    .rw[if_pos ⟨⟨c1,c2⟩,.inr c4⟩] at hn;repeat' first|refine ga ?_|refine Pg hv.enc ?_|refine bn b8 9 e.enc e.dp.enc ?_|refine Pg e.enc ?_|refine cq JY ?_|refine cq si ?_
     refine Wp (ml [13,1,2]) [Gb b8 e,Oa b rg (.slice pv hd.length cv),hh] ?_;repeat' first|refine ga ?_|refine bn b8 3 e.enc [e.ct,e.sd,e.sr] ?_|refine lF (us:=[y.ct,y.sd,y.sr]) rfl hr ?_ (hk:=hy) (ho:=rfl)|refine cq hcs ?_
     refine D.as 6 (.int .i64 (Ad hv hd (k+1))) rfl (by rw[hn]) ?_;exact D.re (k+1)
    .rw[if_neg λh=>h.2.elim (λh=>by omega) c4] at hn;repeat' first|refine ga ?_|refine Pg hv.enc ?_|refine bn b8 9 e.enc e.dp.enc ?_|refine Pg e.enc ?_|refine cq JY ?_|refine cq si ?_
     refine Wp (ml [13,1,2]) [Gb b8 e,Oa b rg (.slice pv hd.length cv),hh] ?_;repeat' first|refine ga ?_|refine bn b8 3 e.enc [e.ct,e.sd,e.sr] ?_|refine lF (us:=[y.ct,y.sd,y.sr]) rfl hr ?_ (hk:=hy) (ho:=rfl)|refine cq hcs ?_
     refine D.as 6 (.int .i64 (Ad hv hd (k+1))) rfl (by rw[hn]) ?_;exact D.re (k+1)
  all_goals
   rw[if_neg (by simp only[wu,c1,c2,false_and,and_false,not_false_eq_true])] at hn;repeat' first|refine ga ?_|refine Pg hv.enc ?_|refine bn b8 9 e.enc e.dp.enc ?_|refine Pg e.enc ?_|refine cq JY ?_|refine cq si ?_
   refine D.as 6 (.int .i64 (Ad hv hd (k+1))) rfl (by rw[hn]) ?_;exact D.re (k+1)
 obtain rfl:k=hd.length:=by omega
 have hb:Ad hv hd hd.length=Ce hv hd:=rfl;unfold Ar;rw[hb] at r1 r2⊢;by_cases c3:Ce hv hd<0
 .rw[if_pos c3];repeat' first|refine ga ?_|refine jf ya.z.enc ?_|refine xg ya.z.enc ya.z.enc ?_
  exact D.Bg [Oa b rg (.slice pv hd.length cv),hh] _ rfl (.Va rfl rfl (.tmp rfl .nil)) rfl ⟨_,_,rfl,rfl,hs⟩
 .rw[if_neg c3];obtain⟨J,hJ⟩:∃J:Nat,Ce hv hd=(J:Int):=⟨(Ce hv hd).toNat,by omega⟩;rw[hJ] at r2⊢;rw[Int.toNat_natCast];obtain⟨y,hy⟩:∃y,hd[J]? =some y:=⟨_,Wg (by omega)⟩;have IY:hd.getD J ya.z=y:=by rw[getD_eq_getElem?_getD,hy];rfl
  rw[IY];have Fh:=hr.take (m:=J) (by omega);have hfr:=hr.from (m:=20) rfl (lo:=J+1) (by omega);have hlJ:(hd.take J).length=J:=by rw[Oe];omega
  have hlK:(hd.drop (J+1)).length=hd.length - (J+1):=length_drop;have hJl:J<=hd.length:=by omega
  repeat' first|refine ga ?_|refine al λ_=>?_|refine Vx hr hy ?_|refine xg ya.z.enc y.enc ?_
  refine Jt (zb:=by simp only[td];omega) (ia.nil _) Fh (λv4 h4 hs4=>?_);rw[nil_append] at hs4;have hcap:hd.length<=cv:=by obtain⟨a,cc,e,le,_⟩:=id hr;cases e;exact le
  have hap:hd.take J++hd.drop (J+1)=hd.eraseIdx J:=(eraseIdx_eq_take_drop_succ hd J).symm;try refine ga ?_
  refine WX.as 84 (.int .i64 ((J+1:Nat):Int)) rfl (by congr 1) ?_;refine WX.vi (lo:=J+1) rfl rfl (by omega) hcap rfl ?_;refine Jt hs4 hfr (λv5 h5 hs5=>?_);rw[hap] at hs5;obtain⟨pw,cw,rfl⟩:=hs5.rs.len;try refine ga ?_
  refine ei [rg,.slice pv hd.length cv] [rg,.slice pw (hd.eraseIdx J).length cw] ?_;repeat' first|refine ga ?_|refine Pg y.enc ?_|refine xg ya.z.enc y.enc ?_
  exact D.Bg [Oa b rg (.slice pw (hd.eraseIdx J).length cw),h5] _ rfl (.Va rfl rfl (.tmp rfl .nil)) rfl ⟨_,_,rfl,rfl,hs5⟩
variable{x:Int}{r:V3}{es:List ya}{h:Hp}
abbrev Ja(b:Nat)(dc:Int)(r:V3):Hp:=[(b,.cells (List.toArray (dc::r.enc)) 190 (0,0))]
abbrev Ta(b:Nat)(dc:Int)(r:V3):Hp:=[(b,.cells (List.toArray (dc::r.enc)) 173 (0,0))]
def Rm{dc:Int}(h0:0<=x)(h3:x<3):(Value.int .i64 dc::r.enc)[0+1+x.toNat*1]? =some (.int .i64 (r.get x)):=by
 obtain rfl|rfl|rfl:x=0\/x=1\/x=2:=by omega
 all_goals rfl
def XS{dc c:Int}(h0:0<=x)(h3:x<3):(Value.int .i64 dc::r.enc).set (0+1+x.toNat*1) (c)= .int .i64 dc::(r.put x.toNat c).enc:=by
 obtain rfl|rfl|rfl:x=0\/x=1\/x=2:=by omega
 all_goals rfl
def kW(dc:Int):Ct prog 125 [dc] [] (λv H'=>∃b,v= .pointer (some ⟨b,0,none⟩)/\H'=[Ja b dc V3.z]):=by
 refine ce func125 λg R=>?_;repeat' first|refine Za ?_|refine Uc λ_=>?_|refine jf (dc::V3.z.enc) ?_
 exact Xa [Ja _ dc V3.z] rfl rfl ⟨_,rfl,rfl⟩
def jw(b:Nat)(dc x:Int)(r:V3):Ct prog 157 [b,x] [Ja b dc r] (λv H'=>v= .bool (decide (De dc x))/\H'=[Ja b dc r]):=by
 refine ce func157 λg R=>?_;simp only[can];by_cases h1:0<=x<;>by_cases h2:x<3<;>by_cases h3:x=dc;all_goals try(exfalso;omega)
 all_goals
  try refine ga ?_
  exact Xa [Ja b dc r] rfl rfl ⟨by first|(rw[Mi (show De dc x from⟨h1,h2,h3⟩)]<;>simp[h3])|(rw[rj (λh:De dc x=>by first|exact h1 h.1|exact h2 h.2.1|exact h.2.2 h3)]<;>simp[h3]),rfl⟩
def qJ(b:Nat)(dc x:Int)(r:V3):Ct prog 118 [b,x] [Ja b dc r] (λv H'=>v= .int .i64 (if De dc x then r.get x else 0)/\H'=[Ja b dc r]):=by
 have ho:=jw b dc x r;refine ce func118 λg R=>?_;simp only[can];by_cases h:De dc x
 .obtain⟨h1,h2,h3⟩:=id h;rw[Mi h] at ho;rw[if_pos h];repeat' first|refine ga ?_|refine lN (dc::r.enc) _ rfl ?_ (hc:=Rm h1 h2)|refine cq ho ?_
  exact Wi [Ja b dc r]
 .rw[rj h] at ho;rw[if_neg h];repeat' first|refine ga ?_|refine cq ho ?_
  exact Wi [Ja b dc r]
def JP(b:Nat)(dc x c:Int)(r:V3):Ct prog 69 [b,x,c] [Ja b dc r]
  (λv H'=>v= .bool (decide (De dc x/\r.get x<c))/\H'=[Ja b dc (if De dc x/\r.get x<c then r.put x.toNat c else r)]):=by
 have ho:=jw b dc x r;refine ce func69 λg R=>?_;simp only[can];by_cases h:De dc x
 .obtain⟨h1,h2,h3⟩:=id h;rw[Mi h] at ho;by_cases hc:c<=r.get x
  .have hn: ¬(De dc x/\r.get x<c):=λh=>by have:=h.2;omega
   rw[rj hn,if_neg hn];repeat' first|refine ga ?_|refine lN (dc::r.enc) _ rfl ?_ (hc:=Rm h1 h2)|refine cq ho ?_
   exact Wi [Ja b dc r]
  .have hn:De dc x/\r.get x<c:=⟨h,by omega⟩;rw[Mi hn,if_pos hn];repeat' first|refine ga ?_|refine lN (dc::r.enc) _ rfl ?_ (hc:=Rm h1 h2)|refine cq ho ?_
   refine ei (dc::r.enc) (dc::(r.put x.toNat c).enc) ?_ (e:=XS h1 h2) (hb:=Nat.ble_eq_true_of_le (by show 0+1+x.toNat*1+1<=4;omega));try refine ga ?_
   exact Wi [Ja b dc (r.put x.toNat c)]
 .have hn: ¬(De dc x/\r.get x<c):=λh'=>h h'.1;rw[rj h] at ho;rw[rj hn,if_neg hn];repeat' first|refine ga ?_|refine cq ho ?_
  exact Wi [Ja b dc r]
def Ms(b:Nat)(dc x:Int)(r:V3):Ct prog 191 [b,x] [Ta b dc r] (λv H'=>v= .bool (decide (De dc x))/\H'=[Ta b dc r]):=by
 refine ce func191 λg R=>?_;simp only[can];by_cases h1:0<=x<;>by_cases h2:x<3<;>by_cases h3:x=dc;all_goals try(exfalso;omega)
 all_goals
  try refine ga ?_
  exact Xa [Ta b dc r] rfl rfl ⟨by first|(rw[Mi (show De dc x from⟨h1,h2,h3⟩)]<;>simp[h3])|(rw[rj (λh:De dc x=>by first|exact h1 h.1|exact h2 h.2.1|exact h.2.2 h3)]<;>simp[h3]),rfl⟩
def lH(b:Nat)(dc x:Int)(r:V3):Ct prog 121 [b,x] [Ta b dc r] (λv H'=>v= .int .i64 (if De dc x then r.get x else 0)/\H'=[Ta b dc r]):=by
 have ho:=Ms b dc x r;refine ce func121 λg R=>?_;simp only[can];by_cases h:De dc x
 .obtain⟨h1,h2,h3⟩:=id h;rw[Mi h] at ho;rw[if_pos h];repeat' first|refine ga ?_|refine lN (dc::r.enc) _ rfl ?_ (hc:=Rm h1 h2)|refine cq ho ?_
  exact Wi [Ta b dc r]
 .rw[rj h] at ho;rw[if_neg h];repeat' first|refine ga ?_|refine cq ho ?_
  exact Wi [Ta b dc r]
def tL(b:Nat)(dc x c:Int)(r:V3):Ct prog 94 [b,x,c] [Ta b dc r]
  (λv H'=>v= .bool (decide (De dc x/\r.get x<c))/\H'=[Ta b dc (if De dc x/\r.get x<c then r.put x.toNat c else r)]):=by
 have ho:=Ms b dc x r;refine ce func94 λg R=>?_;simp only[can];by_cases h:De dc x
 .obtain⟨h1,h2,h3⟩:=id h;rw[Mi h] at ho;by_cases hc:c<=r.get x
  .have hn: ¬(De dc x/\r.get x<c):=λh=>by have:=h.2;omega
   rw[rj hn,if_neg hn];repeat' first|refine ga ?_|refine lN (dc::r.enc) _ rfl ?_ (hc:=Rm h1 h2)|refine cq ho ?_
   exact Wi [Ta b dc r]
  .have hn:De dc x/\r.get x<c:=⟨h,by omega⟩;rw[Mi hn,if_pos hn];repeat' first|refine ga ?_|refine lN (dc::r.enc) _ rfl ?_ (hc:=Rm h1 h2)|refine cq ho ?_
   refine ei (dc::r.enc) (dc::(r.put x.toNat c).enc) ?_ (e:=XS h1 h2) (hb:=Nat.ble_eq_true_of_le (by show 0+1+x.toNat*1+1<=4;omega));try refine ga ?_
   exact Wi [Ta b dc (r.put x.toNat c)]
 .have hn: ¬(De dc x/\r.get x<c):=λh'=>h h'.1;rw[rj h] at ho;rw[rj hn,if_neg hn];repeat' first|refine ga ?_|refine cq ho ?_
  exact Wi [Ta b dc r]
def XF{p:ya->Bool}{k:Nat}{e:ya}(h:es[k]? =some e):(es.drop k).find? p=if p e then some e else(es.drop (k+1)).find? p:=by
 obtain⟨hlt,rfl⟩:=List.getElem?_eq_some_iff.1 h;rw[drop_eq_getElem_cons hlt,List.find?_cons];cases p es[k]<;>rfl
def YS(b:Nat)(dc x:Int)(r:V3){v:Value}(hs:Rs es v h)(hok:∀e∈es,ud e)(hl:es.length<=1000000):
  Ct prog 158 [b,x,v] [Ja b dc r,h] (λu H'=>u=jW (Pw dc x r es)/\H'=[Ja b dc r,h]):=by
 have ho:=jw b dc x r;obtain⟨pv,cv,rfl⟩:=hs.len;unfold Pw;by_cases c:De dc x
 .obtain⟨h1,h2,h3⟩:=id c;rw[Mi c] at ho;rw[if_pos c];refine ce func158 λg R=>?_;repeat' first|refine Za ?_|refine al λ_=>?_|refine cq ho ?_
  rename_i b6;refine W.h0 [Gb b6 ya.z,Ja b dc r,h,R] ?_
  refine W.lo (α:=Nat) (λk=>k<=es.length/\es.find? (Mn dc (r.get x))=(es.drop k).find? (Mn dc (r.get x)))
   (λk=>[(0,b),(1,x),(6,b6),(7,.bool false),(13,.slice pv es.length cv),(14,.int .i64 (es.length:Int)),(15,.int .i64 (k:Int))])
   (λ_=>[Gb b6 ya.z,Ja b dc r,h,R]) (λk=>es.length - k) 0 ⟨di _,rfl⟩ ?_
  rintro k ⟨hk,hn⟩;by_cases hlt:k<es.length
  .obtain⟨e,he⟩:=Lh hlt;obtain⟨q1,q2⟩:=(hok e (mem_of_getElem? he)).sq;have q2:e.sq<=1099511627776:=q2;rw[XF he] at hn;repeat' first|refine ga ?_|refine al λ_=>?_|refine Vx hs he ?_|refine xg ya.z.enc e.enc ?_
   rename_i b9;refine wq ?_;by_cases c3:e.dc=dc/\e.sq - 1=r.get x
   .rw[if_pos (show Mn dc (r.get x) e=true from Mi c3)] at hn;obtain⟨c1,c2⟩:=c3;repeat' first|refine ga ?_|refine lN (dc::r.enc) _ rfl ?_ (hc:=Rm h1 h2)|refine Pg e.enc ?_|refine xg ya.z.enc e.enc ?_
    exact D.Bg [Ja b dc r,h] _ rfl (.Va rfl rfl (.tmp rfl .nil)) rfl ⟨by rw[show es.find? (Mn dc (r.at x.toNat))=_ from hn];rfl,rfl⟩
   .rw[if_neg (by rw[Mn,rj c3];decide)] at hn;by_cases c1:e.dc=dc<;>by_cases c2:r.get x<e.sq
    all_goals
     repeat' first|refine ga ?_|refine lN (dc::r.enc) _ rfl ?_ (hc:=Rm h1 h2)
     exact D.rd (k+1) ⟨by omega,hn⟩ (by omega)
  .obtain rfl:k=es.length:=by omega
   rw[drop_length] at hn;repeat' first|refine ga ?_|refine jf ya.z.enc ?_|refine xg ya.z.enc ya.z.enc ?_
   exact D.Bg [Ja b dc r,h] _ rfl (.Va rfl rfl (.tmp rfl .nil)) rfl ⟨by rw[show es.find? (Mn dc (r.at x.toNat))=_ from hn];rfl,rfl⟩
 .rw[rj c] at ho;rw[if_neg c];refine ce func158 λg R=>?_;repeat' first|refine Za ?_|refine al λ_=>?_|refine cq ho ?_|refine jf ya.z.enc ?_|refine xg ya.z.enc ya.z.enc ?_
  exact D.Bg [Ja b dc r,h] _ rfl (.Va rfl rfl (.tmp rfl .nil)) rfl ⟨rfl,rfl⟩
def RO(b:Nat)(dc x:Int)(r:V3){v:Value}(hs:Rs es v h)(hok:∀e∈es,ud e)(hl:es.length<=1000000):
  Ct prog 193 [b,x,v] [Ta b dc r,h] (λu H'=>u=jW (Pw dc x r es)/\H'=[Ta b dc r,h]):=by
 have ho:=Ms b dc x r;obtain⟨pv,cv,rfl⟩:=hs.len;unfold Pw;by_cases c:De dc x
 .obtain⟨h1,h2,h3⟩:=id c;rw[Mi c] at ho;rw[if_pos c];refine ce func193 λg R=>?_;repeat' first|refine Za ?_|refine al λ_=>?_
  rename_i b6;refine W.h0 [Gb b6 ya.z,Ta b dc r,h,R] ?_
  refine W.lo (α:=Nat) (λk=>k<=es.length/\es.find? (Mn dc (r.get x))=(es.drop k).find? (Mn dc (r.get x)))
   (λk=>[(0,b),(1,x),(2,.slice pv es.length cv),(6,b6),(7,.bool false),(8,.int .i64 (k:Int))])
   (λ_=>[Gb b6 ya.z,Ta b dc r,h,R]) (λk=>es.length - k) 0 ⟨di _,rfl⟩ ?_
  rintro k ⟨hk,hn⟩;by_cases hlt:k<es.length
  .obtain⟨e,he⟩:=Lh hlt;obtain⟨q1,q2⟩:=(hok e (mem_of_getElem? he)).sq;have q2:e.sq<=1099511627776:=q2;rw[XF he] at hn;repeat' first|refine ga ?_|refine cq ho ?_
   refine wq ?_;by_cases c3:e.dc=dc/\e.sq - 1=r.get x
   .rw[if_pos (show Mn dc (r.get x) e=true from Mi c3)] at hn;obtain⟨c1,c2⟩:=c3;repeat' first|refine ga ?_|refine lN (dc::r.enc) _ rfl ?_ (hc:=Rm h1 h2)|refine Vx hs he ?_|refine xg ya.z.enc e.enc ?_
    exact D.Bg [Ta b dc r,h] _ rfl (.Va rfl rfl (.tmp rfl .nil)) rfl ⟨by rw[show es.find? (Mn dc (r.at x.toNat))=_ from hn];rfl,rfl⟩
   .rw[if_neg (by rw[Mn,rj c3];decide)] at hn;by_cases c1:e.dc=dc<;>by_cases c2:r.get x<e.sq
    all_goals
     repeat' first|refine ga ?_|refine lN (dc::r.enc) _ rfl ?_ (hc:=Rm h1 h2)
     exact D.rd (k+1) ⟨by omega,hn⟩ (by omega)
  .obtain rfl:k=es.length:=by omega
   rw[drop_length] at hn;repeat' first|refine ga ?_|refine jf ya.z.enc ?_|refine xg ya.z.enc ya.z.enc ?_
   exact D.Bg [Ta b dc r,h] _ rfl (.Va rfl rfl (.tmp rfl .nil)) rfl ⟨by rw[show es.find? (Mn dc (r.at x.toNat))=_ from hn];rfl,rfl⟩
 .rw[rj c] at ho;rw[if_neg c];refine ce func193 λg R=>?_;repeat' first|refine Za ?_|refine al λ_=>?_
  rename_i b6;refine W.h0 [Gb b6 ya.z,Ta b dc r,h,R] ?_
  refine W.lo (α:=Nat) (λk=>k=0) (λk=>[(0,b),(1,x),(2,.slice pv es.length cv),(6,b6),(7,.bool false),(8,.int .i64 0)])
   (λ_=>[Gb b6 ya.z,Ta b dc r,h,R]) (λk=>1 - k) 0 rfl ?_
  rintro k rfl;by_cases hlt:0<es.length
  all_goals
   repeat' first|refine ga ?_|refine cq ho ?_|refine jf ya.z.enc ?_|refine xg ya.z.enc ya.z.enc ?_
   exact D.Bg [Ta b dc r,h] _ rfl (.Va rfl rfl (.tmp rfl .nil)) rfl ⟨rfl,rfl⟩
end Go.Proofs.YthebagfahkebiaaGreat
