/- Texts of one road. -/
import Derived.Test.YthebagfahkebiaaGreatQAW
set_option linter.all false
set_option maxHeartbeats 8000000
set_option maxRecDepth 20000
namespace Go.Proofs.YthebagfahkebiaaGreat
open Go Go.Sl Go.Proofs.Tryz List
variable{hd:List ya}{hh:Hp}
def xR{es:List ya}{v u:Value}{hu:Hp}(hs:ia 49 hd v hh)(he:Rs es u hu)(b:Nat)(rg:Int)(hl:hd.length<=16)(hel:es.length<=1000):
  Ct prog 93 [.pointer (some ⟨b,0,none⟩),u] [Ka b rg v,hh,hu] (λr H'=>∃k v' Ni,r= .int .i64 k/\H'=[Ka b rg v',Ni,hu]/\ia 49 (es.foldl (Lg rg) hd) v' Ni):=by
 obtain⟨pu,cu,rfl⟩:=he.len;refine Ct.mk' func93 rfl rfl rfl (λg R=>?_);try simp only[ca]
 simp only[na];try refine ga ?_
 refine W.loop (α:=Nat×Nat×Value×Hp) (λx=>x.1<=es.length/\x.2.1<=x.1/\ia 49 ((es.take x.1).foldl (Lg rg) hd) x.2.2.1 x.2.2.2/\((es.take x.1).foldl (Lg rg) hd).length<=16)
  (λx=>[(0,.pointer (some ⟨b,0,none⟩)),(1,.slice pu es.length cu),(5,.int .i64 (x.2.1:Int)),(6,.int .i64 (x.1:Int))]) (λx=>[Ka b rg x.2.2.1,x.2.2.2,hu,R]) (λx=>es.length - x.1) (0,0,v,hh) ⟨Nat.zero_le _,Nat.le_refl _,hs,hl⟩ (by repeat(first|exact Ca.nil|refine Ca.cons rfl ?_)) (Ga.qa inferInstance) ?_
 clear hs hl;rintro⟨i,n,v,hh⟩ ⟨hi,hni,hs,hl⟩;simp only[] at hi hni hs hl⊢;by_cases hlt:i<es.length
 .obtain⟨e,hx⟩:∃e,es[i]? =some e:=⟨_,List.getElem?_eq_getElem hlt⟩;have hn:(es.take (i+1)).foldl (Lg rg) hd=Lg rg ((es.take i).foldl (Lg rg) hd) e:=by rw[take_add_one,hx,foldl_append];rfl
  generalize(es.take i).foldl (Lg rg) hd=l at hs hl hn;have hR:=Bt e;have yw:=hs.rs;obtain⟨pv,cv,rfl⟩:=yw.len;repeat'(first|refine ga ?_|refine al (λ_=>?_)|refine WX.zc rfl he hx rfl rfl ?_|refine ud ya.z.enc e.enc rfl rfl ?_|fail)
  rename_i b7
  refine W.loop (α:=Nat) (λk=>k<=l.length) (λk=>[(0,.pointer (some ⟨b,0,none⟩)),(1,.slice pu es.length cu),(5,.int .i64 (n:Int)),(6,.int .i64 (i:Int)),(7,.pointer (some ⟨b7,0,none⟩)),(8,.bool ((l.take k).any (Jj e))),(9,.int .i64 (k:Int))])
   (λ_=>[Fb b7 e,Ka b rg (.slice pv l.length cv),hh,hu,R]) (λk=>l.length - k) 0 (Nat.zero_le _) (by repeat(first|exact Ca.nil|refine Ca.cons rfl ?_)) (Ga.qa inferInstance) ?_
  intro k hk;by_cases hlk:k<l.length
  .obtain⟨y,hy⟩:∃y,l[k]? =some y:=⟨_,List.getElem?_eq_getElem hlk⟩;have Nv:(l.take (k+1)).any (Jj e)=((l.take k).any (Jj e)||Jj e y):=by rw[take_add_one,hy,any_append];simp
   have hcmp:=KS y e;generalize(l.take k).any (Jj e)=tb at Nv⊢
   cases tb with
   |true=>
    try refine ga ?_
    refine W.quiet Tryz.mix (by kernel_rfl) ?_;try refine ga ?_
    refine D.as 8 (.bool ((l.take (k+1)).any (Jj e))) rfl (by rw[Nv];rfl) ?_
    exact D.rd (k+1) (by omega) (by omega)
   |false=>
    try refine ga ?_
    refine W.quiet Tryz.mix (by kernel_rfl) ?_;repeat'(first|refine ga ?_|refine WX.Fa (b:=b7) (i:=0) (cs:=e.enc) (vs:=[.int .i64 e.dc,.int .i64 e.rg,.int .i64 e.sq]) rfl rfl rfl rfl ?_|refine lF (us:=[.int .i64 y.dc,.int .i64 y.rg,.int .i64 y.sq]) rfl yw ?_ (hk:=hy) (ho:=rfl)|refine WX.Vu rfl rfl hcmp rfl ?_|fail)
    refine D.as 8 (.bool ((l.take (k+1)).any (Jj e))) rfl (by rw[Nv];rfl) ?_;exact D.rd (k+1) (by omega) (by omega)
  obtain rfl:k=l.length:=by omega
  rw[take_length]
  have neg: ¬(Xc e/\e.rg=rg/\l.any (Jj e)=false/\l.length<16)->ia 49 ((es.take (i+1)).foldl (Lg rg) hd) (.slice pv l.length cv) hh/\((es.take (i+1)).foldl (Lg rg) hd).length<=16:=λh=>by
   rw[hn,show Lg rg l e=l from if_neg h];exact⟨hs,hl⟩
  cases ha:l.any (Jj e)<;>by_cases hE:Xc e<;>by_cases hg:e.rg=rg<;>by_cases nP:l.length<16
  .clear neg;rw[show Lg rg l e=_ from if_pos ⟨hE,hg,ha,nP⟩] at hn;rw[decide_eq_true hE] at hR;try refine ga ?_
   refine W.od ([true,false]++List.replicate 21 true) [Fb b7 e,Ka b rg (.slice pv l.length cv)] Tryz.mix (by kernel_rfl) ?_;repeat'(first|refine ga ?_|refine Pa e.enc e.enc rfl ?_|refine WX.ja rfl hR rfl ?_|fail)
   refine W.od [true,true,true,true,true,true,false,false] [Fb b7 e,Ka b rg (.slice pv l.length cv)] Tryz.mix (by kernel_rfl) ?_;repeat'(first|refine ga ?_|refine Pa e.enc e.enc rfl ?_|fail)
   refine I.bs ?_;refine WX.lit (ys:=[e]) rfl rfl rfl rfl rfl rfl (by decide) rfl (λv4 h4 hs4=>?_);try refine ga ?_
   refine WX.app rfl rfl hs hs4.rs rfl rfl (by decide) (by simp only[length_cons,length_nil];omega) rfl (λv5 h5 hs5=>?_);rw[<-hn] at hs5;obtain⟨p5,c5,rfl⟩:=hs5.rs.len;try refine ga ?_
   refine I.st ?_;refine Td [.int .i64 rg,.slice pv l.length cv] [.int .i64 rg,.slice p5 ((es.take (i+1)).foldl (Lg rg) hd).length c5] rfl rfl ?_;try refine ga ?_
   refine D.as 5 (.int .i64 ((n+1:Nat):Int)) rfl (by congr 1) ?_;exact D.rd (i+1,n+1,.slice p5 ((es.take (i+1)).foldl (Lg rg) hd).length c5,h5) ⟨by simp only[];omega,by simp only[];omega,hs5,by simp only[hn,length_append,length_cons,length_nil];omega⟩ (by simp only[];omega)
  all_goals
   have neg:=neg (by simp only[ha,hE,hg,nP,and_true,and_false,true_and,false_and,not_false_eq_true,Bool.true_eq_false]);first|rw[decide_eq_true hE] at hR|rw[decide_eq_false hE] at hR
   try refine ga ?_
   refine W.od ([true,false]++List.replicate 21 true) [Fb b7 e,Ka b rg (.slice pv l.length cv)] Tryz.mix (by kernel_rfl) ?_;repeat'(first|refine ga ?_|refine Pa e.enc e.enc rfl ?_|refine WX.ja rfl hR rfl ?_|fail)
   exact D.rd (i+1,n,.slice pv l.length cv,hh) ⟨by simp only[];omega,by simp only[];omega,neg⟩ (by simp only[];omega)
 .obtain rfl:i=es.length:=by omega
  rw[take_length] at hs;try refine ga ?_
  exact D.Ia [Ka b rg v,hh,hu] _ rfl rfl ⟨_,v,hh,rfl,rfl,hs⟩
def ZK{v:Value}(hs:ia 49 hd v hh)(b:Nat)(rg:Int)(hl:hd.length<=16)(hv:V9)(hok:∀e∈hd,SL hv e):
  Ct prog 186 [b,.agg (List.toArray hv.enc)] [Ka b rg v,hh] (λr H'=>∃k v' Ni,r= .int .i64 k/\H'=[Ka b rg v',Ni]/\ia 49 (hd.filter λe=>decide (hv.of e<e.sq)) v' Ni):=by
 have hr:=hs.rs;obtain⟨pv,cv,rfl⟩:=hr.len;refine ce func186 λg R=>?_;repeat' first|refine vb ?_|refine Ud λ_=>?_
 rename_i b3;refine W.h0 [Na b3 hv,Ka b rg (.slice pv hd.length cv),hh,R] ?_
 refine W.lo (α:=Nat×Value×Hp) (λx=>x.1<=hd.length/\ia 49 ((hd.take x.1).filter λe=>decide (hv.of e<e.sq)) x.2.1 x.2.2) (λx=>[(0,b),(3,b3),(5,x.2.1),(6,.int .i64 (x.1:Int))])
  (λx=>[x.2.2,Na b3 hv,Ka b rg (.slice pv hd.length cv),hh,R]) (λx=>hd.length - x.1) (0,.slice none 0 0,[]) ⟨Gi _,ia.nil _⟩ ?_
 rintro⟨i,v2,h2⟩ ⟨hi,Oa⟩;simp only[] at hi Oa⊢;have hle:((hd.take i).filter λe=>decide (hv.of e<e.sq)).length<=16:=by have:=length_filter_le (λe=>decide (hv.of e<e.sq)) (hd.take i);rw[Fe] at this;omega
 by_cases hlt:i<hd.length
 .obtain⟨e,hx⟩:=Sh hlt;have HY:=PF (hok e (mem_of_getElem? hx))
  have hn:((hd.take (i+1)).filter λe=>decide (hv.of e<e.sq))=((hd.take i).filter λe=>decide (hv.of e<e.sq))++(if hv.of e<e.sq then[e] else[]):=by
   rw[take_add_one,hx,filter_append];congr 1;by_cases h:hv.of e<e.sq<;>simp[h]
  generalize((hd.take i).filter λe=>decide (hv.of e<e.sq))=l at Oa hn hle;try refine ga ?_
  refine Ns (ml [17,1,1]) [Na b3 hv,Ka b rg (.slice pv hd.length cv),hh] ?_;by_cases hc:hv.of e<e.sq
  .rw[if_pos hc] at hn;repeat' first|refine ga ?_|refine rG hr hx ?_|refine yj hv.enc ?_|refine cq HY ?_
   refine Kp [e] (λv4 h4 hs4=>?_);refine Ys (zb:=by simp only[Gb,jd];omega) Oa hs4.rs (λv5 h5 hs5=>?_);rw[<-hn] at hs5;try refine ga ?_
   exact D.rd (i+1,v5,h5) ⟨by simp only[];omega,hs5⟩ (by simp only[];omega)
  .rw[if_neg hc,append_nil] at hn;repeat' first|refine ga ?_|refine rG hr hx ?_|refine yj hv.enc ?_|refine cq HY ?_
   exact D.rd (i+1,v2,h2) ⟨by simp only[];omega,by rw[hn];exact Oa⟩ (by simp only[];omega)
 .obtain rfl:i=hd.length:=by omega
  rw[take_length] at Oa hle;obtain⟨pw,cw,rfl⟩:=Oa.rs.len;try refine ga ?_
  refine Wh [rg,.slice pv hd.length cv] [rg,.slice pw (hd.filter λe=>decide (hv.of e<e.sq)).length cw] ?_;try refine ga ?_
  exact Wa [Ka b rg (.slice pw (hd.filter λe=>decide (hv.of e<e.sq)).length cw),h2] rfl rfl ⟨_,_,_,rfl,rfl,Oa⟩
def zO{hd:List ya}{v:Value}{hh:Hp}(hs:ia 49 hd v hh)(b:Nat)(rg:Int)(hl:hd.length<=16)(hv:V9)(hok:∀e∈hd,SL hv e):
  Ct prog 188 [b,.agg (List.toArray hv.enc)] [Ka b rg v,hh] (λr H'=>∃v' Ni,r=bW (Wq hv hd).1/\H'=[Ka b rg v',Ni]/\ia 49 (Wq hv hd).2 v' Ni):=by
 have hr:=hs.rs;obtain⟨pv,cv,rfl⟩:=hr.len;refine ce func188 λg R=>?_;repeat' first|refine vb ?_|refine Ud λ_=>?_|refine al λ_=>?_
 rename_i b3 b4;refine W.h0 [Fb b4 ya.z,Na b3 hv,Ka b rg (.slice pv hd.length cv),hh,R] ?_
 refine W.lo (α:=Nat) (λk=>k<=hd.length) (λk=>[(0,b),(3,b3),(4,b4),(6,.int .i64 (zd hv hd k)),(7,.int .i64 (k:Int))])
  (λ_=>[Fb b4 ya.z,Na b3 hv,Ka b rg (.slice pv hd.length cv),hh,R]) (λk=>hd.length - k) 0 (Gi _) ?_
 intro k hk;obtain⟨r1,r2⟩:=Cm hv hd k;by_cases hlt:k<hd.length
 .obtain⟨e,hx⟩:=Sh hlt;have he:=hok e (mem_of_getElem? hx);have HY:=PF he;obtain⟨g1,g2⟩:=he.rg;obtain⟨g3,g4⟩:=he.sq;have hge:hd.getD k ya.z=e:=by rw[getD_eq_getElem?_getD,hx];rfl
  have hn:zd hv hd (k+1)=if iu hv e/\(zd hv hd k<0\/Ql e (hd.getD (zd hv hd k).toNat ya.z)<0) then(k:Int) else zd hv hd k:=by rw[<-hge];rfl
  have di:=UL hv e.dp;repeat' first|refine ga ?_|refine al λ_=>?_|refine rG hr hx ?_|refine nh ya.z.enc e.enc ?_
  rename_i b8;have hcs:∀y:ya,Ct prog 247 [mX e,mX y] [] (λr H'=>r= .int .i64 (Ql e y)/\H'=[]):=λy=>oJ e y;refine Ns (ml [6,1,5,1,2]) [Fb b8 e,Na b3 hv] ?_;by_cases c1:e.sq=hv.of e+1<;>by_cases c2:QE hv e.dp<;>first|rw[Fi c2] at di|rw[gj c2] at di
  .by_cases c3:zd hv hd k<0
   .rw[if_pos ⟨⟨c1,c2⟩,.inl c3⟩] at hn;repeat' first|refine ga ?_|refine yj hv.enc ?_|refine Xm b8 9 e.enc e.dp.enc ?_|refine yj e.enc ?_|refine cq HY ?_|refine cq di ?_
    refine Ns (ml [13,1,2]) [Fb b8 e,Ka b rg (.slice pv hd.length cv),hh] ?_;try refine ga ?_
    refine D.as 6 (.int .i64 (zd hv hd (k+1))) rfl (by rw[hn]) ?_;exact D.re (k+1)
   .obtain⟨J,hJ⟩:∃J:Nat,zd hv hd k=(J:Int):=⟨(zd hv hd k).toNat,by omega⟩;obtain⟨y,hy⟩:∃y,hd[J]? =some y:=⟨_,oh (by omega)⟩;have GY:hd.getD J ya.z=y:=by rw[getD_eq_getElem?_getD,hy];rfl
    have hcs:=hcs y;rw[hJ,Int.toNat_natCast,GY] at hn;rw[hJ] at r2⊢;by_cases c4:Ql e y<0
    .rw[if_pos ⟨⟨c1,c2⟩,.inr c4⟩] at hn;repeat' first|refine ga ?_|refine yj hv.enc ?_|refine Xm b8 9 e.enc e.dp.enc ?_|refine yj e.enc ?_|refine cq HY ?_|refine cq di ?_
     refine Ns (ml [13,1,2]) [Fb b8 e,Ka b rg (.slice pv hd.length cv),hh] ?_;repeat' first|refine ga ?_|refine Xm b8 3 e.enc [e.ct,e.sd,e.sr] ?_|refine lF (us:=[y.ct,y.sd,y.sr]) rfl hr ?_ (hk:=hy) (ho:=rfl)|refine cq hcs ?_
     refine D.as 6 (.int .i64 (zd hv hd (k+1))) rfl (by rw[hn]) ?_;exact D.re (k+1)
    .rw[if_neg λh=>h.2.elim (λh=>by omega) c4] at hn;repeat' first|refine ga ?_|refine yj hv.enc ?_|refine Xm b8 9 e.enc e.dp.enc ?_|refine yj e.enc ?_|refine cq HY ?_|refine cq di ?_
     refine Ns (ml [13,1,2]) [Fb b8 e,Ka b rg (.slice pv hd.length cv),hh] ?_;repeat' first|refine ga ?_|refine Xm b8 3 e.enc [e.ct,e.sd,e.sr] ?_|refine lF (us:=[y.ct,y.sd,y.sr]) rfl hr ?_ (hk:=hy) (ho:=rfl)|refine cq hcs ?_
     refine D.as 6 (.int .i64 (zd hv hd (k+1))) rfl (by rw[hn]) ?_;exact D.re (k+1)
  all_goals
   rw[if_neg (by simp only[iu,c1,c2,false_and,and_false,not_false_eq_true])] at hn;repeat' first|refine ga ?_|refine yj hv.enc ?_|refine Xm b8 9 e.enc e.dp.enc ?_|refine yj e.enc ?_|refine cq HY ?_|refine cq di ?_
   refine D.as 6 (.int .i64 (zd hv hd (k+1))) rfl (by rw[hn]) ?_;exact D.re (k+1)
 obtain rfl:k=hd.length:=by omega
 have hb:zd hv hd hd.length=Be hv hd:=rfl;unfold Wq;rw[hb] at r1 r2⊢;by_cases c3:Be hv hd<0
 .rw[if_pos c3];repeat' first|refine ga ?_|refine Vf ya.z.enc ?_|refine nh ya.z.enc ya.z.enc ?_
  exact D.yg [Ka b rg (.slice pv hd.length cv),hh] _ rfl (.Ua rfl rfl (.tmp rfl .nil)) rfl ⟨_,_,rfl,rfl,hs⟩
 .rw[if_neg c3];obtain⟨J,hJ⟩:∃J:Nat,Be hv hd=(J:Int):=⟨(Be hv hd).toNat,by omega⟩;rw[hJ] at r2⊢;rw[Int.toNat_natCast];obtain⟨y,hy⟩:∃y,hd[J]? =some y:=⟨_,oh (by omega)⟩;have GY:hd.getD J ya.z=y:=by rw[getD_eq_getElem?_getD,hy];rfl
  rw[GY];have th:=hr.take (m:=J) (by omega);have hfr:=hr.from (m:=20) rfl (lo:=J+1) (by omega);have hlJ:(hd.take J).length=J:=by rw[Fe];omega
  have hlK:(hd.drop (J+1)).length=hd.length - (J+1):=length_drop;have hJl:J<=hd.length:=by omega
  repeat' first|refine ga ?_|refine al λ_=>?_|refine rG hr hy ?_|refine nh ya.z.enc y.enc ?_
  refine Ys (zb:=by simp only[jd];omega) (ia.nil _) th (λv4 h4 hs4=>?_);rw[nil_append] at hs4;have hcap:hd.length<=cv:=by obtain⟨a,cc,e,le,_⟩:=id hr;cases e;exact le
  have hap:hd.take J++hd.drop (J+1)=hd.eraseIdx J:=(eraseIdx_eq_take_drop_succ hd J).symm;try refine ga ?_
  refine WX.as 84 (.int .i64 ((J+1:Nat):Int)) rfl (by congr 1) ?_;refine WX.ei (lo:=J+1) rfl rfl (by omega) hcap rfl ?_;refine Ys hs4 hfr (λv5 h5 hs5=>?_);rw[hap] at hs5;obtain⟨pw,cw,rfl⟩:=hs5.rs.len;try refine ga ?_
  refine Wh [rg,.slice pv hd.length cv] [rg,.slice pw (hd.eraseIdx J).length cw] ?_;repeat' first|refine ga ?_|refine yj y.enc ?_|refine nh ya.z.enc y.enc ?_
  exact D.yg [Ka b rg (.slice pw (hd.eraseIdx J).length cw),h5] _ rfl (.Ua rfl rfl (.tmp rfl .nil)) rfl ⟨_,_,rfl,rfl,hs5⟩
variable{x:Int}{r:V3}{es:List ya}{h:Hp}
abbrev Ma(b:Nat)(dc:Int)(r:V3):Hp:=[(b,.cells (List.toArray (dc::r.enc)) 190 (0,0))]
abbrev Sa(b:Nat)(dc:Int)(r:V3):Hp:=[(b,.cells (List.toArray (dc::r.enc)) 173 (0,0))]
def Bo{dc:Int}(h0:0<=x)(h3:x<3):(Value.int .i64 dc::r.enc)[0+1+x.toNat*1]? =some (.int .i64 (r.get x)):=by
 obtain rfl|rfl|rfl:x=0\/x=1\/x=2:=by omega
 all_goals rfl
def QS{dc c:Int}(h0:0<=x)(h3:x<3):(Value.int .i64 dc::r.enc).set (0+1+x.toNat*1) (c)= .int .i64 dc::(r.put x.toNat c).enc:=by
 obtain rfl|rfl|rfl:x=0\/x=1\/x=2:=by omega
 all_goals rfl
def cW(dc:Int):Ct prog 125 [dc] [] (λv H'=>∃b,v= .pointer (some ⟨b,0,none⟩)/\H'=[Ma b dc V3.z]):=by
 refine ce func125 λg R=>?_;repeat' first|refine vb ?_|refine Ud λ_=>?_|refine Vf (dc::V3.z.enc) ?_
 exact Wa [Ma _ dc V3.z] rfl rfl ⟨_,rfl,rfl⟩
def Ov(b:Nat)(dc x:Int)(r:V3):Ct prog 157 [b,x] [Ma b dc r] (λv H'=>v= .bool (decide (Xd dc x))/\H'=[Ma b dc r]):=by
 refine ce func157 λg R=>?_;simp only[can];by_cases h1:0<=x<;>by_cases h2:x<3<;>by_cases h3:x=dc;all_goals try(exfalso;omega)
 all_goals
  try refine ga ?_
  exact Wa [Ma b dc r] rfl rfl ⟨by first|(rw[Fi (show Xd dc x from⟨h1,h2,h3⟩)]<;>simp[h3])|(rw[gj (λh:Xd dc x=>by first|exact h1 h.1|exact h2 h.2.1|exact h.2.2 h3)]<;>simp[h3]),rfl⟩
def Fw(b:Nat)(dc x:Int)(r:V3):Ct prog 118 [b,x] [Ma b dc r] (λv H'=>v= .int .i64 (if Xd dc x then r.get x else 0)/\H'=[Ma b dc r]):=by
 have ho:=Ov b dc x r;refine ce func118 λg R=>?_;simp only[can];by_cases h:Xd dc x
 .obtain⟨h1,h2,h3⟩:=id h;rw[Fi h] at ho;rw[if_pos h];repeat' first|refine ga ?_|refine lN (dc::r.enc) _ rfl ?_ (hc:=Bo h1 h2)|refine cq ho ?_
  exact vj [Ma b dc r]
 .rw[gj h] at ho;rw[if_neg h];repeat' first|refine ga ?_|refine cq ho ?_
  exact vj [Ma b dc r]
def vP(b:Nat)(dc x c:Int)(r:V3):Ct prog 69 [b,x,c] [Ma b dc r]
  (λv H'=>v= .bool (decide (Xd dc x/\r.get x<c))/\H'=[Ma b dc (if Xd dc x/\r.get x<c then r.put x.toNat c else r)]):=by
 have ho:=Ov b dc x r;refine ce func69 λg R=>?_;simp only[can];by_cases h:Xd dc x
 .obtain⟨h1,h2,h3⟩:=id h;rw[Fi h] at ho;by_cases hc:c<=r.get x
  .have hn: ¬(Xd dc x/\r.get x<c):=λh=>by have:=h.2;omega
   rw[gj hn,if_neg hn];repeat' first|refine ga ?_|refine lN (dc::r.enc) _ rfl ?_ (hc:=Bo h1 h2)|refine cq ho ?_
   exact vj [Ma b dc r]
  .have hn:Xd dc x/\r.get x<c:=⟨h,by omega⟩;rw[Fi hn,if_pos hn];repeat' first|refine ga ?_|refine lN (dc::r.enc) _ rfl ?_ (hc:=Bo h1 h2)|refine cq ho ?_
   refine Wh (dc::r.enc) (dc::(r.put x.toNat c).enc) ?_ (e:=QS h1 h2) (hb:=Nat.ble_eq_true_of_le (by show 0+1+x.toNat*1+1<=4;omega));try refine ga ?_
   exact vj [Ma b dc (r.put x.toNat c)]
 .have hn: ¬(Xd dc x/\r.get x<c):=λh'=>h h'.1;rw[gj h] at ho;rw[gj hn,if_neg hn];repeat' first|refine ga ?_|refine cq ho ?_
  exact vj [Ma b dc r]
def eA(b:Nat)(dc x:Int)(r:V3):Ct prog 191 [b,x] [Sa b dc r] (λv H'=>v= .bool (decide (Xd dc x))/\H'=[Sa b dc r]):=by
 refine ce func191 λg R=>?_;simp only[can];by_cases h1:0<=x<;>by_cases h2:x<3<;>by_cases h3:x=dc;all_goals try(exfalso;omega)
 all_goals
  try refine ga ?_
  exact Wa [Sa b dc r] rfl rfl ⟨by first|(rw[Fi (show Xd dc x from⟨h1,h2,h3⟩)]<;>simp[h3])|(rw[gj (λh:Xd dc x=>by first|exact h1 h.1|exact h2 h.2.1|exact h.2.2 h3)]<;>simp[h3]),rfl⟩
def dL(b:Nat)(dc x c:Int)(r:V3):Ct prog 94 [b,x,c] [Sa b dc r]
  (λv H'=>v= .bool (decide (Xd dc x/\r.get x<c))/\H'=[Sa b dc (if Xd dc x/\r.get x<c then r.put x.toNat c else r)]):=by
 have ho:=eA b dc x r;refine ce func94 λg R=>?_;simp only[can];by_cases h:Xd dc x
 .obtain⟨h1,h2,h3⟩:=id h;rw[Fi h] at ho;by_cases hc:c<=r.get x
  .have hn: ¬(Xd dc x/\r.get x<c):=λh=>by have:=h.2;omega
   rw[gj hn,if_neg hn];repeat' first|refine ga ?_|refine lN (dc::r.enc) _ rfl ?_ (hc:=Bo h1 h2)|refine cq ho ?_
   exact vj [Sa b dc r]
  .have hn:Xd dc x/\r.get x<c:=⟨h,by omega⟩;rw[Fi hn,if_pos hn];repeat' first|refine ga ?_|refine lN (dc::r.enc) _ rfl ?_ (hc:=Bo h1 h2)|refine cq ho ?_
   refine Wh (dc::r.enc) (dc::(r.put x.toNat c).enc) ?_ (e:=QS h1 h2) (hb:=Nat.ble_eq_true_of_le (by show 0+1+x.toNat*1+1<=4;omega));try refine ga ?_
   exact vj [Sa b dc (r.put x.toNat c)]
 .have hn: ¬(Xd dc x/\r.get x<c):=λh'=>h h'.1;rw[gj h] at ho;rw[gj hn,if_neg hn];repeat' first|refine ga ?_|refine cq ho ?_
  exact vj [Sa b dc r]
def QF{p:ya->Bool}{k:Nat}{e:ya}(h:es[k]? =some e):(es.drop k).find? p=if p e then some e else(es.drop (k+1)).find? p:=by
 obtain⟨hlt,rfl⟩:=List.getElem?_eq_some_iff.1 h;rw[drop_eq_getElem_cons hlt,List.find?_cons];cases p es[k]<;>rfl
def RS(b:Nat)(dc x:Int)(r:V3){v:Value}(hs:Rs es v h)(hok:∀e∈es,Xc e)(hl:es.length<=1000000):
  Ct prog 158 [b,x,v] [Ma b dc r,h] (λu H'=>u=bW (Bw dc x r es)/\H'=[Ma b dc r,h]):=by
 have ho:=Ov b dc x r;obtain⟨pv,cv,rfl⟩:=hs.len;unfold Bw;by_cases c:Xd dc x
 .obtain⟨h1,h2,h3⟩:=id c;rw[Fi c] at ho;rw[if_pos c];refine ce func158 λg R=>?_;repeat' first|refine vb ?_|refine al λ_=>?_|refine cq ho ?_
  rename_i b6;refine W.h0 [Fb b6 ya.z,Ma b dc r,h,R] ?_
  refine W.lo (α:=Nat) (λk=>k<=es.length/\es.find? (En dc (r.get x))=(es.drop k).find? (En dc (r.get x)))
   (λk=>[(0,b),(1,x),(6,b6),(7,.bool false),(13,.slice pv es.length cv),(14,.int .i64 (es.length:Int)),(15,.int .i64 (k:Int))])
   (λ_=>[Fb b6 ya.z,Ma b dc r,h,R]) (λk=>es.length - k) 0 ⟨Gi _,rfl⟩ ?_
  rintro k ⟨hk,hn⟩;by_cases hlt:k<es.length
  .obtain⟨e,he⟩:=Sh hlt;obtain⟨q1,q2⟩:=(hok e (mem_of_getElem? he)).sq;have q2:e.sq<=1099511627776:=q2;rw[QF he] at hn;repeat' first|refine ga ?_|refine al λ_=>?_|refine rG hs he ?_|refine nh ya.z.enc e.enc ?_
   rename_i b9;refine wq ?_;by_cases c3:e.dc=dc/\e.sq - 1=r.get x
   .rw[if_pos (show En dc (r.get x) e=true from Fi c3)] at hn;obtain⟨c1,c2⟩:=c3;repeat' first|refine ga ?_|refine lN (dc::r.enc) _ rfl ?_ (hc:=Bo h1 h2)|refine yj e.enc ?_|refine nh ya.z.enc e.enc ?_
    exact D.yg [Ma b dc r,h] _ rfl (.Ua rfl rfl (.tmp rfl .nil)) rfl ⟨by rw[show es.find? (En dc (r.at x.toNat))=_ from hn];rfl,rfl⟩
   .rw[if_neg (by rw[En,gj c3];decide)] at hn;by_cases c1:e.dc=dc<;>by_cases c2:r.get x<e.sq
    all_goals
     repeat' first|refine ga ?_|refine lN (dc::r.enc) _ rfl ?_ (hc:=Bo h1 h2)
     exact D.rd (k+1) ⟨by omega,hn⟩ (by omega)
  .obtain rfl:k=es.length:=by omega
   rw[drop_length] at hn;repeat' first|refine ga ?_|refine Vf ya.z.enc ?_|refine nh ya.z.enc ya.z.enc ?_
   exact D.yg [Ma b dc r,h] _ rfl (.Ua rfl rfl (.tmp rfl .nil)) rfl ⟨by rw[show es.find? (En dc (r.at x.toNat))=_ from hn];rfl,rfl⟩
 .rw[gj c] at ho;rw[if_neg c];refine ce func158 λg R=>?_;repeat' first|refine vb ?_|refine al λ_=>?_|refine cq ho ?_|refine Vf ya.z.enc ?_|refine nh ya.z.enc ya.z.enc ?_
  exact D.yg [Ma b dc r,h] _ rfl (.Ua rfl rfl (.tmp rfl .nil)) rfl ⟨rfl,rfl⟩
def BO(b:Nat)(dc x:Int)(r:V3){v:Value}(hs:Rs es v h)(hok:∀e∈es,Xc e)(hl:es.length<=1000000):
  Ct prog 193 [b,x,v] [Sa b dc r,h] (λu H'=>u=bW (Bw dc x r es)/\H'=[Sa b dc r,h]):=by
 have ho:=eA b dc x r;obtain⟨pv,cv,rfl⟩:=hs.len;unfold Bw;by_cases c:Xd dc x
 .obtain⟨h1,h2,h3⟩:=id c;rw[Fi c] at ho;rw[if_pos c];refine ce func193 λg R=>?_;repeat' first|refine vb ?_|refine al λ_=>?_
  rename_i b6;refine W.h0 [Fb b6 ya.z,Sa b dc r,h,R] ?_
  refine W.lo (α:=Nat) (λk=>k<=es.length/\es.find? (En dc (r.get x))=(es.drop k).find? (En dc (r.get x)))
   (λk=>[(0,b),(1,x),(2,.slice pv es.length cv),(6,b6),(7,.bool false),(8,.int .i64 (k:Int))])
   (λ_=>[Fb b6 ya.z,Sa b dc r,h,R]) (λk=>es.length - k) 0 ⟨Gi _,rfl⟩ ?_
  rintro k ⟨hk,hn⟩;by_cases hlt:k<es.length
  .obtain⟨e,he⟩:=Sh hlt;obtain⟨q1,q2⟩:=(hok e (mem_of_getElem? he)).sq;have q2:e.sq<=1099511627776:=q2;rw[QF he] at hn;repeat' first|refine ga ?_|refine cq ho ?_
   refine wq ?_;by_cases c3:e.dc=dc/\e.sq - 1=r.get x
   .rw[if_pos (show En dc (r.get x) e=true from Fi c3)] at hn;obtain⟨c1,c2⟩:=c3;repeat' first|refine ga ?_|refine lN (dc::r.enc) _ rfl ?_ (hc:=Bo h1 h2)|refine rG hs he ?_|refine nh ya.z.enc e.enc ?_
    exact D.yg [Sa b dc r,h] _ rfl (.Ua rfl rfl (.tmp rfl .nil)) rfl ⟨by rw[show es.find? (En dc (r.at x.toNat))=_ from hn];rfl,rfl⟩
   .rw[if_neg (by rw[En,gj c3];decide)] at hn;by_cases c1:e.dc=dc<;>by_cases c2:r.get x<e.sq
    all_goals
     repeat' first|refine ga ?_|refine lN (dc::r.enc) _ rfl ?_ (hc:=Bo h1 h2)
     exact D.rd (k+1) ⟨by omega,hn⟩ (by omega)
  .obtain rfl:k=es.length:=by omega
   rw[drop_length] at hn;repeat' first|refine ga ?_|refine Vf ya.z.enc ?_|refine nh ya.z.enc ya.z.enc ?_
   exact D.yg [Sa b dc r,h] _ rfl (.Ua rfl rfl (.tmp rfl .nil)) rfl ⟨by rw[show es.find? (En dc (r.at x.toNat))=_ from hn];rfl,rfl⟩
 .rw[gj c] at ho;rw[if_neg c];refine ce func193 λg R=>?_;repeat' first|refine vb ?_|refine al λ_=>?_
  rename_i b6;refine W.h0 [Fb b6 ya.z,Sa b dc r,h,R] ?_
  refine W.lo (α:=Nat) (λk=>k=0) (λk=>[(0,b),(1,x),(2,.slice pv es.length cv),(6,b6),(7,.bool false),(8,.int .i64 0)])
   (λ_=>[Fb b6 ya.z,Sa b dc r,h,R]) (λk=>1 - k) 0 rfl ?_
  rintro k rfl;by_cases hlt:0<es.length
  all_goals
   repeat' first|refine ga ?_|refine cq ho ?_|refine Vf ya.z.enc ?_|refine nh ya.z.enc ya.z.enc ?_
   exact D.yg [Sa b dc r,h] _ rfl (.Ua rfl rfl (.tmp rfl .nil)) rfl ⟨rfl,rfl⟩
end Go.Proofs.YthebagfahkebiaaGreat
