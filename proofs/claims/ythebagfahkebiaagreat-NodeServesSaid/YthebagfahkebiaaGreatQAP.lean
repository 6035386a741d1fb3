/- Texts of one road. -/
import Derived.OpenShut
import Derived.Test.YthebagfahkebiaaGreatQAO
set_option linter.all false
set_option maxHeartbeats 8000000
set_option maxRecDepth 20000
namespace Go.Sl
open Go List
section
variable{H:Type}{enc:TypeId×Value->H}{P:Program}{w:World}{t e n k:Nat}{ag:Bool}{cs:List Value}{v:Value}
def Rf.string[ht:TU P t .string](h:Rf enc P w t cs):∃s:ByteArray,cs=[.string s]/\s.data.toList.length<=reachBytes:=by
 obtain⟨fuel,x,hx,hw⟩:=h;obtain⟨s,rfl,rfl,_⟩:=DataW.trod_string ht.h hx;refine⟨s,rfl,hw _ ?_⟩;simp[DataW.weights]
def kK{ds:List (DataW H)}(h:∀l∈DataW.weightsAll P e ds,l<=reachBytes):∀d∈ds,∀l∈d.weights P e,l<=reachBytes:=by
 induction ds with
 |nil=>intro d hd;cases hd
 |cons y r ih=>
  intro d hd l hl;simp only[DataW.weightsAll] at h;rcases mem_cons.1 hd with rfl|hd
  .exact h l (mem_append_left _ hl)
  .exact ih (λl hl=>h l (mem_append_right _ hl)) d hd l hl
def Rf.oZ[ht:TU P t (.array n e)][tl:TL P t k ag](h:Rf enc P w t cs):cs.length=k:=by
 obtain⟨fuel,x,hx,_⟩:=h;obtain⟨xs,m,_,_,hl,_⟩:=DataW.trod_array ht.h hx;rw[hl,tl.cellsOf]
def Rf.elem(i:Nat)[ht:TU P t (.array n e)][tl:TL P e k ag](h:Rf enc P w t cs)(hi:i<n):Rf enc P w e ((cs.drop (i*k)).take k):=by
 obtain⟨fuel,x,hx,hw⟩:=h;obtain⟨xs,m,_,rfl,hl,hlen,BU⟩:=DataW.trod_array ht.h hx;have h1:=BU i hi;have hi':i<xs.length:=by omega
 rw[oh hi',tl.cellsOf] at h1;refine⟨m,xs[i],h1,?_⟩;simp only[DataW.weights,ht.h] at hw;exact kK hw _ (mem_map.2 ⟨_,getElem_mem hi',rfl⟩)
end
end Go.Sl
namespace Go.Proofs.YthebagfahkebiaaGreat
open Go Go.Sl Go.Proofs.Tryz List
variable{l:List Lf}{d:Nat}{h:Hp}
def Ds.B9{a b:List Ub}(h:Ds (a++b)):Ds b where
 up:=by have:=h.up;rw[Ae,pairwise_append] at this;exact this.2.1
 ok:=λq hq=>h.ok q (mem_append_right _ hq)
 used:=by have:=h.used;rw[Ae,sum_append] at this;omega
 len:=by have:=h.len;rw[Cb] at this;omega
def FT(ok:Ge l){hx:Hp}{qs:List Ub}{t:Int}(lr:LR l qs t)(ht:t<=549755813888)(hd:pg (qs.map Ub.pl) t d h){u:Value}(hb:Rs Nc.fr u hx):
  Ct prog 217 [d,.int .i64 (ua l+1),u] [h,hx] (λres H'=>∃(e:Int) (h':Hp),res= .int .i64 e/\H'=[h',hx]/\(e=0↔(dk l).Jg (ua l+1) Nc.fr.length=0)/\(e≠0->h'=h)/\(e=0->pg ((qs++[(⟨ua l+1,Nc.fr,0,Cq t Nc.fr.length⟩:Ub)]).map Ub.pl) (t+Nc.fr.length) d h')):=by
 have hle:=(Rec.good Ph).yh;have zL:=lr.t0;have Ju:=lr.q ok.toKu;have Nn:=lr.used;have jg:=lr.m.len;have Tq:=Eg ok;have Le:=dw ok (n:=ua l+1) (by omega)
 have DT:∀x∈qs,x.n<ua l+1:=by
  rcases eq_nil_or_concat l with rfl|⟨pre,f,rfl⟩
  .have:qs=[]:=length_eq_zero_iff.1 (by simpa using jg.symm);subst this;simp
  .rw[concat_eq_append] at lr ok jg⊢;obtain⟨qp,q,rfl,fr,hqp⟩:=Fs lr;rw[Kb];intro x hx;have Dn:=Ju.up;rw[Ae,pairwise_append] at Dn;have hfn:=fr.n;rcases mem_append.1 hx with hx|hx
   .have:=Dn.2.2 _ (mem_map.2 ⟨x,hx,rfl⟩) q.n (by simp);omega
   .rw[mem_singleton.1 hx];omega
 rw[Rk,Le];simp only[Option.isNone_none,true_and];by_cases EP:1099511627776<ua l+1
 .rw[if_pos (.inr EP)];refine Ct.mono (Sw (qs:=qs) (t:=t) (h:=h) (hx:=hx) EP) ?_;rintro _ H' ⟨rfl,e⟩;exact⟨50,h,rfl,e,⟨λh=>absurd h (by decide),λh=>absurd h (by decide)⟩,λ_=>rfl,λh=>absurd h (by decide)⟩
 rw[if_neg (by omega)];by_cases Zv:64<=l.length\/1048576<(dk l).used+Nc.fr.length
 .rw[if_pos Zv];refine Ct.mono (tu Ju hd DT (by omega) (by omega) hb (by omega) (by rw[Nn,<-jg];exact Zv)) ?_;rintro _ H' ⟨rfl,e⟩;exact⟨51,h,rfl,e,⟨λh=>absurd h (by decide),λh=>absurd h (by decide)⟩,λ_=>rfl,λh=>absurd h (by decide)⟩
 .rw[if_neg Zv];simp only[not_or,Nat.not_le,Nat.not_lt] at Zv;refine Ct.mono (bq Ju zL (by omega) hd DT (by omega) (by omega) (by omega) hb (by rw[Nn];omega)) ?_;rintro _ H' ⟨h',rfl,e,hd'⟩;exact⟨0,h',rfl,e,⟨λ_=>rfl,λ_=>rfl⟩,λh=>absurd rfl h,λ_=>hd'⟩
def BV(ok:Ge l){T:Int}(hd:RD l d h T)(hT:T<=274877906944){w:Nat}{Aa:Int}:
  Ct prog 137 [w] [ff w d (ua l) Aa,h] (λres H'=>∃h',res= .int .i64 (Qj l).2/\H'=[ff w d (ua (Qj l).1) Aa,h']/\RD (Qj l).1 d h' (T+243)):=by
 have zK:=yN Nc (by decide);rw[Ph] at zK;have hle:=(Rec.good Ph).yh;have Tq:=Eg ok;obtain⟨qs,t,lr,ht,hd⟩:=hd;have zL:=lr.t0;refine cr func137 λg R=>?_;refine ck zK ?_;rintro _ _ ⟨u2,h2,rfl,rfl,Oa⟩;have hap:=FT ok lr (by omega) hd Oa.rs;refine rn ?_;refine cX (ml [10,1,1]) [ff w d (ua l) Aa] ?_;try refine run ?_
 refine ck hap ?_;rintro _ _ ⟨e,y,rfl,rfl,hee,qk,G4⟩;simp only[can];unfold Qj;by_cases hE:(dk l).Jg (ua l+1) Nc.fr.length=0
 .rw[if_neg (λhn=>hn hE)];have xW:=hee.2 hE;subst xW;have Bn:=G4 rfl;obtain⟨Sr,-⟩:=xA ok hE;have lrn:=LR.new lr (ua l+1) Nc;have yW:=lrn.q Sr.toKu;have jg:=yW.len;rw[Cb,length_singleton] at jg;have W7:(qs++[(⟨ua l+1,Nc.fr,0,Cq t Nc.fr.length⟩:Ub)])[qs.length]? =some ⟨ua l+1,Nc.fr,0,Cq t Nc.fr.length⟩:=List.getElem?_concat_length;have Ws:=PJ yW Bn W7;rw[TJ] at Ws;try refine run ?_
  refine cX (ml [8]) [ff w d (ua l+1) Aa] ?_;try refine run ?_
  refine ck Ws ?_;rintro _ _ ⟨y2,rfl,rfl,Hj⟩;have CC:=Bq Hj (by rw[We,Cb,length_singleton];omega);generalize hx:Ub.syn ⟨ua l+1,Nc.fr,0,Cq t Nc.fr.length⟩=x at*;have O6:x.n=ua l+1:=by rw[<-hx];rfl
  have hnm:((qs++[x]).map Ub.pl).map (·.n)=qs.map (·.n)++[ua l+1]:=by rw[map_map,Ae];show qs.map (·.n)++[x.n]=_;rw[O6]
  rw[hnm] at CC;have hnl:(qs.map (·.n)++[ua l+1]).length=qs.length+1:=by simp
  have kZ:Ds (qs++[x]):=by
   have:=ET yW (qs.length+1)
   have e2:IN (qs++[(⟨ua l+1,Nc.fr,0,Cq t Nc.fr.length⟩:Ub)]) (qs.length+1)=qs.map Ub.syn++[x]:=by
    unfold IN;rw[take_of_length_le (by simp),drop_eq_nil_of_le (by simp),append_nil,Ae,<-hx];rfl
   rw[e2] at this;refine⟨?_,λq hq=>?_,?_,?_⟩
   .have h3:=this.up;rw[Ae,map_map] at h3;rw[Ae];exact h3
   .rcases mem_append.1 hq with hq|hq
    .exact yW.ok q (mem_append_left _ hq)
    .exact this.ok q (mem_append_right _ hq)
   .have h3:=this.used;rw[Ae,map_map] at h3;rw[Ae];exact h3
   .have h3:=this.len;rw[Cb,We] at h3;rw[Cb];exact h3
  refine rn ?_;refine ck CC ?_;rintro u3 _ ⟨hn,rfl,Fc⟩;have HU:=Fc.rs;refine rn ?_
  refine W.lo (α:=Nat×Hp) (λz=>z.1<=qs.length+1/\pg ((qs.drop z.1++[x]).map Ub.pl) (t+Nc.fr.length) d z.2) (λz=>[(0,w),(5,u3),(6,.int .i64 (z.1:Int))])
   (λz=>[ff w d (ua l+1) Aa,z.2,hn,R]) (λz=>qs.length+1 - z.1) (0,y2) ⟨Gi _,Hj⟩ ?_
  rintro⟨i,z⟩ ⟨hi,Ip⟩;simp only[] at hi Ip⊢;by_cases hil:i<qs.length
  .obtain⟨q,hq⟩:=Sh hil;have DT:(qs.map (·.n)++[ua l+1])[i]? =some q.n:=by rw[List.getElem?_append_left (by rw[We];exact hil),List.getElem?_map,hq];rfl
   have rQ:qs.drop i=q::qs.drop (i+1):=by rw[drop_eq_getElem_cons hil,(List.getElem?_eq_some_iff.1 hq).2]
   have Faa:q.n<ua l+1:=by
    have Dn:=kZ.up;rw[Ae,pairwise_append] at Dn;have:=Dn.2.2 q.n (mem_map.2 ⟨q,mem_of_getElem? hq,rfl⟩) x.n (by simp);omega
   have C9:Ds (qs.drop i++[x]):=by
    rw[<-take_append_drop i qs,Oc] at kZ;exact kZ.B9
   have hrm:=tA C9 Ip (k:=0) (q:=q) (by rw[rQ];rfl);rw[show(qs.drop i++[x]).eraseIdx 0=qs.drop (i+1)++[x] by rw[rQ];rfl] at hrm;try refine run ?_
   refine wr ?_;refine cX (ml [8]) [ff w d (ua l+1) Aa,hn] ?_;try refine run ?_
   refine ck hrm ?_;rintro _ _ ⟨z',rfl,rfl,HT⟩;refine rn ?_;exact D.rd (i+1,z') ⟨by simp only[];omega,HT⟩ (by simp only[];omega)
  .by_cases gX:i=qs.length
   .subst gX
    have DT:(qs.map (·.n)++[ua l+1])[qs.length]? =some (ua l+1):=by
     have:=List.getElem?_concat_length (l:=qs.map (·.n)) (a:=ua l+1);rwa [We] at this
    have HT:pg ((qs.drop (qs.length+1)++[x]).map Ub.pl) (t+Nc.fr.length) d z:=by
     rw[drop_eq_nil_of_le (by omega)];rw[drop_length] at Ip;exact Ip
    try refine run ?_
    refine wr ?_;exact D.rd (qs.length+1,z) ⟨by simp only[];omega,HT⟩ (by simp only[];omega)
   .obtain rfl:i=qs.length+1:=by omega
    rw[drop_eq_nil_of_le (by omega),nil_append] at Ip;try refine run ?_
    refine Wa [ff w d (ua l+1) Aa,z] rfl rfl ⟨z,rfl,rfl,[x],t+Nc.fr.length,⟨.cons ⟨O6,?_,?_,?_⟩ .nil,?_,?_,by omega⟩,by omega,Ip⟩
    .rw[<-hx];show Nc.fr=_;rw[Fq]
    .rw[<-hx];show Nc.fr.length=_;unfold Lf.s7;rw[show[Nc].take 1=[Nc] from rfl,Fq]
    .rw[<-hx];show Nc.fr.length+0=Nc.fr.length;omega
    .rw[Bi,<-hx];exact .nil
    .rw[Bi,<-hx];intro a ha;cases ha
 .rw[if_pos hE];have xW: ¬e=0:=λh0=>hE (hee.1 h0);have:=qk xW;subst this;try refine run ?_
  exact Wa [ff w d (ua l) Aa,y] rfl rfl ⟨y,rfl,rfl,qs,t,lr,by omega,hd⟩
def yA(y:Int)(t:List Int)(m:Int):cnt (y::t) m=(if y<=m then 1 else 0)+cnt t m:=by
 unfold cnt;by_cases h:y<=m
 .rw[if_pos h,filter_cons_of_pos (by simpa using h),Gb];omega
 .rw[if_neg h,filter_cons_of_neg (by simpa using h)];omega
def zW(a b:List Int)(m:Int):cnt (a++b) m=cnt a m+cnt b m:=by unfold cnt;rw[filter_append,Cb]
def IT{m:Int}:∀{l:List Int},l.Pairwise (· < ·)->(l.takeWhile λx=>decide (x<=m)).length=cnt l m
 |[],_=>rfl
 |y::t,h=>by
  rw[pairwise_cons] at h;rw[yA];by_cases hy:y<=m
  .rw[if_pos hy,takeWhile_cons_of_pos (by simpa using hy),Gb,IT h.2];omega
  .rw[if_neg hy,takeWhile_cons_of_neg (by simpa using hy),uu (λx hx=>by have:=h.1 x hx;omega)];rfl
def UJ{m:Int}:∀{l:List Int},l.Pairwise (· < ·)->cnt l (m+1)<=cnt l m+1
 |[],_=>by simp[cnt]
 |y::t,h=>by
  rw[pairwise_cons] at h;rw[yA,yA];have ih:=UJ (m:=m) h.2;by_cases h1:y<=m
  .rw[if_pos h1,if_pos (by omega)];omega
  .rw[if_neg h1];have h2:cnt t (m+1)=0:=uu (λx hx=>by have:=h.1 x hx;omega);split<;>omega
def VR{qs:List Ub}{t:Int}{k:Nat}{last:Int}(h:uA qs t k last)(hi:(Ve qs).Pairwise (· < ·))(hp:∀x∈Ve qs,0<x/\x<=t):cnt (Ve qs) last=min k (Ve qs).length:=by
 obtain⟨h0,h1,h2⟩:=h;rcases Nat.lt_or_ge k (Ve qs).length with hk|hk
 .obtain⟨h3,h4⟩:=h2 hk;have h5:=UJ (m:=last) hi;omega
 .rw[h1 hk,zH (λx hx=>(hp x hx).2)];omega
def fq(f:xd):Ub:=⟨f.n,f.b,f.s,[]⟩
def Cz{last:Int}:∀{l:List Lf} {qs:List Ub} {k:Nat},Pk FR l qs->(Ve qs).Pairwise (· < ·)->cnt (Ve qs) last=min k (Ve qs).length->(qs.map λq=>q.Pb last)=(oe l k).map fq:=by
 intro l qs k h
 induction h generalizing k with
 |nil=>intro _ _;rfl
 | @cons f q l qs hf _ ih=>
  intro hi hc;have e:Ve (q::qs)=q.ts++Ve qs:=rfl;rw[e] at hi hc;rw[pairwise_append] at hi;rw[zW,Cb] at hc;have u7:=IT (m:=last) hi.1;have hle:=jM q.ts last;have hle2:=jM (Ve qs) last
  have hz:cnt q.ts last<q.ts.length->cnt (Ve qs) last=0:=λhlt=>by
   refine uu λx hx=>?_
   have hx0:∃y∈q.ts,last<y:=by
    refine Classical.byContradiction λhn=>?_;have:∀y∈q.ts,y<=last:=λy hy=>Classical.byContradiction λh2=>hn ⟨y,hy,by omega⟩;rw[zH this] at hlt;omega
   obtain⟨y,hy,KV⟩:=hx0;have:=hi.2.2 y hy x hx;omega
  have hA:cnt q.ts last=min k q.ts.length:=by
   by_cases hlt:cnt q.ts last<q.ts.length
   .have:=hz hlt;omega
   .omega
  have hB:cnt (Ve qs) last=min (k - min k q.ts.length) (Ve qs).length:=by
   by_cases hlt:cnt q.ts last<q.ts.length
   .have:=hz hlt;omega
   .omega
  have QX:=hf.e
  have hL:(bytes (f.rs.drop f.k)).length=q.ts.length:=by
   have h1:=congrArg List.length (Ld f.rs f.k);rw[Cb] at h1;have h2:=hf.s;rw[hf.b] at QX;unfold Lf.s7 at h2;omega
  rw[map_cons];unfold oe;rw[map_cons,hL,ih hi.2.1 hB];congr 1;unfold Ub.Pb Ub.cut Ub.kp Ub.tw fq;rw[u7,hA,hf.n,hf.b,hf.s];rfl
variable{qp post:List Ub}{x y:Ub}
def I4:(qp++x::post).set qp.length y=qp++y::post:=by rw[set_append_right _ _ (Nat.le_refl _),Nat.sub_self];rfl
def J4:(qp++x::y::post).eraseIdx (qp.length+1)=qp++x::post:=by
 rw[eraseIdx_append_of_length_le (by omega)];rw[show qp.length+1 - qp.length=1 by omega];rfl
def Ds.D9(h:Ds (qp++x::post)){m:Nat}(hm:m<=x.b.length):Ds (qp++x.cut m::post) where
 up:=by have:=h.up;simp only[Ae,map_cons] at this⊢;exact this
 ok:=λq hq=>by
  rcases mem_append.1 hq with hq|hq
  .exact h.ok q (by simp[hq])
  .rcases mem_cons.1 hq with rfl|hq
   .exact⟨by show m+0=(x.b.take m).length;rw[Fe];omega,by show ∀y∈[],_;simp⟩
   .exact h.ok q (by simp[hq])
 used:=by
  have:=h.used;simp only[Ae,map_cons,sum_append,sum_cons] at this⊢;have e:(x.cut m).b.length<=x.b.length:=by show(x.b.take m).length<=_;rw[Fe];omega
  omega
 len:=by have:=h.len;simp only[Cb,Gb] at this⊢;exact this
def Ds.E9(h:Ds (qp++x::y::post)):Ds (qp++x::post) where
 up:=by
  have:=h.up;simp only[Ae,map_cons,pairwise_append,pairwise_cons,mem_cons] at this⊢;refine⟨this.1,⟨λa ha=>this.2.1.1 a (.inr ha),this.2.1.2.2⟩,λa ha b hb=>this.2.2 a ha b ?_⟩;rcases hb with hb|hb
  .exact .inl hb
  .exact .inr (.inr hb)
 ok:=λq hq=>h.ok q (by
  rcases mem_append.1 hq with hq|hq
  .simp[hq]
  .rcases mem_cons.1 hq with rfl|hq<;>simp_all)
 used:=by have:=h.used;simp only[Ae,map_cons,sum_append,sum_cons] at this⊢;omega
 len:=by have:=h.len;simp only[Cb,Gb] at this⊢;omega
def VJ{pre:List Lf}{tail:List Ub}(hm:Pk FR pre qp)(hgd:∀f∈pre,∀r∈f.rs,r.code=0)(Ju:Ds (qp++tail)){t:Int}{d:Nat}{h:Hp}(hd:pg ((qp++tail).map Ub.pl) t d h)
  {seg Aa:Int}{K4:List Ub}{out:List Rec}(lZ:6*(Ta pre).length<=1048576)
  (hend:(tail=[]/\seg=ua pre/\Aa=0/\K4=qp/\out=we (Ta pre))\/
   ∃x post rs tt,tail=x::post/\x.b=bytes rs++tt/\x.ts=[]/\(∀r∈rs,r.code=0)/\zA tt/\tt≠[]/\seg=x.n/\Aa=((tt.length+(post.map (λq=>q.b.length)).sum:Nat):Int)/\K4=qp++[x.cut (bytes rs).length]/\out=we (Ta pre++rs)):
  Ct prog 134 [d] [h] (λres H'=>∃w u h' ho,res= .tuple #[.pointer (some ⟨w,0,none⟩),u]/\H'=[ff w d seg Aa,h',ho]/\pg (K4.map Ub.pl) t d h'/\ia 140 out u ho):=by
 have jg:=Ju.len;have hml:=hm.len;have CC:=Bq hd (by rw[We];omega);have hnm:((qp++tail).map Ub.pl).map (·.n)=(qp++tail).map (·.n):=by rw[map_map];rfl
 rw[hnm] at CC;have hnl:((qp++tail).map (·.n)).length=pre.length+tail.length:=by rw[We,Cb];omega
 rw[Cb] at jg;refine ce func134 λg R=>?_;repeat' first|refine rn ?_|refine Ud λ_=>?_
 rename_i w;refine ck CC ?_;rintro fu _ ⟨hn,rfl,hs⟩;have hr:=hs.rs;refine rn ?_;refine W.Ke ?_
 refine W.lo (α:=Bool×Nat×Value×Hp×Hp×Int×Int)
  (λz=>(z.1=false/\z.2.1<=pre.length/\ia 140 (we (Ta (pre.take z.2.1))) z.2.2.1 z.2.2.2.1/\pg ((qp++tail).map Ub.pl) t d z.2.2.2.2.1/\z.2.2.2.2.2.1=ua (pre.take z.2.1)/\z.2.2.2.2.2.2=0)\/
   (z.1=true/\∃x post m tl j,(tail=x::post/\m<=x.b.length/\seg=x.n/\Aa=((tl+(post.map (λq=>q.b.length)).sum:Nat):Int)/\K4=qp++[x.cut m])/\z.2.1=pre.length+1+j/\j<=post.length/\ia 140 out z.2.2.1 z.2.2.2.1/\pg ((qp++x.cut m::post.drop j).map Ub.pl) t d z.2.2.2.2.1/\Ds (qp++x.cut m::post.drop j)/\z.2.2.2.2.2.1=x.n/\z.2.2.2.2.2.2=((tl+((post.take j).map (λq=>q.b.length)).sum:Nat):Int)/\tl<=1048576))
  (λz=>[(0,d),(4,.pointer (some ⟨w,0,none⟩)),(5,z.2.2.1),(6,fu),(7,.bool z.1),(8,.int .i64 (z.2.1:Int))])
  (λz=>[z.2.2.2.1,ff w d z.2.2.2.2.2.1 z.2.2.2.2.2.2,z.2.2.2.2.1,hn,R]) (λz=>pre.length+tail.length+1 - z.2.1) (false,0,.slice none 0 0,[],h,0,0) (.inl ⟨rfl,Gi _,ia.nil _,hd,rfl,rfl⟩) ?_
 rintro⟨bad,i,o,ho,y,sg,tn⟩ hP;simp only[] at hP⊢;rcases hP with⟨rfl,hi,On,xp,rfl,rfl⟩|⟨rfl,x,post,m,tl,j,⟨rfl,I6,rfl,rfl,rfl⟩,rfl,hj,On,xp,JT,rfl,rfl,htl⟩
 .by_cases hC:i=pre.length/\tail=[]
  .obtain⟨rfl,rfl⟩:=hC;simp only[jd] at hnl;rcases hend with⟨-,rfl,rfl,rfl,rfl⟩|⟨x,post,rs,tt,e,-⟩
   .rw[append_nil] at xp;rw[take_length] at On⊢;try refine run ?_
    exact D.Vb [ff w d (ua pre) 0,y,ho] _ rfl rfl rfl ⟨w,o,y,ho,rfl,rfl,xp,On⟩
   .cases e
  .obtain⟨q,rs,tt,hqi,L4,Vt,KT⟩:∃q rs tt,(qp++tail)[i]? =some q/\q.b=bytes rs++tt/\(∀r∈rs,r.code=0)/\
     ((tt=[]/\∃f,pre[i]? =some f/\f.n=q.n/\f.rs=rs)\/(i=pre.length/\∃post,tail=q::post/\q.ts=[]/\zA tt/\tt≠[]/\seg=q.n/\Aa=((tt.length+(post.map (λq=>q.b.length)).sum:Nat):Int)/\K4=qp++[q.cut (bytes rs).length]/\out=we (Ta pre++rs))):=by
    by_cases hlt:i<pre.length
    .obtain⟨f,hf⟩:=Sh hlt;obtain⟨q,hq⟩:∃q,qp[i]? =some q:=⟨_,oh (by omega)⟩;have hfr:=hm.get hf hq;exact⟨q,f.rs,[],by rw[List.getElem?_append_left (by omega)];exact hq,by rw[append_nil];exact hfr.b,hgd f (mem_of_getElem? hf),.inl ⟨rfl,f,hf,hfr.n.symm,rfl⟩⟩
    .obtain rfl:i=pre.length:=by omega
     rcases hend with⟨e,-⟩|⟨x,post,rs,tt,e1,e2,e3,e4,e5,e6,e7,e8,e9,xQ⟩
     .exact absurd ⟨rfl,e⟩ hC
     .exact⟨x,rs,tt,by rw[e1,hml,List.getElem?_append_right (Nat.le_refl _),Nat.sub_self];rfl,e2,e4,.inr ⟨rfl,post,e1,e3,e5,e6,e7,e8,e9,xQ⟩⟩
   have KU:=mem_of_getElem? hqi;have iM:=Ju.bl KU;rw[L4,Cb] at iM
   have hrl:6*rs.length<=1048576:=by
    have:=Em Vt;omega
   have jx:(Ta (pre.take i)).length<=(Ta pre).length:=by
    have:=congrArg (λl=>(Ta l).length) (take_append_drop i pre);simp only[si,Cb] at this;omega
   have Q6:((qp++tail).map (·.n))[i]? =some q.n:=by rw[List.getElem?_map,hqi];rfl
   have hrc:=OJ xp Ju.Rw (by rw[We,Cb];omega) (aq hqi);have hil:i<pre.length+tail.length:=by rw[<-hnl];exact(List.getElem?_eq_some_iff.1 Q6).1
   try refine run ?_
   refine ck hrc ?_;rintro _ _ ⟨ub,rfl,rfl,hrb⟩;have hrb:Rs (bytes rs++tt) ub y:=by rw[<-L4];exact hrb
   obtain⟨bp,bc,rfl⟩:=hrb.len;have hbc:(bytes rs++tt).length<=bc:=by obtain⟨a,cc,e,le,_⟩:=id hrb;cases e;exact le
   have mh:(bytes rs++tt).length=(bytes rs).length+tt.length:=Cb;refine rn ?_
   refine W.lo (α:=Nat×Value×Hp) (λz=>z.1<=rs.length/\ia 140 (we (Ta (pre.take i)++rs.take z.1)) z.2.1 z.2.2)
    (λz=>[(0,d),(4,.pointer (some ⟨w,0,none⟩)),(5,z.2.1),(6,fu),(7,.bool false),(8,.int .i64 (i:Int)),(9,.slice bp (bytes rs++tt).length bc),(11,.int .i64 ((bytes (rs.take z.1)).length:Int))])
    (λz=>[y,z.2.2,ff w d q.n 0,hn,R]) (λz=>rs.length+1 - z.1) (0,o,ho) ⟨Gi _,by simpa using On⟩ ?_
   rintro⟨j,o1,NL⟩ ⟨hj,Gs⟩;simp only[] at hj Gs⊢;have F9:=Jf rs j;by_cases hlt:j<rs.length
   .obtain⟨r,mZ⟩:=Sh hlt;have WJ:=Vt r (mem_of_getElem? mZ);have AA:=Rec.good WJ;have hle:=AA.yh;have th:rs.take (j+1)=rs.take j++[r]:=by rw[take_succ_eq_append_getElem hlt,(List.getElem?_eq_some_iff.1 mZ).2]
    have hdj:rs.drop j=r::rs.drop (j+1):=by rw[drop_eq_getElem_cons hlt,(List.getElem?_eq_some_iff.1 mZ).2]
    have zj:(bytes (rs.take (j+1))).length=(bytes (rs.take j)).length+r.fr.length:=by rw[th,aj,Cb];simp[bytes]
    have hxs:(bytes rs++tt).drop (bytes (rs.take j)).length=r.fr++(bytes (rs.drop (j+1))++tt):=by
     rw[<-Ld rs j,Oc,drop_left,hdj,qe,Oc]
    have Wx:(bytes rs++tt).length=(bytes (rs.take j)).length+(r.fr.length+(bytes (rs.drop (j+1))++tt).length):=by
     have:=congrArg List.length hxs;simp only[length_drop,Cb] at this⊢;omega
    have yo:=hrb.cut (m:=1) (lo:=(bytes (rs.take j)).length) (hi:=(bytes rs++tt).length) (mx:=bc) rfl (by omega) (Nat.le_refl _) hbc;rw[take_of_length_le (by rw[length_drop];omega)] at yo;have BA:=rT AA hxs yo (by rw[length_drop];omega);have O0:=yz (Ta (pre.take i)++rs.take j);rw[Cb,Fe] at O0;try refine run ?_
    refine WX.ei (lo:=(bytes (rs.take j)).length) rfl rfl (by omega) hbc rfl ?_;refine cq BA ?_;repeat' first|refine mv ?_|refine ex ?_
    refine WX.alloc rfl (λba=>?_);refine WX.h0 [[(ba,.cells Rec.z.enc.toArray 140 (0,0))],y,NL,ff w d q.n 0,hn,R] ?_;refine WX.Yc (vs:=r.enc) (b:=ba) (i:=0) (cs:=Rec.z.enc) rfl rfl rfl rfl rfl rfl ?_;rw[Mh (show Rec.z.enc.length=r.enc.length from rfl)];by_cases jW:r.k=3
    .repeat' first|refine Xm ba 0 r.enc r.enc ?_|refine om ?_|fail
     refine Kp [r] (λv1 h1 hs1=>?_);refine Ys (zb:=by simp only[Gb,jd,Cb] at O0⊢;omega) Gs hs1.rs (λv2 h2 Oa=>?_);repeat' first|refine WX.load (v:= .int .i64 r.k) (b:=ba) (i:=0) (cs:=r.enc) rfl rfl rfl ?_|refine om ?_|fail
     refine D.as 11 (.int .i64 ((bytes (rs.take (j+1))).length:Int)) rfl (by rw[zj];rfl) ?_;refine D.Ke ?_;exact D.rd (j+1,.slice none 0 0,[]) ⟨by simp only[];omega,by simp only[];rw[th,<-Oc,Xi,if_pos jW];exact ia.nil _⟩ (by simp only[];omega)
    .repeat' first|refine Xm ba 0 r.enc r.enc ?_|refine om ?_|fail
     refine Kp [r] (λv1 h1 hs1=>?_);refine Ys (zb:=by simp only[Gb,jd,Cb] at O0⊢;omega) Gs hs1.rs (λv2 h2 Oa=>?_);repeat' first|refine WX.load (v:= .int .i64 r.k) (b:=ba) (i:=0) (cs:=r.enc) rfl rfl rfl ?_|refine om ?_|fail
     refine D.as 11 (.int .i64 ((bytes (rs.take (j+1))).length:Int)) rfl (by rw[zj];rfl) ?_;exact D.rd (j+1,v2,h2) ⟨by simp only[];omega,by simp only[];rw[th,<-Oc,Xi,if_neg jW];exact Oa⟩ (by simp only[];omega)
   .obtain rfl:j=rs.length:=by omega
    rw[take_length] at Gs F9⊢;rcases KT with⟨rfl,f,hf,hfn,rfl⟩|⟨rfl,post,rfl,hts,hsh,htn,rfl,rfl,rfl,rfl⟩
    .simp only[jd,Nat.add_zero] at mh;have hip:=(List.getElem?_eq_some_iff.1 hf).1;try refine run ?_
     rw[<-fG hf] at Gs;rw[<-hfn,<-CA hf];exact D.rd (false,i+1,o1,NL,y,ua (pre.take (i+1)),0) (.inl ⟨rfl,by simp only[];omega,Gs,xp,rfl,rfl⟩) (by simp only[];omega)
    .obtain⟨r,k,WJ,hk,rfl⟩:=hsh;have AA:=Rec.good WJ;have hle:=AA.yh;have htl:0<(r.fr.take k).length:=length_pos_iff.2 htn;have tB:(r.fr.take k).length=k:=by rw[Fe];omega
     have yo:=hrb.cut (m:=1) (lo:=(bytes rs).length) (hi:=(bytes rs++r.fr.take k).length) (mx:=bc) rfl (by omega) (Nat.le_refl _) hbc;rw[take_of_length_le (by rw[length_drop];omega),drop_left] at yo;have BA:=IJ AA hk (by omega) rfl yo;rw[take_length] at Gs;have htr:=BP Ju xp hqi hts (m:=(bytes rs).length) (by rw[L4,Cb];omega);rw[hml,I4] at htr;try refine run ?_
     refine WX.ei (lo:=(bytes rs).length) rfl rfl (by omega) hbc rfl ?_;refine cq BA ?_;repeat' first|refine mv ?_|refine ex ?_
     refine WX.alloc rfl (λba=>?_);refine WX.h0 [[(ba,.cells Rec.z.enc.toArray 140 (0,0))],y,NL,ff w d q.n 0,hn,R] ?_;refine WX.Yc (vs:=Rec.z.enc) (b:=ba) (i:=0) (cs:=Rec.z.enc) rfl rfl rfl rfl rfl rfl ?_;rw[Mh rfl];try refine run ?_
     refine ck htr ?_;rintro _ _ ⟨y0,rfl,rfl,Bk⟩
     have e0:(0+((bytes rs++r.fr.take k).length:Int) - ((bytes rs).length:Int))=(((r.fr.take k).length+((post.take 0).map (λq=>q.b.length)).sum:Nat):Int):=by
      simp only[Cb,take_zero,map_nil,sum_nil];omega
     rw[e0];refine rn ?_
     exact D.round (true,pre.length+1+0,o1,NL,y0,q.n,(((r.fr.take k).length+((post.take 0).map (λq=>q.b.length)).sum:Nat):Int))
      (.inr ⟨rfl,q,post,(bytes rs).length,(r.fr.take k).length,0,⟨rfl,by rw[L4,Cb];omega,rfl,rfl,rfl⟩,rfl,Gi _,Gs,Bk,Ju.D9 (by rw[L4,Cb];omega),rfl,rfl,by omega⟩) (by simp only[Gb];omega) (by repeat(first|exact Ca.nil|refine Ca.cons rfl ?_)) (Ga.qa inferInstance)
 .have R6:(x::post).length=post.length+1:=rfl;rw[R6] at hnl;by_cases hjl:j<post.length
  .obtain⟨q,hq⟩:=Sh hjl;have rQ:post.drop j=q::post.drop (j+1):=by rw[drop_eq_getElem_cons hjl,(List.getElem?_eq_some_iff.1 hq).2]
   have th:((post.take (j+1)).map (λq=>q.b.length)).sum=((post.take j).map (λq=>q.b.length)).sum+q.b.length:=by
    rw[take_succ_eq_append_getElem hjl,(List.getElem?_eq_some_iff.1 hq).2];simp
   have hle2:=gq (λq:Ub=>q.b.length) post (j+1);have Nn:=Ju.used;rw[Ae,map_cons,sum_append,sum_cons] at Nn
   have Q6:((qp++x::post).map (·.n))[pre.length+1+j]? =some q.n:=by
    rw[List.getElem?_map,hml,List.getElem?_append_right (by omega),show qp.length+1+j - qp.length=j+1 by omega,List.getElem?_cons_succ,hq];rfl
   rw[rQ] at xp JT
   have hqi:(qp++x.cut m::q::post.drop (j+1))[qp.length+1]? =some q:=by
    rw[List.getElem?_append_right (by omega),show qp.length+1 - qp.length=1 by omega];rfl
   have hql:=JT.len;have hrc:=OJ xp JT.Rw (by rw[We];omega) (aq hqi);have hrm:=tA JT xp hqi;rw[J4] at hrm;try refine run ?_
   refine ck hrc ?_;rintro _ _ ⟨ub,rfl,rfl,hrb⟩;have hrb:Rs q.b ub y:=hrb;obtain⟨bp,bc,rfl⟩:=hrb.len;refine rn ?_;refine ck hrm ?_;rintro _ _ ⟨y2,rfl,rfl,Hj⟩;have e1:(((tl+((post.take j).map (λq=>q.b.length)).sum:Nat):Int)+(q.b.length:Int))=((tl+((post.take (j+1)).map (λq=>q.b.length)).sum:Nat):Int):=by rw[th];omega
   rw[e1];refine rn ?_
   exact D.round (true,pre.length+1+(j+1),o,ho,y2,x.n,((tl+((post.take (j+1)).map (λq=>q.b.length)).sum:Nat):Int))
    (.inr ⟨rfl,x,post,m,tl,j+1,⟨rfl,I6,rfl,rfl,rfl⟩,rfl,by omega,On,Hj,JT.E9,rfl,rfl,htl⟩) (by simp only[Gb];omega) (by repeat(first|exact Ca.nil|refine Ca.cons rfl ?_)) (Ga.qa inferInstance)
  .obtain rfl:j=post.length:=by omega
   rw[drop_length] at xp;rw[take_length];try refine run ?_
   exact D.Vb [ff w d x.n ((tl+(post.map (λq=>q.b.length)).sum:Nat):Int),y,ho] _ rfl rfl rfl ⟨w,o,y,ho,rfl,rfl,xp,On⟩
variable{f:Lf}{a b:List Lf}{K:Nat}
def YJ:List Lf->Nat
 |[]=>0
 |[f]=>min 4096 (bytes f.rs).length
 |_::g::t=>4096+YJ (g::t)
structure FU(l:List Lf)(K:Nat):Prop where
 ea:∀f∈l,(bytes f.rs).length<=4400
 su:YJ l<=250*K
def gw{l:List Lf}(h:l≠[]):YJ (f::l)=4096+YJ l:=by
 cases l with
 |nil=>exact absurd rfl h
 |cons g t=>rfl
def iw(l:List Lf)(f:Lf):YJ (l++[f])=4096*l.length+min 4096 (bytes f.rs).length:=by
 induction l with
 |nil=>simp[YJ]
 |cons g t ih=>rw[cons_append,gw (by simp),ih,Gb];omega
def Pn.fat(h:Pn a b):YJ a<=YJ b:=by
 induction h with
 |nil=>exact Nat.le_refl _
 | @cons a b f m h ih=>
  have hl:=h.len
  cases b with
  |nil=>
   have:a=[]:=length_eq_zero_iff.1 hl;subst this;have:=Jf f.rs m;show min 4096 (bytes (f.rs.take m)).length<=min 4096 (bytes f.rs).length
   omega
  |cons g t=>
   rw[gw (by intro e;rw[e] at hl;simp at hl),gw (by simp)];omega
def Pn.ea(h:Pn a b){n:Nat}(hb:∀f∈b,(bytes f.rs).length<=n):∀f∈a,(bytes f.rs).length<=n:=by
 induction h with
 |nil=>exact hb
 | @cons a b f m h ih=>
  intro x hx;rcases mem_cons.1 hx with rfl|hx
  .have:=Jf f.rs m;have:=hb f (zf ..);show(bytes (f.rs.take m)).length<=n;omega
  .exact ih (λy hy=>hb y (Rn _ hy)) x hx
def FU.bel(h:Pn a b)(f:FU b K):FU a K:=⟨h.ea f.ea,Nat.le_trans h.fat f.su⟩
def FU.Aa{pre:List Lf}{g:Lf}(h:Pn pre a)(hg:(bytes g.rs).length<=(bytes f.rs).length)(k:FU (a++f::b) K):FU (pre++[g]) K:=by
 refine⟨λx hx=>?_,?_⟩
 .rcases mem_append.1 hx with hx|hx
  .exact h.ea (λy hy=>k.ea y (mem_append_left _ hy)) x hx
  .rw[mem_singleton.1 hx];have:=k.ea f (by simp);omega
 .have hl:=h.len;have:=k.su;rw[iw,hl];rcases eq_nil_or_concat b with rfl|⟨b',x,rfl⟩
  .rw[iw] at this;omega
  .have e:a++f::(b'.concat x)=(a++f::b')++[x]:=by simp
   rw[e,iw] at this;simp only[Cb,Gb] at this;omega
theorem nZ(f:Lf):f.full.rs=f.rs:=rfl
def Dw(ok:Ge l){d:Nat}{h:Hp}{T:Int}(hd:RD l d h T):
  Ct prog 134 [d] [h] (λres H'=>∃w u h' ho,res= .tuple #[.pointer (some ⟨w,0,none⟩),u]/\H'=[ff w d (ua l) 0,h',ho]/\RD l d h' T/\ia 140 (we (Ta l)) u ho):=by
 obtain⟨qs,t,lr,ht,hd⟩:=hd;have hc:=Ik ok.good;have hu:=ok.used;have hd':pg ((qs++[]).map Ub.pl) t d h:=by rw[append_nil];exact hd
 refine Ct.mono (VJ (tail:=[]) lr.m ok.good (by rw[append_nil];exact lr.q ok.toKu) hd' (by omega) (.inl ⟨rfl,rfl,rfl,rfl,rfl⟩)) ?_;rintro r H' ⟨w,u,h',ho,e1,e2,e3,e4⟩;exact⟨w,u,h',ho,e1,e2,⟨qs,t,lr,ht,e3⟩,e4⟩
def XJ(h:∀f∈l,f.full=f):(dk l).loose=[]:=by
 unfold dk;rw[flatten_eq_nil_iff];intro z hz;obtain⟨x,hx,rfl⟩:=mem_map.1 hz;rw[<-h x hx];exact x.CH
def JN{f:Lf}(h:f.full=f):FR f (fq f.file):=by
 have hs:f.s7=(bytes f.rs).length:=by
  have:=congrArg Lf.k h;unfold Lf.s7;rw[show f.k=f.rs.length from this.symm,take_length]
 exact⟨rfl,rfl,rfl,by show f.s7+0=_;rw[hs];rfl⟩
def wu:∀{l:List Lf},(∀f∈l,f.full=f)->Pk FR l (l.map λf=>fq f.file)
 |[],_=> .nil
 |f::t,h=> .cons (JN (h f (zf ..))) (wu λx hx=>h x (Rn _ hx))
def jy(xs:List xd):Ve (xs.map fq)=[]:=by
 unfold Ve;rw[flatten_eq_nil_iff];intro z hz;obtain⟨x,hx,rfl⟩:=mem_map.1 hz;obtain⟨y,_,rfl⟩:=mem_map.1 hx;rfl
def kL(ok:Ge l)(q:Nat):∃l' Aa,Ge l'/\((∀f∈l',f.full=f)/\Dg l<=Xt l q/\Xt l q<=(Ta l).length/\Ta l'=(Ta l).take (Xt l q)/\((Av l<=q->Aa=0)/\∀K,FU l K->FU l' K)/\(ua l'<=ua l))/\
  (∀{d:Nat} {h:Hp},Od ⟨oe l q,[]⟩ d h->Ct prog 82 [d] [h] (λres H'=>∃w u h' ho,res= .tuple #[.pointer (some ⟨w,0,none⟩),u]/\H'=[qf w d (ua l') Aa,h',ho]/\Od (dk l') d h'/\ia 140 (we (Ta l')) u ho))/\
  (∀{d:Nat} {h:Hp} {t T:Int},0<=t->t<=T->pg (((oe l q).map fq).map Ub.pl) t d h->Ct prog 134 [d] [h] (λres H'=>∃w u h' ho,res= .tuple #[.pointer (some ⟨w,0,none⟩),u]/\H'=[ff w d (ua l') Aa,h',ho]/\RD l' d h' T/\ia 140 (we (Ta l')) u ho)):=by
 rcases DH l q ok.good ok.k ok.tail with⟨l',m,h1,h2,h3,h4,h5,hm⟩|⟨a,f,b,pre,j,t,m,h1,h2,h3,h4,h5,h6,h7,h8,h9,hm,hq⟩
 .have ux:=h2.ok ok;subst hm;refine⟨l',0,ux,⟨h2.full,h3,h4,h5,⟨λ_=>rfl,λK hK=>hK.bel h2⟩,by rw[h2.ua];exact Int.le_refl _⟩,λ{d h} hd=>?_,λ{d h t T} zL ht hd=>?_⟩
  .have e:(⟨oe l q,[]⟩:ze)=dk l':=by
    have:=XJ h2.full;unfold dk at this⊢;rw[h1];simp only[] at this;rw[this]
   rw[e] at hd;exact qz ux hd
  .rw[h1] at hd;have e:(l'.map Lf.file).map fq=l'.map λf=>fq f.file:=by rw[map_map];rfl
   rw[e] at hd;refine Dw ux ⟨_,t,⟨wu h2.full,?_,?_,zL⟩,ht,hd⟩
   .rw[<-e,jy];exact .nil
   .rw[<-e,jy];simp
 .subst hm;obtain⟨ox,Oj⟩:=FP ok h1 h2 h6;have hg:∀r∈f.rs.take j,r.code=0:=λr hr=>ok.good f (by rw[h1];simp) r (mem_of_mem_take hr);refine⟨pre++[⟨f.n,f.rs.take j,(f.rs.take j).length⟩],((t.length+((b.map (λg=>(⟨g.n,[],0⟩:xd))).map (·.b.length)).sum:Nat):Int),Oj,⟨λx hx=>?_,h7,h8,by rw[si,Gk];exact h9,⟨λh=>absurd h (by omega),λK hK=>by rw[h1] at hK;exact hK.Aa h2 (Jf f.rs j)⟩,?_⟩,λ{d h} hd=>?_,λ{d h tm T} zL ht hd=>?_⟩
  .rcases mem_append.1 hx with hx|hx
   .exact h2.full x hx
   .rw[mem_singleton.1 hx];rfl
  .rw[Kb];rcases eq_nil_or_concat b with rfl|⟨b',g,rfl⟩
   .rw[h1,Kb];exact Int.le_refl _
   .rw[h1,concat_eq_append,show a++f::(b'++[g])=(a++f::b')++[g] by simp,Kb];have Dn:=ok.up;rw[h1,pairwise_append,pairwise_cons] at Dn;exact Int.le_of_lt (Dn.2.1.1 g (by rw[concat_eq_append];simp))
  .have e:(⟨oe l q,[]⟩:ze)=Ln pre ⟨f.n,bytes (f.rs.take j)++t,(bytes (f.rs.take j)++t).length⟩ (b.map (λg=>⟨g.n,[],0⟩)):=by unfold Ln;rw[h3]
   rw[e] at hd;refine Ct.mono (GP ox rfl rfl hg h4 h5 hd) ?_;rintro r H' ⟨w,u,h',ho,e1,e2,e3,e4⟩;exact⟨w,u,h',ho,e1,by rw[Kb];exact e2,e3,by rw[si,Gk];exact e4⟩
  .rw[h3] at hd;have hpf:=ox.full
   have e:(pre.map Lf.file++(⟨f.n,bytes (f.rs.take j)++t,(bytes (f.rs.take j)++t).length⟩:xd)::b.map (λg=>⟨g.n,[],0⟩)).map fq=(pre.map λf=>fq f.file)++fq ⟨f.n,bytes (f.rs.take j)++t,(bytes (f.rs.take j)++t).length⟩::(b.map λg=>fq ⟨g.n,[],0⟩):=by
    rw[Ae,map_cons,map_map,map_map];rfl
   have zD:Ds ((pre.map λf=>fq f.file)++fq ⟨f.n,bytes (f.rs.take j)++t,(bytes (f.rs.take j)++t).length⟩::(b.map λg=>fq ⟨g.n,[],0⟩)):=by
    rw[<-e];refine⟨?_,?_,?_,?_⟩
    .rw[map_map];exact ox.up
    .intro y hy;rw[e] at hy;rcases mem_append.1 hy with hy|hy
     .obtain⟨g',hg',rfl⟩:=mem_map.1 hy;exact⟨(JN (hpf g' hg')).e,by show ∀x∈[],_;simp⟩
     .rcases mem_cons.1 hy with rfl|hy
      .exact⟨rfl,by show ∀x∈[],_;simp⟩
      .obtain⟨g',_,rfl⟩:=mem_map.1 hy;exact⟨rfl,by show ∀x∈[],_;simp⟩
    .rw[map_map];exact ox.used
    .rw[We];exact ox.len
   rw[e] at hd;have hc:=Ik (l:=pre) ox.good;have Dn:=ox.used;unfold ze.used Ln at Dn;simp only[Ae,sum_append] at Dn;rw[Qe] at hc;have hme:((pre.map Lf.file).map (λx=>x.b.length))=pre.map (λf=>(bytes f.rs).length):=by rw[map_map];rfl
   rw[hme] at Dn;refine Ct.mono (VJ (wu hpf) ox.good zD hd (by omega) (.inr ⟨_,_,f.rs.take j,t,rfl,rfl,rfl,hg,h4,h5,rfl,rfl,rfl,rfl⟩)) ?_;rintro r H' ⟨w,u,h',ho,e1,e2,e3,e4⟩;refine⟨w,u,h',ho,e1,?_,⟨_,tm,⟨(wu hpf).app (.cons ⟨rfl,?_,?_,?_⟩ .nil),?_,?_,zL⟩,ht,e3⟩,by rw[si,Gk];exact e4⟩
   .rw[Kb,e2];rw[map_map,map_map];rfl
   .show(bytes (f.rs.take j)++t).take (bytes (f.rs.take j)).length=_;rw[take_left]
   .show(bytes (f.rs.take j)).length=_;unfold Lf.s7;simp only[take_length]
   .show(bytes (f.rs.take j)).length+0=((bytes (f.rs.take j)++t).take (bytes (f.rs.take j)).length).length;rw[take_left];omega
   .rw[Qk,Bi,show(pre.map λf=>fq f.file)=(pre.map Lf.file).map fq from by rw[map_map];rfl,jy];exact .nil
   .rw[Qk,Bi,show(pre.map λf=>fq f.file)=(pre.map Lf.file).map fq from by rw[map_map];rfl,jy];intro x hx;cases hx
end Go.Proofs.YthebagfahkebiaaGreat
