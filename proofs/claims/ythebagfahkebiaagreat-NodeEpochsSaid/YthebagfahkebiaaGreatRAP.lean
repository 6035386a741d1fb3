/- Texts of one road. -/
import Derived.OpenShut
import Derived.Test.YthebagfahkebiaaGreatRAO
set_option linter.all false
set_option maxHeartbeats 8000000
set_option maxRecDepth 20000
namespace Go.Sl
open Go List
section
variable{H:Type}{enc:TypeId×Value->H}{P:Program}{w:World}{t e n k:Nat}{ag:Bool}{cs:List Value}{v:Value}
def Uf.string[ht:TU P t .string](h:Uf enc P w t cs):∃s:ByteArray,cs=[.string s]/\s.data.toList.length<=reachBytes:=by
 obtain⟨fuel,x,hx,hw⟩:=h;obtain⟨s,rfl,rfl,_⟩:=DataW.trod_string ht.h hx;refine⟨s,rfl,hw _ ?_⟩;simp[DataW.weights]
def BK{ds:List (DataW H)}(h:∀l∈DataW.weightsAll P e ds,l<=reachBytes):∀d∈ds,∀l∈d.weights P e,l<=reachBytes:=by
 induction ds with
 |nil=>intro d hd;cases hd
 |cons y r ih=>
  intro d hd l hl;simp only[DataW.weightsAll] at h;rcases mem_cons.1 hd with rfl|hd
  .exact h l (mem_append_left _ hl)
  .exact ih (λl hl=>h l (mem_append_right _ hl)) d hd l hl
def Uf.qZ[ht:TU P t (.array n e)][tl:TL P t k ag](h:Uf enc P w t cs):cs.length=k:=by
 obtain⟨fuel,x,hx,_⟩:=h;obtain⟨xs,m,_,_,hl,_⟩:=DataW.trod_array ht.h hx;rw[hl,tl.cellsOf]
def Uf.elem(i:Nat)[ht:TU P t (.array n e)][tl:TL P e k ag](h:Uf enc P w t cs)(hi:i<n):Uf enc P w e ((cs.drop (i*k)).take k):=by
 obtain⟨fuel,x,hx,hw⟩:=h;obtain⟨xs,m,_,rfl,hl,hlen,IU⟩:=DataW.trod_array ht.h hx;have h1:=IU i hi;have hi':i<xs.length:=by omega
 rw[Wg hi',tl.cellsOf] at h1;refine⟨m,xs[i],h1,?_⟩;simp only[DataW.weights,ht.h] at hw;exact BK hw _ (mem_map.2 ⟨_,getElem_mem hi',rfl⟩)
end
end Go.Sl
namespace Go.Proofs.YthebagfahkebiaaGreat
open Go Go.Sl Go.Proofs.Tryz List
variable{l:List Lf}{d:Nat}{h:Hp}
def Ts.Z8{a b:List Ub}(h:Ts (a++b)):Ts b where
 up:=by have:=h.up;rw[He,pairwise_append] at this;exact this.2.1
 ok:=λq hq=>h.ok q (mem_append_right _ hq)
 used:=by have:=h.used;rw[He,sum_append] at this;omega
 len:=by have:=h.len;rw[Eb] at this;omega
def OT(ok:Ie l){hx:Hp}{qs:List Ub}{t:Int}(lr:LR l qs t)(ht:t<=549755813888)(hd:vg (qs.map Ub.pl) t d h){u:Value}(hb:Rs Qc.fr u hx):
  Ct prog 217 [d,.int .i64 (va l+1),u] [h,hx] (λres H'=>∃(e:Int) (h':Hp),res= .int .i64 e/\H'=[h',hx]/\(e=0↔(dk l).Tg (va l+1) Qc.fr.length=0)/\(e≠0->h'=h)/\(e=0->vg ((qs++[(⟨va l+1,Qc.fr,0,Rq t Qc.fr.length⟩:Ub)]).map Ub.pl) (t+Qc.fr.length) d h')):=by
 have hle:=(Rec.good Yh).Jh;have JL:=lr.t0;have Wu:=lr.q ok.toXu;have Sn:=lr.used;have tg:=lr.m.len;have nr:=Lg ok;have Qe:=Bw ok (n:=va l+1) (by omega)
 have MT:∀x∈qs,x.n<va l+1:=by
  rcases eq_nil_or_concat l with rfl|⟨pre,f,rfl⟩
  .have:qs=[]:=length_eq_zero_iff.1 (by simpa using tg.symm);subst this;simp
  .rw[concat_eq_append] at lr ok tg⊢;obtain⟨qp,q,rfl,fr,hqp⟩:=Vs lr;rw[Nb];intro x hx;have Uk:=Wu.up;rw[He,pairwise_append] at Uk;have hfn:=fr.n;rcases mem_append.1 hx with hx|hx
   .have:=Uk.2.2 _ (mem_map.2 ⟨x,hx,rfl⟩) q.n (by simp);omega
   .rw[mem_singleton.1 hx];omega
 rw[Qk,Qe];simp only[Option.isNone_none,true_and];by_cases UP:1099511627776<va l+1
 .rw[if_pos (.inr UP)];refine Ct.mono (sx (qs:=qs) (t:=t) (h:=h) (hx:=hx) UP) ?_;rintro _ H' ⟨rfl,e⟩;exact⟨50,h,rfl,e,⟨λh=>absurd h (by decide),λh=>absurd h (by decide)⟩,λ_=>rfl,λh=>absurd h (by decide)⟩
 rw[if_neg (by omega)];by_cases Aw:64<=l.length\/1048576<(dk l).used+Qc.fr.length
 .rw[if_pos Aw];refine Ct.mono (Hu Wu hd MT (by omega) (by omega) hb (by omega) (by rw[Sn,<-tg];exact Aw)) ?_;rintro _ H' ⟨rfl,e⟩;exact⟨51,h,rfl,e,⟨λh=>absurd h (by decide),λh=>absurd h (by decide)⟩,λ_=>rfl,λh=>absurd h (by decide)⟩
 .rw[if_neg Aw];simp only[not_or,Nat.not_le,Nat.not_lt] at Aw;refine Ct.mono (tq Wu JL (by omega) hd MT (by omega) (by omega) (by omega) hb (by rw[Sn];omega)) ?_;rintro _ H' ⟨h',rfl,e,hd'⟩;exact⟨0,h',rfl,e,⟨λ_=>rfl,λ_=>rfl⟩,λh=>absurd rfl h,λ_=>hd'⟩
def FV(ok:Ie l){T:Int}(hd:RD l d h T)(hT:T<=274877906944){w:Nat}{Ba:Int}:
  Ct prog 137 [w] [uf w d (va l) Ba,h] (λres H'=>∃h',res= .int .i64 (Tj l).2/\H'=[uf w d (va (Tj l).1) Ba,h']/\RD (Tj l).1 d h' (T+243)):=by
 have PK:=NN Qc (by decide);rw[Yh] at PK;have hle:=(Rec.good Yh).Jh;have nr:=Lg ok;obtain⟨qs,t,lr,ht,hd⟩:=hd;have JL:=lr.t0;refine Tk func137 λg R=>?_;refine ck PK ?_;rintro _ _ ⟨u2,h2,rfl,rfl,Sa⟩;have hap:=OT ok lr (by omega) hd Sa.rs;refine rn ?_;refine iX (ml [10,1,1]) [uf w d (va l) Ba] ?_;try refine run ?_
 refine ck hap ?_;rintro _ _ ⟨e,y,rfl,rfl,hee,vk,w4⟩;simp only[can];unfold Tj;by_cases hE:(dk l).Tg (va l+1) Qc.fr.length=0
 .rw[if_neg (λhn=>hn hE)];have DW:=hee.2 hE;subst DW;have Bo:=w4 rfl;obtain⟨Ko,-⟩:=xA ok hE;have lrn:=LR.new lr (va l+1) Qc;have EW:=lrn.q Ko.toXu;have tg:=EW.len;rw[Eb,length_singleton] at tg;have L7:(qs++[(⟨va l+1,Qc.fr,0,Rq t Qc.fr.length⟩:Ub)])[qs.length]? =some ⟨va l+1,Qc.fr,0,Rq t Qc.fr.length⟩:=List.getElem?_concat_length;have Gt:=iK EW Bo L7;rw[mK] at Gt;try refine run ?_
  refine iX (ml [8]) [uf w d (va l+1) Ba] ?_;try refine run ?_
  refine ck Gt ?_;rintro _ _ ⟨y2,rfl,rfl,Jd⟩;have zC:=Qq Jd (by rw[bf,Eb,length_singleton];omega);generalize hx:Ub.syn ⟨va l+1,Qc.fr,0,Rq t Qc.fr.length⟩=x at*;have F6:x.n=va l+1:=by rw[<-hx];rfl
  have hnm:((qs++[x]).map Ub.pl).map (·.n)=qs.map (·.n)++[va l+1]:=by rw[map_map,He];show qs.map (·.n)++[x.n]=_;rw[F6]
  rw[hnm] at zC;have hnl:(qs.map (·.n)++[va l+1]).length=qs.length+1:=by simp
  have mZ:Ts (qs++[x]):=by
   have:=NT EW (qs.length+1)
   have e2:YN (qs++[(⟨va l+1,Qc.fr,0,Rq t Qc.fr.length⟩:Ub)]) (qs.length+1)=qs.map Ub.syn++[x]:=by
    unfold YN;rw[take_of_length_le (by simp),drop_eq_nil_of_le (by simp),append_nil,He,<-hx];rfl
   rw[e2] at this;refine⟨?_,λq hq=>?_,?_,?_⟩
   .have h3:=this.up;rw[He,map_map] at h3;rw[He];exact h3
   .rcases mem_append.1 hq with hq|hq
    .exact EW.ok q (mem_append_left _ hq)
    .exact this.ok q (mem_append_right _ hq)
   .have h3:=this.used;rw[He,map_map] at h3;rw[He];exact h3
   .have h3:=this.len;rw[Eb,bf] at h3;rw[Eb];exact h3
  refine rn ?_;refine ck zC ?_;rintro u3 _ ⟨hn,rfl,Cc⟩;have mX:=Cc.rs;refine rn ?_
  refine W.lo (α:=Nat×Hp) (λz=>z.1<=qs.length+1/\vg ((qs.drop z.1++[x]).map Ub.pl) (t+Qc.fr.length) d z.2) (λz=>[(0,w),(5,u3),(6,.int .i64 (z.1:Int))])
   (λz=>[uf w d (va l+1) Ba,z.2,hn,R]) (λz=>qs.length+1 - z.1) (0,y2) ⟨di _,Jd⟩ ?_
  rintro⟨i,z⟩ ⟨hi,Sp⟩;simp only[] at hi Sp⊢;by_cases hil:i<qs.length
  .obtain⟨q,hq⟩:=Lh hil;have MT:(qs.map (·.n)++[va l+1])[i]? =some q.n:=by rw[List.getElem?_append_left (by rw[bf];exact hil),List.getElem?_map,hq];rfl
   have DQ:qs.drop i=q::qs.drop (i+1):=by rw[drop_eq_getElem_cons hil,(List.getElem?_eq_some_iff.1 hq).2]
   have xaa:q.n<va l+1:=by
    have Uk:=mZ.up;rw[He,pairwise_append] at Uk;have:=Uk.2.2 q.n (mem_map.2 ⟨q,mem_of_getElem? hq,rfl⟩) x.n (by simp);omega
   have j9:Ts (qs.drop i++[x]):=by
    rw[<-take_append_drop i qs,Sc] at mZ;exact mZ.Z8
   have hrm:=tA j9 Sp (k:=0) (q:=q) (by rw[DQ];rfl);rw[show(qs.drop i++[x]).eraseIdx 0=qs.drop (i+1)++[x] by rw[DQ];rfl] at hrm;try refine run ?_
   refine wr ?_;refine iX (ml [8]) [uf w d (va l+1) Ba,hn] ?_;try refine run ?_
   refine ck hrm ?_;rintro _ _ ⟨z',rfl,rfl,PT⟩;refine rn ?_;exact D.rd (i+1,z') ⟨by simp only[];omega,PT⟩ (by simp only[];omega)
  .by_cases lX:i=qs.length
   .subst lX
    have MT:(qs.map (·.n)++[va l+1])[qs.length]? =some (va l+1):=by
     have:=List.getElem?_concat_length (l:=qs.map (·.n)) (a:=va l+1);rwa [bf] at this
    have PT:vg ((qs.drop (qs.length+1)++[x]).map Ub.pl) (t+Qc.fr.length) d z:=by
     rw[drop_eq_nil_of_le (by omega)];rw[drop_length] at Sp;exact Sp
    try refine run ?_
    refine wr ?_;exact D.rd (qs.length+1,z) ⟨by simp only[];omega,PT⟩ (by simp only[];omega)
   .obtain rfl:i=qs.length+1:=by omega
    rw[drop_eq_nil_of_le (by omega),nil_append] at Sp;try refine run ?_
    refine Xa [uf w d (va l+1) Ba,z] rfl rfl ⟨z,rfl,rfl,[x],t+Qc.fr.length,⟨.cons ⟨F6,?_,?_,?_⟩ .nil,?_,?_,by omega⟩,by omega,Sp⟩
    .rw[<-hx];show Qc.fr=_;rw[Tq]
    .rw[<-hx];show Qc.fr.length=_;unfold Lf.s7;rw[show[Qc].take 1=[Qc] from rfl,Tq]
    .rw[<-hx];show Qc.fr.length+0=Qc.fr.length;omega
    .rw[Fi,<-hx];exact .nil
    .rw[Fi,<-hx];intro a ha;cases ha
 .rw[if_pos hE];have DW: ¬e=0:=λh0=>hE (hee.1 h0);have:=vk DW;subst this;try refine run ?_
  exact Xa [uf w d (va l) Ba,y] rfl rfl ⟨y,rfl,rfl,qs,t,lr,by omega,hd⟩
def yA(y:Int)(t:List Int)(m:Int):cnt (y::t) m=(if y<=m then 1 else 0)+cnt t m:=by
 unfold cnt;by_cases h:y<=m
 .rw[if_pos h,filter_cons_of_pos (by simpa using h),Ib];omega
 .rw[if_neg h,filter_cons_of_neg (by simpa using h)];omega
def FW(a b:List Int)(m:Int):cnt (a++b) m=cnt a m+cnt b m:=by unfold cnt;rw[filter_append,Eb]
def QT{m:Int}:∀{l:List Int},l.Pairwise (· < ·)->(l.takeWhile λx=>decide (x<=m)).length=cnt l m
 |[],_=>rfl
 |y::t,h=>by
  rw[pairwise_cons] at h;rw[yA];by_cases hy:y<=m
  .rw[if_pos hy,takeWhile_cons_of_pos (by simpa using hy),Ib,QT h.2];omega
  .rw[if_neg hy,takeWhile_cons_of_neg (by simpa using hy),Iu (λx hx=>by have:=h.1 x hx;omega)];rfl
def nK{m:Int}:∀{l:List Int},l.Pairwise (· < ·)->cnt l (m+1)<=cnt l m+1
 |[],_=>by simp[cnt]
 |y::t,h=>by
  rw[pairwise_cons] at h;rw[yA,yA];have ih:=nK (m:=m) h.2;by_cases h1:y<=m
  .rw[if_pos h1,if_pos (by omega)];omega
  .rw[if_neg h1];have h2:cnt t (m+1)=0:=Iu (λx hx=>by have:=h.1 x hx;omega);split<;>omega
def jS{qs:List Ub}{t:Int}{k:Nat}{last:Int}(h:uA qs t k last)(hi:(Ye qs).Pairwise (· < ·))(hp:∀x∈Ye qs,0<x/\x<=t):cnt (Ye qs) last=min k (Ye qs).length:=by
 obtain⟨h0,h1,h2⟩:=h;rcases Nat.lt_or_ge k (Ye qs).length with hk|hk
 .obtain⟨h3,h4⟩:=h2 hk;have h5:=nK (m:=last) hi;omega
 .rw[h1 hk,FH (λx hx=>(hp x hx).2)];omega
def fq(f:yd):Ub:=⟨f.n,f.b,f.s,[]⟩
def Sz{last:Int}:∀{l:List Lf} {qs:List Ub} {k:Nat},Nk FR l qs->(Ye qs).Pairwise (· < ·)->cnt (Ye qs) last=min k (Ye qs).length->(qs.map λq=>q.Dc last)=(qe l k).map fq:=by
 intro l qs k h
 induction h generalizing k with
 |nil=>intro _ _;rfl
 | @cons f q l qs hf _ ih=>
  intro hi hc;have e:Ye (q::qs)=q.ts++Ye qs:=rfl;rw[e] at hi hc;rw[pairwise_append] at hi;rw[FW,Eb] at hc;have X6:=QT (m:=last) hi.1;have hle:=sM q.ts last;have hle2:=sM (Ye qs) last
  have hz:cnt q.ts last<q.ts.length->cnt (Ye qs) last=0:=λhlt=>by
   refine Iu λx hx=>?_
   have hx0:∃y∈q.ts,last<y:=by
    refine Classical.byContradiction λhn=>?_;have:∀y∈q.ts,y<=last:=λy hy=>Classical.byContradiction λh2=>hn ⟨y,hy,by omega⟩;rw[FH this] at hlt;omega
   obtain⟨y,hy,PV⟩:=hx0;have:=hi.2.2 y hy x hx;omega
  have hA:cnt q.ts last=min k q.ts.length:=by
   by_cases hlt:cnt q.ts last<q.ts.length
   .have:=hz hlt;omega
   .omega
  have hB:cnt (Ye qs) last=min (k - min k q.ts.length) (Ye qs).length:=by
   by_cases hlt:cnt q.ts last<q.ts.length
   .have:=hz hlt;omega
   .omega
  have TX:=hf.e
  have hL:(bytes (f.rs.drop f.k)).length=q.ts.length:=by
   have h1:=congrArg List.length (Kd f.rs f.k);rw[Eb] at h1;have h2:=hf.s;rw[hf.b] at TX;unfold Lf.s7 at h2;omega
  rw[map_cons];unfold qe;rw[map_cons,hL,ih hi.2.1 hB];congr 1;unfold Ub.Dc Ub.cut Ub.kp Ub.tw fq;rw[X6,hA,hf.n,hf.b,hf.s];rfl
variable{qp post:List Ub}{x y:Ub}
def x4:(qp++x::post).set qp.length y=qp++y::post:=by rw[set_append_right _ _ (Nat.le_refl _),Nat.sub_self];rfl
def y4:(qp++x::y::post).eraseIdx (qp.length+1)=qp++x::post:=by
 rw[eraseIdx_append_of_length_le (by omega)];rw[show qp.length+1 - qp.length=1 by omega];rfl
def Ts.l9(h:Ts (qp++x::post)){m:Nat}(hm:m<=x.b.length):Ts (qp++x.cut m::post) where
 up:=by have:=h.up;simp only[He,map_cons] at this⊢;exact this
 ok:=λq hq=>by
  rcases mem_append.1 hq with hq|hq
  .exact h.ok q (by simp[hq])
  .rcases mem_cons.1 hq with rfl|hq
   .exact⟨by show m+0=(x.b.take m).length;rw[Oe];omega,by show ∀y∈[],_;simp⟩
   .exact h.ok q (by simp[hq])
 used:=by
  have:=h.used;simp only[He,map_cons,sum_append,sum_cons] at this⊢;have e:(x.cut m).b.length<=x.b.length:=by show(x.b.take m).length<=_;rw[Oe];omega
  omega
 len:=by have:=h.len;simp only[Eb,Ib] at this⊢;exact this
def Ts.m9(h:Ts (qp++x::y::post)):Ts (qp++x::post) where
 up:=by
  have:=h.up;simp only[He,map_cons,pairwise_append,pairwise_cons,mem_cons] at this⊢;refine⟨this.1,⟨λa ha=>this.2.1.1 a (.inr ha),this.2.1.2.2⟩,λa ha b hb=>this.2.2 a ha b ?_⟩;rcases hb with hb|hb
  .exact .inl hb
  .exact .inr (.inr hb)
 ok:=λq hq=>h.ok q (by
  rcases mem_append.1 hq with hq|hq
  .simp[hq]
  .rcases mem_cons.1 hq with rfl|hq<;>simp_all)
 used:=by have:=h.used;simp only[He,map_cons,sum_append,sum_cons] at this⊢;omega
 len:=by have:=h.len;simp only[Eb,Ib] at this⊢;omega
def oK{pre:List Lf}{tail:List Ub}(hm:Nk FR pre qp)(hgd:∀f∈pre,∀r∈f.rs,r.code=0)(Wu:Ts (qp++tail)){t:Int}{d:Nat}{h:Hp}(hd:vg ((qp++tail).map Ub.pl) t d h)
  {seg Ba:Int}{A4:List Ub}{out:List Rec}(nZ:6*(Ua pre).length<=1048576)
  (hend:(tail=[]/\seg=va pre/\Ba=0/\A4=qp/\out=ye (Ua pre))\/
   ∃x post rs tt,tail=x::post/\x.b=bytes rs++tt/\x.ts=[]/\(∀r∈rs,r.code=0)/\zA tt/\tt≠[]/\seg=x.n/\Ba=((tt.length+(post.map (λq=>q.b.length)).sum:Nat):Int)/\A4=qp++[x.cut (bytes rs).length]/\out=ye (Ua pre++rs)):
  Ct prog 134 [d] [h] (λres H'=>∃w u h' ho,res= .tuple #[.pointer (some ⟨w,0,none⟩),u]/\H'=[uf w d seg Ba,h',ho]/\vg (A4.map Ub.pl) t d h'/\ia 140 out u ho):=by
 have tg:=Wu.len;have hml:=hm.len;have zC:=Qq hd (by rw[bf];omega);have hnm:((qp++tail).map Ub.pl).map (·.n)=(qp++tail).map (·.n):=by rw[map_map];rfl
 rw[hnm] at zC;have hnl:((qp++tail).map (·.n)).length=pre.length+tail.length:=by rw[bf,Eb];omega
 rw[Eb] at tg;refine ce func134 λg R=>?_;repeat' first|refine rn ?_|refine Uc λ_=>?_
 rename_i w;refine ck zC ?_;rintro fu _ ⟨hn,rfl,hs⟩;have hr:=hs.rs;refine rn ?_;refine W.Pe ?_
 refine W.lo (α:=Bool×Nat×Value×Hp×Hp×Int×Int)
  (λz=>(z.1=false/\z.2.1<=pre.length/\ia 140 (ye (Ua (pre.take z.2.1))) z.2.2.1 z.2.2.2.1/\vg ((qp++tail).map Ub.pl) t d z.2.2.2.2.1/\z.2.2.2.2.2.1=va (pre.take z.2.1)/\z.2.2.2.2.2.2=0)\/
   (z.1=true/\∃x post m tl j,(tail=x::post/\m<=x.b.length/\seg=x.n/\Ba=((tl+(post.map (λq=>q.b.length)).sum:Nat):Int)/\A4=qp++[x.cut m])/\z.2.1=pre.length+1+j/\j<=post.length/\ia 140 out z.2.2.1 z.2.2.2.1/\vg ((qp++x.cut m::post.drop j).map Ub.pl) t d z.2.2.2.2.1/\Ts (qp++x.cut m::post.drop j)/\z.2.2.2.2.2.1=x.n/\z.2.2.2.2.2.2=((tl+((post.take j).map (λq=>q.b.length)).sum:Nat):Int)/\tl<=1048576))
  (λz=>[(0,d),(4,.pointer (some ⟨w,0,none⟩)),(5,z.2.2.1),(6,fu),(7,.bool z.1),(8,.int .i64 (z.2.1:Int))])
  (λz=>[z.2.2.2.1,uf w d z.2.2.2.2.2.1 z.2.2.2.2.2.2,z.2.2.2.2.1,hn,R]) (λz=>pre.length+tail.length+1 - z.2.1) (false,0,.slice none 0 0,[],h,0,0) (.inl ⟨rfl,di _,ia.nil _,hd,rfl,rfl⟩) ?_
 rintro⟨bad,i,o,ho,y,sg,tn⟩ hP;simp only[] at hP⊢;rcases hP with⟨rfl,hi,Tn,Ip,rfl,rfl⟩|⟨rfl,x,post,m,tl,j,⟨rfl,w6,rfl,rfl,rfl⟩,rfl,hj,Tn,Ip,RT,rfl,rfl,htl⟩
 .by_cases hC:i=pre.length/\tail=[]
  .obtain⟨rfl,rfl⟩:=hC;simp only[td] at hnl;rcases hend with⟨-,rfl,rfl,rfl,rfl⟩|⟨x,post,rs,tt,e,-⟩
   .rw[append_nil] at Ip;rw[take_length] at Tn⊢;try refine run ?_
    exact D.Vb [uf w d (va pre) 0,y,ho] _ rfl rfl rfl ⟨w,o,y,ho,rfl,rfl,Ip,Tn⟩
   .cases e
  .obtain⟨q,rs,tt,hqi,B4,ou,TT⟩:∃q rs tt,(qp++tail)[i]? =some q/\q.b=bytes rs++tt/\(∀r∈rs,r.code=0)/\
     ((tt=[]/\∃f,pre[i]? =some f/\f.n=q.n/\f.rs=rs)\/(i=pre.length/\∃post,tail=q::post/\q.ts=[]/\zA tt/\tt≠[]/\seg=q.n/\Ba=((tt.length+(post.map (λq=>q.b.length)).sum:Nat):Int)/\A4=qp++[q.cut (bytes rs).length]/\out=ye (Ua pre++rs))):=by
    by_cases hlt:i<pre.length
    .obtain⟨f,hf⟩:=Lh hlt;obtain⟨q,hq⟩:∃q,qp[i]? =some q:=⟨_,Wg (by omega)⟩;have hfr:=hm.get hf hq;exact⟨q,f.rs,[],by rw[List.getElem?_append_left (by omega)];exact hq,by rw[append_nil];exact hfr.b,hgd f (mem_of_getElem? hf),.inl ⟨rfl,f,hf,hfr.n.symm,rfl⟩⟩
    .obtain rfl:i=pre.length:=by omega
     rcases hend with⟨e,-⟩|⟨x,post,rs,tt,e1,e2,e3,e4,e5,e6,e7,e8,e9,JQ⟩
     .exact absurd ⟨rfl,e⟩ hC
     .exact⟨x,rs,tt,by rw[e1,hml,List.getElem?_append_right (Nat.le_refl _),Nat.sub_self];rfl,e2,e4,.inr ⟨rfl,post,e1,e3,e5,e6,e7,e8,e9,JQ⟩⟩
   have RU:=mem_of_getElem? hqi;have rM:=Wu.bl RU;rw[B4,Eb] at rM
   have hrl:6*rs.length<=1048576:=by
    have:=Im ou;omega
   have Hx:(Ua (pre.take i)).length<=(Ua pre).length:=by
    have:=congrArg (λl=>(Ua l).length) (take_append_drop i pre);simp only[Ci,Eb] at this;omega
   have H6:((qp++tail).map (·.n))[i]? =some q.n:=by rw[List.getElem?_map,hqi];rfl
   have hrc:=gK Ip Wu.qx (by rw[bf,Eb];omega) (rq hqi);have hil:i<pre.length+tail.length:=by rw[<-hnl];exact(List.getElem?_eq_some_iff.1 H6).1
   try refine run ?_
   refine ck hrc ?_;rintro _ _ ⟨ub,rfl,rfl,hrb⟩;have hrb:Rs (bytes rs++tt) ub y:=by rw[<-B4];exact hrb
   obtain⟨bp,bc,rfl⟩:=hrb.len;have hbc:(bytes rs++tt).length<=bc:=by obtain⟨a,cc,e,le,_⟩:=id hrb;cases e;exact le
   have Ah:(bytes rs++tt).length=(bytes rs).length+tt.length:=Eb;refine rn ?_
   refine W.lo (α:=Nat×Value×Hp) (λz=>z.1<=rs.length/\ia 140 (ye (Ua (pre.take i)++rs.take z.1)) z.2.1 z.2.2)
    (λz=>[(0,d),(4,.pointer (some ⟨w,0,none⟩)),(5,z.2.1),(6,fu),(7,.bool false),(8,.int .i64 (i:Int)),(9,.slice bp (bytes rs++tt).length bc),(11,.int .i64 ((bytes (rs.take z.1)).length:Int))])
    (λz=>[y,z.2.2,uf w d q.n 0,hn,R]) (λz=>rs.length+1 - z.1) (0,o,ho) ⟨di _,by simpa using Tn⟩ ?_
   rintro⟨j,o1,UL⟩ ⟨hj,Ws⟩;simp only[] at hj Ws⊢;have n9:=Pf rs j;by_cases hlt:j<rs.length
   .obtain⟨r,oZ⟩:=Lh hlt;have pK:=ou r (mem_of_getElem? oZ);have AA:=Rec.good pK;have hle:=AA.Jh;have Fh:rs.take (j+1)=rs.take j++[r]:=by rw[take_succ_eq_append_getElem hlt,(List.getElem?_eq_some_iff.1 oZ).2]
    have hdj:rs.drop j=r::rs.drop (j+1):=by rw[drop_eq_getElem_cons hlt,(List.getElem?_eq_some_iff.1 oZ).2]
    have Cj:(bytes (rs.take (j+1))).length=(bytes (rs.take j)).length+r.fr.length:=by rw[Fh,mj,Eb];simp[bytes]
    have hxs:(bytes rs++tt).drop (bytes (rs.take j)).length=r.fr++(bytes (rs.drop (j+1))++tt):=by
     rw[<-Kd rs j,Sc,drop_left,hdj,ve,Sc]
    have zy:(bytes rs++tt).length=(bytes (rs.take j)).length+(r.fr.length+(bytes (rs.drop (j+1))++tt).length):=by
     have:=congrArg List.length hxs;simp only[length_drop,Eb] at this⊢;omega
    have Jo:=hrb.cut (m:=1) (lo:=(bytes (rs.take j)).length) (hi:=(bytes rs++tt).length) (mx:=bc) rfl (by omega) (Nat.le_refl _) hbc;rw[take_of_length_le (by rw[length_drop];omega)] at Jo;have BA:=zT AA hxs Jo (by rw[length_drop];omega);have N0:=Oz (Ua (pre.take i)++rs.take j);rw[Eb,Oe] at N0;try refine run ?_
    refine WX.vi (lo:=(bytes (rs.take j)).length) rfl rfl (by omega) hbc rfl ?_;refine cq BA ?_;repeat' first|refine mv ?_|refine ex ?_
    refine WX.alloc rfl (λba=>?_);refine WX.h0 [[(ba,.cells Rec.z.enc.toArray 140 (0,0))],y,UL,uf w d q.n 0,hn,R] ?_;refine WX.qd (vs:=r.enc) (b:=ba) (i:=0) (cs:=Rec.z.enc) rfl rfl rfl rfl rfl rfl ?_;rw[Vh (show Rec.z.enc.length=r.enc.length from rfl)];by_cases pW:r.k=3
    .repeat' first|refine bn ba 0 r.enc r.enc ?_|refine wm ?_|fail
     refine Up [r] (λv1 h1 hs1=>?_);refine Jt (zb:=by simp only[Ib,td,Eb] at N0⊢;omega) Ws hs1.rs (λv2 h2 Sa=>?_);repeat' first|refine WX.load (v:= .int .i64 r.k) (b:=ba) (i:=0) (cs:=r.enc) rfl rfl rfl ?_|refine wm ?_|fail
     refine D.as 11 (.int .i64 ((bytes (rs.take (j+1))).length:Int)) rfl (by rw[Cj];rfl) ?_;refine D.Pe ?_;exact D.rd (j+1,.slice none 0 0,[]) ⟨by simp only[];omega,by simp only[];rw[Fh,<-Sc,gj,if_pos pW];exact ia.nil _⟩ (by simp only[];omega)
    .repeat' first|refine bn ba 0 r.enc r.enc ?_|refine wm ?_|fail
     refine Up [r] (λv1 h1 hs1=>?_);refine Jt (zb:=by simp only[Ib,td,Eb] at N0⊢;omega) Ws hs1.rs (λv2 h2 Sa=>?_);repeat' first|refine WX.load (v:= .int .i64 r.k) (b:=ba) (i:=0) (cs:=r.enc) rfl rfl rfl ?_|refine wm ?_|fail
     refine D.as 11 (.int .i64 ((bytes (rs.take (j+1))).length:Int)) rfl (by rw[Cj];rfl) ?_;exact D.rd (j+1,v2,h2) ⟨by simp only[];omega,by simp only[];rw[Fh,<-Sc,gj,if_neg pW];exact Sa⟩ (by simp only[];omega)
   .obtain rfl:j=rs.length:=by omega
    rw[take_length] at Ws n9⊢;rcases TT with⟨rfl,f,hf,hfn,rfl⟩|⟨rfl,post,rfl,hts,hsh,htn,rfl,rfl,rfl,rfl⟩
    .simp only[td,Nat.add_zero] at Ah;have hip:=(List.getElem?_eq_some_iff.1 hf).1;try refine run ?_
     rw[<-jG hf] at Ws;rw[<-hfn,<-CA hf];exact D.rd (false,i+1,o1,UL,y,va (pre.take (i+1)),0) (.inl ⟨rfl,by simp only[];omega,Ws,Ip,rfl,rfl⟩) (by simp only[];omega)
    .obtain⟨r,k,pK,hk,rfl⟩:=hsh;have AA:=Rec.good pK;have hle:=AA.Jh;have htl:0<(r.fr.take k).length:=length_pos_iff.2 htn;have Zt:(r.fr.take k).length=k:=by rw[Oe];omega
     have Jo:=hrb.cut (m:=1) (lo:=(bytes rs).length) (hi:=(bytes rs++r.fr.take k).length) (mx:=bc) rfl (by omega) (Nat.le_refl _) hbc;rw[take_of_length_le (by rw[length_drop];omega),drop_left] at Jo;have BA:=ZJ AA hk (by omega) rfl Jo;rw[take_length] at Ws;have htr:=OP Wu Ip hqi hts (m:=(bytes rs).length) (by rw[B4,Eb];omega);rw[hml,x4] at htr;try refine run ?_
     refine WX.vi (lo:=(bytes rs).length) rfl rfl (by omega) hbc rfl ?_;refine cq BA ?_;repeat' first|refine mv ?_|refine ex ?_
     refine WX.alloc rfl (λba=>?_);refine WX.h0 [[(ba,.cells Rec.z.enc.toArray 140 (0,0))],y,UL,uf w d q.n 0,hn,R] ?_;refine WX.qd (vs:=Rec.z.enc) (b:=ba) (i:=0) (cs:=Rec.z.enc) rfl rfl rfl rfl rfl rfl ?_;rw[Vh rfl];try refine run ?_
     refine ck htr ?_;rintro _ _ ⟨y0,rfl,rfl,Gl⟩
     have e0:(0+((bytes rs++r.fr.take k).length:Int) - ((bytes rs).length:Int))=(((r.fr.take k).length+((post.take 0).map (λq=>q.b.length)).sum:Nat):Int):=by
      simp only[Eb,take_zero,map_nil,sum_nil];omega
     rw[e0];refine rn ?_
     exact D.round (true,pre.length+1+0,o1,UL,y0,q.n,(((r.fr.take k).length+((post.take 0).map (λq=>q.b.length)).sum:Nat):Int))
      (.inr ⟨rfl,q,post,(bytes rs).length,(r.fr.take k).length,0,⟨rfl,by rw[B4,Eb];omega,rfl,rfl,rfl⟩,rfl,di _,Ws,Gl,Wu.l9 (by rw[B4,Eb];omega),rfl,rfl,by omega⟩) (by simp only[Ib];omega) (by repeat(first|exact Aa.nil|refine Aa.cons rfl ?_)) (Ia.qa inferInstance)
 .have I6:(x::post).length=post.length+1:=rfl;rw[I6] at hnl;by_cases hjl:j<post.length
  .obtain⟨q,hq⟩:=Lh hjl;have DQ:post.drop j=q::post.drop (j+1):=by rw[drop_eq_getElem_cons hjl,(List.getElem?_eq_some_iff.1 hq).2]
   have Fh:((post.take (j+1)).map (λq=>q.b.length)).sum=((post.take j).map (λq=>q.b.length)).sum+q.b.length:=by
    rw[take_succ_eq_append_getElem hjl,(List.getElem?_eq_some_iff.1 hq).2];simp
   have hle2:=uq (λq:Ub=>q.b.length) post (j+1);have Sn:=Wu.used;rw[He,map_cons,sum_append,sum_cons] at Sn
   have H6:((qp++x::post).map (·.n))[pre.length+1+j]? =some q.n:=by
    rw[List.getElem?_map,hml,List.getElem?_append_right (by omega),show qp.length+1+j - qp.length=j+1 by omega,List.getElem?_cons_succ,hq];rfl
   rw[DQ] at Ip RT
   have hqi:(qp++x.cut m::q::post.drop (j+1))[qp.length+1]? =some q:=by
    rw[List.getElem?_append_right (by omega),show qp.length+1 - qp.length=1 by omega];rfl
   have hql:=RT.len;have hrc:=gK Ip RT.qx (by rw[bf];omega) (rq hqi);have hrm:=tA RT Ip hqi;rw[y4] at hrm;try refine run ?_
   refine ck hrc ?_;rintro _ _ ⟨ub,rfl,rfl,hrb⟩;have hrb:Rs q.b ub y:=hrb;obtain⟨bp,bc,rfl⟩:=hrb.len;refine rn ?_;refine ck hrm ?_;rintro _ _ ⟨y2,rfl,rfl,Jd⟩;have e1:(((tl+((post.take j).map (λq=>q.b.length)).sum:Nat):Int)+(q.b.length:Int))=((tl+((post.take (j+1)).map (λq=>q.b.length)).sum:Nat):Int):=by rw[Fh];omega
   rw[e1];refine rn ?_
   exact D.round (true,pre.length+1+(j+1),o,ho,y2,x.n,((tl+((post.take (j+1)).map (λq=>q.b.length)).sum:Nat):Int))
    (.inr ⟨rfl,x,post,m,tl,j+1,⟨rfl,w6,rfl,rfl,rfl⟩,rfl,by omega,Tn,Jd,RT.m9,rfl,rfl,htl⟩) (by simp only[Ib];omega) (by repeat(first|exact Aa.nil|refine Aa.cons rfl ?_)) (Ia.qa inferInstance)
  .obtain rfl:j=post.length:=by omega
   rw[drop_length] at Ip;rw[take_length];try refine run ?_
   exact D.Vb [uf w d x.n ((tl+(post.map (λq=>q.b.length)).sum:Nat):Int),y,ho] _ rfl rfl rfl ⟨w,o,y,ho,rfl,rfl,Ip,Tn⟩
variable{f:Lf}{a b:List Lf}{K:Nat}
def rK:List Lf->Nat
 |[]=>0
 |[f]=>min 4096 (bytes f.rs).length
 |_::g::t=>4096+rK (g::t)
structure MU(l:List Lf)(K:Nat):Prop where
 ea:∀f∈l,(bytes f.rs).length<=4400
 su:rK l<=250*K
def Cw{l:List Lf}(h:l≠[]):rK (f::l)=4096+rK l:=by
 cases l with
 |nil=>exact absurd rfl h
 |cons g t=>rfl
def Dw(l:List Lf)(f:Lf):rK (l++[f])=4096*l.length+min 4096 (bytes f.rs).length:=by
 induction l with
 |nil=>simp[rK]
 |cons g t ih=>rw[cons_append,Cw (by simp),ih,Ib];omega
def Un.fat(h:Un a b):rK a<=rK b:=by
 induction h with
 |nil=>exact Nat.le_refl _
 | @cons a b f m h ih=>
  have hl:=h.len
  cases b with
  |nil=>
   have:a=[]:=length_eq_zero_iff.1 hl;subst this;have:=Pf f.rs m;show min 4096 (bytes (f.rs.take m)).length<=min 4096 (bytes f.rs).length
   omega
  |cons g t=>
   rw[Cw (by intro e;rw[e] at hl;simp at hl),Cw (by simp)];omega
def Un.ea(h:Un a b){n:Nat}(hb:∀f∈b,(bytes f.rs).length<=n):∀f∈a,(bytes f.rs).length<=n:=by
 induction h with
 |nil=>exact hb
 | @cons a b f m h ih=>
  intro x hx;rcases mem_cons.1 hx with rfl|hx
  .have:=Pf f.rs m;have:=hb f (qf ..);show(bytes (f.rs.take m)).length<=n;omega
  .exact ih (λy hy=>hb y (Vn _ hy)) x hx
def MU.bel(h:Un a b)(f:MU b K):MU a K:=⟨h.ea f.ea,Nat.le_trans h.fat f.su⟩
def MU.Ba{pre:List Lf}{g:Lf}(h:Un pre a)(hg:(bytes g.rs).length<=(bytes f.rs).length)(k:MU (a++f::b) K):MU (pre++[g]) K:=by
 refine⟨λx hx=>?_,?_⟩
 .rcases mem_append.1 hx with hx|hx
  .exact h.ea (λy hy=>k.ea y (mem_append_left _ hy)) x hx
  .rw[mem_singleton.1 hx];have:=k.ea f (by simp);omega
 .have hl:=h.len;have:=k.su;rw[Dw,hl];rcases eq_nil_or_concat b with rfl|⟨b',x,rfl⟩
  .rw[Dw] at this;omega
  .have e:a++f::(b'.concat x)=(a++f::b')++[x]:=by simp
   rw[e,Dw] at this;simp only[Eb,Ib] at this;omega
theorem pZ(f:Lf):f.full.rs=f.rs:=rfl
def Sw(ok:Ie l){d:Nat}{h:Hp}{T:Int}(hd:RD l d h T):
  Ct prog 134 [d] [h] (λres H'=>∃w u h' ho,res= .tuple #[.pointer (some ⟨w,0,none⟩),u]/\H'=[uf w d (va l) 0,h',ho]/\RD l d h' T/\ia 140 (ye (Ua l)) u ho):=by
 obtain⟨qs,t,lr,ht,hd⟩:=hd;have hc:=Jk ok.good;have hu:=ok.used;have hd':vg ((qs++[]).map Ub.pl) t d h:=by rw[append_nil];exact hd
 refine Ct.mono (oK (tail:=[]) lr.m ok.good (by rw[append_nil];exact lr.q ok.toXu) hd' (by omega) (.inl ⟨rfl,rfl,rfl,rfl,rfl⟩)) ?_;rintro r H' ⟨w,u,h',ho,e1,e2,e3,e4⟩;exact⟨w,u,h',ho,e1,e2,⟨qs,t,lr,ht,e3⟩,e4⟩
def qK(h:∀f∈l,f.full=f):(dk l).loose=[]:=by
 unfold dk;rw[flatten_eq_nil_iff];intro z hz;obtain⟨x,hx,rfl⟩:=mem_map.1 hz;rw[<-h x hx];exact x.KH
def ZN{f:Lf}(h:f.full=f):FR f (fq f.file):=by
 have hs:f.s7=(bytes f.rs).length:=by
  have:=congrArg Lf.k h;unfold Lf.s7;rw[show f.k=f.rs.length from this.symm,take_length]
 exact⟨rfl,rfl,rfl,by show f.s7+0=_;rw[hs];rfl⟩
def Ku:∀{l:List Lf},(∀f∈l,f.full=f)->Nk FR l (l.map λf=>fq f.file)
 |[],_=> .nil
 |f::t,h=> .cons (ZN (h f (qf ..))) (Ku λx hx=>h x (Vn _ hx))
def Fy(xs:List yd):Ye (xs.map fq)=[]:=by
 unfold Ye;rw[flatten_eq_nil_iff];intro z hz;obtain⟨x,hx,rfl⟩:=mem_map.1 hz;obtain⟨y,_,rfl⟩:=mem_map.1 hx;rfl
def yL(ok:Ie l)(q:Nat):∃l' Ba,Ie l'/\((∀f∈l',f.full=f)/\Kg l<=qu l q/\qu l q<=(Ua l).length/\Ua l'=(Ua l).take (qu l q)/\((Mv l<=q->Ba=0)/\∀K,MU l K->MU l' K)/\(va l'<=va l))/\
  (∀{d:Nat} {h:Hp},Od ⟨qe l q,[]⟩ d h->Ct prog 82 [d] [h] (λres H'=>∃w u h' ho,res= .tuple #[.pointer (some ⟨w,0,none⟩),u]/\H'=[zf w d (va l') Ba,h',ho]/\Od (dk l') d h'/\ia 140 (ye (Ua l')) u ho))/\
  (∀{d:Nat} {h:Hp} {t T:Int},0<=t->t<=T->vg (((qe l q).map fq).map Ub.pl) t d h->Ct prog 134 [d] [h] (λres H'=>∃w u h' ho,res= .tuple #[.pointer (some ⟨w,0,none⟩),u]/\H'=[uf w d (va l') Ba,h',ho]/\RD l' d h' T/\ia 140 (ye (Ua l')) u ho)):=by
 rcases LH l q ok.good ok.k ok.tail with⟨l',m,h1,h2,h3,h4,h5,hm⟩|⟨a,f,b,pre,j,t,m,h1,h2,h3,h4,h5,h6,h7,h8,h9,hm,hq⟩
 .have Vu:=h2.ok ok;subst hm;refine⟨l',0,Vu,⟨h2.full,h3,h4,h5,⟨λ_=>rfl,λK hK=>hK.bel h2⟩,by rw[h2.va];exact Int.le_refl _⟩,λ{d h} hd=>?_,λ{d h t T} JL ht hd=>?_⟩
  .have e:(⟨qe l q,[]⟩:Be)=dk l':=by
    have:=qK h2.full;unfold dk at this⊢;rw[h1];simp only[] at this;rw[this]
   rw[e] at hd;exact Jz Vu hd
  .rw[h1] at hd;have e:(l'.map Lf.file).map fq=l'.map λf=>fq f.file:=by rw[map_map];rfl
   rw[e] at hd;refine Sw Vu ⟨_,t,⟨Ku h2.full,?_,?_,JL⟩,ht,hd⟩
   .rw[<-e,Fy];exact .nil
   .rw[<-e,Fy];simp
 .subst hm;obtain⟨ox,Io⟩:=VP ok h1 h2 h6;have hg:∀r∈f.rs.take j,r.code=0:=λr hr=>ok.good f (by rw[h1];simp) r (mem_of_mem_take hr);refine⟨pre++[⟨f.n,f.rs.take j,(f.rs.take j).length⟩],((t.length+((b.map (λg=>(⟨g.n,[],0⟩:yd))).map (·.b.length)).sum:Nat):Int),Io,⟨λx hx=>?_,h7,h8,by rw[Ci,Ik];exact h9,⟨λh=>absurd h (by omega),λK hK=>by rw[h1] at hK;exact hK.Ba h2 (Pf f.rs j)⟩,?_⟩,λ{d h} hd=>?_,λ{d h tm T} JL ht hd=>?_⟩
  .rcases mem_append.1 hx with hx|hx
   .exact h2.full x hx
   .rw[mem_singleton.1 hx];rfl
  .rw[Nb];rcases eq_nil_or_concat b with rfl|⟨b',g,rfl⟩
   .rw[h1,Nb];exact Int.le_refl _
   .rw[h1,concat_eq_append,show a++f::(b'++[g])=(a++f::b')++[g] by simp,Nb];have Uk:=ok.up;rw[h1,pairwise_append,pairwise_cons] at Uk;exact Int.le_of_lt (Uk.2.1.1 g (by rw[concat_eq_append];simp))
  .have e:(⟨qe l q,[]⟩:Be)=Qn pre ⟨f.n,bytes (f.rs.take j)++t,(bytes (f.rs.take j)++t).length⟩ (b.map (λg=>⟨g.n,[],0⟩)):=by unfold Qn;rw[h3]
   rw[e] at hd;refine Ct.mono (XP ox rfl rfl hg h4 h5 hd) ?_;rintro r H' ⟨w,u,h',ho,e1,e2,e3,e4⟩;exact⟨w,u,h',ho,e1,by rw[Nb];exact e2,e3,by rw[Ci,Ik];exact e4⟩
  .rw[h3] at hd;have hpf:=ox.full
   have e:(pre.map Lf.file++(⟨f.n,bytes (f.rs.take j)++t,(bytes (f.rs.take j)++t).length⟩:yd)::b.map (λg=>⟨g.n,[],0⟩)).map fq=(pre.map λf=>fq f.file)++fq ⟨f.n,bytes (f.rs.take j)++t,(bytes (f.rs.take j)++t).length⟩::(b.map λg=>fq ⟨g.n,[],0⟩):=by
    rw[He,map_cons,map_map,map_map];rfl
   have xD:Ts ((pre.map λf=>fq f.file)++fq ⟨f.n,bytes (f.rs.take j)++t,(bytes (f.rs.take j)++t).length⟩::(b.map λg=>fq ⟨g.n,[],0⟩)):=by
    rw[<-e];refine⟨?_,?_,?_,?_⟩
    .rw[map_map];exact ox.up
    .intro y hy;rw[e] at hy;rcases mem_append.1 hy with hy|hy
     .obtain⟨g',hg',rfl⟩:=mem_map.1 hy;exact⟨(ZN (hpf g' hg')).e,by show ∀x∈[],_;simp⟩
     .rcases mem_cons.1 hy with rfl|hy
      .exact⟨rfl,by show ∀x∈[],_;simp⟩
      .obtain⟨g',_,rfl⟩:=mem_map.1 hy;exact⟨rfl,by show ∀x∈[],_;simp⟩
    .rw[map_map];exact ox.used
    .rw[bf];exact ox.len
   rw[e] at hd;have hc:=Jk (l:=pre) ox.good;have Uk:=ox.used;unfold Be.used Qn at Uk;simp only[He,sum_append] at Uk;rw[Se] at hc;have hme:((pre.map Lf.file).map (λx=>x.b.length))=pre.map (λf=>(bytes f.rs).length):=by rw[map_map];rfl
   rw[hme] at Uk;refine Ct.mono (oK (Ku hpf) ox.good xD hd (by omega) (.inr ⟨_,_,f.rs.take j,t,rfl,rfl,rfl,hg,h4,h5,rfl,rfl,rfl,rfl⟩)) ?_;rintro r H' ⟨w,u,h',ho,e1,e2,e3,e4⟩;refine⟨w,u,h',ho,e1,?_,⟨_,tm,⟨(Ku hpf).app (.cons ⟨rfl,?_,?_,?_⟩ .nil),?_,?_,JL⟩,ht,e3⟩,by rw[Ci,Ik];exact e4⟩
   .rw[Nb,e2];rw[map_map,map_map];rfl
   .show(bytes (f.rs.take j)++t).take (bytes (f.rs.take j)).length=_;rw[take_left]
   .show(bytes (f.rs.take j)).length=_;unfold Lf.s7;simp only[take_length]
   .show(bytes (f.rs.take j)).length+0=((bytes (f.rs.take j)++t).take (bytes (f.rs.take j)).length).length;rw[take_left];omega
   .rw[Pk,Fi,show(pre.map λf=>fq f.file)=(pre.map Lf.file).map fq from by rw[map_map];rfl,Fy];exact .nil
   .rw[Pk,Fi,show(pre.map λf=>fq f.file)=(pre.map Lf.file).map fq from by rw[map_map];rfl,Fy];intro x hx;cases hx
end Go.Proofs.YthebagfahkebiaaGreat
