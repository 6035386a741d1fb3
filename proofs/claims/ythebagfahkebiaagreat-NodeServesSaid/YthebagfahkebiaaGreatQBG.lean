/- Texts of one road. -/
import Derived.Test.YthebagfahkebiaaGreatQBC
set_option linter.all false
set_option maxHeartbeats 8000000
set_option maxRecDepth 20000
namespace Go.Proofs.YthebagfahkebiaaGreat
open Go Go.Sl Go.Proofs.Tryz List
variable{es:List ya}{h:Hp}
def O3(c x y:Int):(0<if c≠0 then c else Xl x y)↔0<c\/c=0/\y<x:=by
 unfold Xl;repeat' split
 all_goals omega
def VL(a b:ya):Ct prog 285 [.agg (List.toArray a.enc),.agg (List.toArray b.enc)] [] (λr H'=>r= .bool (WV a b)/\H'=[]):=by
 have h1:=oJ a b;have hg:=O3 (Ql a b) a.sq b.sq;have hge:WV a b=decide (0<Ql a b\/Ql a b=0/\b.sq<a.sq):=decide_eq_decide.2 hg;rw[hge];clear hge hg;generalize Ql a b=c at h1⊢;refine ce func285 λg R=>?_;repeat' first|refine vb ?_|refine Ud λ_=>?_
 rename_i b2 b3;by_cases c1:0<c<;>by_cases c2:c=0<;>by_cases c3:b.sq<a.sq;all_goals try(exfalso;omega)
 all_goals
  repeat' first|refine ga ?_|refine Xm b2 3 a.enc [a.ct,a.sd,a.sr] ?_|refine Xm b3 3 b.enc [b.ct,b.sd,b.sr] ?_|refine cq h1 ?_
  exact Wa [] rfl rfl ⟨by simp[c1,c2,c3],rfl⟩
def ju(key:ByteArray){v:Value}(hs:Rs es v h)(hl:es.length<=1000000):Ct prog 243 [.string key,v] [h] (λr H'=>r= .tuple #[.agg (List.toArray ((jb key es).getD ya.z).enc),.bool (jb key es).isSome]/\H'=[h]):=by
 obtain⟨pv,cv,rfl⟩:=hs.len;refine ce func243 λg R=>?_;repeat' first|refine vb ?_|refine al λ_=>?_
 rename_i b4 b6;refine W.h0 [Fb b6 ((jb key (es.take 0)).getD ya.z),Fb b4 ya.z,h,R] ?_
 refine W.lo (α:=Nat) (λk=>k<=es.length)
  (λk=>[(0,.string key),(1,.slice pv es.length cv),(4,b4),(6,b6),(7,.bool (jb key (es.take k)).isSome),(8,.int .i64 (k:Int))])
  (λk=>[Fb b6 ((jb key (es.take k)).getD ya.z),Fb b4 ya.z,h,R]) (λk=>es.length - k) 0 (Gi _) ?_
 intro k hk;by_cases hlt:k<es.length
 .obtain⟨e,he⟩:=Sh hlt;have hn:=Yq (key:=key) he;have hgt:∀y,Ct prog 285 [.agg (List.toArray e.enc),.agg (List.toArray y.enc)] [] (λr H'=>r= .bool (WV e y)/\H'=[]):=VL e;generalize jb key (es.take k)=o at hn⊢;try refine ga ?_
  refine Ns (ml [16,1,2]) [Fb b6 (o.getD ya.z),h] ?_;by_cases ck:e.key=key
  .rw[show NF key o e=_ from if_pos ck] at hn
   cases o with
   |none=>
    repeat' first|refine ga ?_|refine rG hs he ?_
    refine nh ya.z.enc e.enc ?_;try refine ga ?_
    refine D.as 7 (.bool (jb key (es.take (k+1))).isSome) rfl (by rw[hn];rfl) ?_;refine D.hp (H':=[Fb b6 ((jb key (es.take (k+1))).getD ya.z),Fb b4 ya.z,h,R]) (by rw[hn];rfl) ?_
    exact D.re (k+1)
   |some y=>
    have hgt:=hgt y;have hn:jb key (es.take (k+1))=if WV e y=true then some e else some y:=hn
    cases hg:WV e y with
    |true=>
     rw[hg] at hn hgt;repeat' first|refine ga ?_|refine rG hs he ?_|refine yj y.enc ?_|refine cq hgt ?_
     refine nh y.enc e.enc ?_;try refine ga ?_
     refine D.as 7 (.bool (jb key (es.take (k+1))).isSome) rfl (by rw[hn];rfl) ?_;refine D.hp (H':=[Fb b6 ((jb key (es.take (k+1))).getD ya.z),Fb b4 ya.z,h,R]) (by rw[hn];rfl) ?_
     exact D.re (k+1)
    |false=>
     rw[hg] at hn hgt;repeat' first|refine ga ?_|refine rG hs he ?_|refine yj y.enc ?_|refine cq hgt ?_
     refine D.as 7 (.bool (jb key (es.take (k+1))).isSome) rfl (by rw[hn];rfl) ?_;refine D.hp (H':=[Fb b6 ((jb key (es.take (k+1))).getD ya.z),Fb b4 ya.z,h,R]) (by rw[hn];rfl) ?_;exact D.re (k+1)
  .rw[show NF key o e=o from if_neg ck] at hn;try refine ga ?_
   rw[<-hn];exact D.re (k+1)
 .obtain rfl:k=es.length:=by omega
  rw[take_length];generalize jb key es=o;repeat' first|refine ga ?_|refine Of (o.getD ya.z).enc (o.getD ya.z).enc ?_|refine nh ya.z.enc (o.getD ya.z).enc ?_
  exact D.yg [h] _ rfl (.Ua rfl rfl (.tmp rfl .nil)) rfl ⟨rfl,rfl⟩
def uR(rg:Int)(q:Qy){v:Value}(hs:Rs es v h)(hl:es.length<=1000000):Ct prog 178 [rg,.agg (List.toArray q.enc),v] [h] (λr H'=>r= .agg (List.toArray (Xy rg q es).enc)/\H'=[h]):=by
 have ee:=Xn rg hs hl;have hpa:=yt q.av rg;have hpc:=yt q.Rj rg;have hc1:=Pp (ic rg es) (ug q.Rj rg);have hc2:=Pp (ic rg es) (ug q.av rg);have TS:=Pp (ug q.av rg) q.mr;obtain⟨pv,cv,rfl⟩:=hs.len;obtain⟨key,Rj,snap,av,mr⟩:=q;unfold Xy;simp only[] at hpa hpc hc1 hc2 TS⊢;generalize hC:ic rg es=C at*;generalize hA:ug av rg=A at*;refine ce func178 λg R=>?_;repeat' first|refine vb ?_|refine Ud λ_=>?_|refine al λ_=>?_
 rename_i b4 b6;refine WX.h0 [Yy b6 An.z,Qv b4 ⟨key,Rj,snap,av,mr⟩,h,R] ?_;repeat' first|refine ga ?_|refine al λ_=>?_|refine cq ee ?_|refine nh V3.z.enc C.enc ?_
 rename_i b7;refine WX.h0 [Ac b7 C,Yy b6 An.z,Qv b4 ⟨key,Rj,snap,av,mr⟩,h,R] ?_;repeat' first|refine ga ?_|refine al λ_=>?_|refine Xm b4 11 (Qy.enc ⟨key,Rj,snap,av,mr⟩) av.enc ?_|refine cq hpa ?_|refine nh V3.z.enc A.enc ?_
 rename_i b8;refine Ns (ml [4,2,7,1,3]) [Ac b7 C,Ac b8 A,Qv b4 ⟨key,Rj,snap,av,mr⟩] ?_;obtain⟨P,hP⟩:∃P:ya->Bool,P=λe=>decide (e.rg=rg/\(snap=false\/Nk A e)):=⟨_,rfl⟩;rw[<-hP];by_cases k1:jt C (ug Rj rg)
 .rw[Fi k1] at hc1
  cases snap with
  |true=>
   by_cases k2:jt C A
   .rw[Fi k2] at hc2;by_cases k3:jt A mr
    .rw[Fi k3] at TS;rw[if_neg (λh=>h.elim (λh=>h k1) λh=>h.2 k2),if_neg λh=>h.2 k3];repeat' first|refine ga ?_|refine Xm b4 1 (Qy.enc ⟨key,Rj,_,av,mr⟩) Rj.enc ?_|refine Xm b4 20 (Qy.enc ⟨key,Rj,_,av,mr⟩) mr.enc ?_|refine Xm b7 0 C.enc C.enc ?_|refine Xm b8 0 A.enc A.enc ?_|refine cq hpc ?_|refine cq hc1 ?_|refine cq hc2 ?_|refine cq TS ?_
     refine W.lo (α:=Nat×Value×Hp) (λx=>x.1<=es.length/\ia 49 ((es.take x.1).filter P) x.2.1 x.2.2) (λx=>[(0,rg),(2,.slice pv es.length cv),(4,b4),(6,b6),(7,b7),(8,b8),(9,x.2.1),(10,.int .i64 (x.1:Int))])
      (λx=>[x.2.2,Ac b7 C,Ac b8 A,Yy b6 An.z,Qv b4 ⟨key,Rj,true,av,mr⟩,h,R]) (λx=>es.length - x.1) (0,.slice none 0 0,[]) ⟨Gi _,ia.nil _⟩ ?_
     rintro⟨i,v2,h2⟩ ⟨hi,Oa⟩;simp only[] at hi Oa⊢;have hle:((es.take i).filter P).length<=1000000:=by have:=length_filter_le P (es.take i);rw[Fe] at this;omega
     by_cases hlt:i<es.length
     .obtain⟨e,hx⟩:=Sh hlt;have hch:=nk e.dc e.rg e.sq
      have hn:(es.take (i+1)).filter P=(es.take i).filter P++(if P e=true then[e] else[]):=by
       rw[take_add_one,hx,filter_append];congr 1;cases hp:P e<;>simp[hp]
      generalize(es.take i).filter P=l at Oa hn hle;have US:P e=decide (e.rg=rg/\(true=false\/Nk A e)):=by rw[hP]
      repeat' first|refine ga ?_|refine al λ_=>?_|refine lF (us:=[e.dc,e.rg,e.sq]) rfl hs ?_ (hk:=hx) (ho:=rfl)|refine nh [.int .i64 0,.int .i64 0,.int .i64 0] [e.dc,e.rg,e.sq] ?_
      rename_i P3;refine Ns (ml [9,1,11]) [[(P3,.cells (List.toArray [e.dc,e.rg,e.sq]) 42 (0,0))],Qv b4 ⟨key,Rj,true,av,mr⟩,Ac b8 A] ?_;by_cases hg:e.rg=rg<;>by_cases hD:Qb e.dc e.rg<;>by_cases hq:e.sq<=A.at e.dc.toNat
      all_goals
       first|rw[Fi hD] at hch|rw[gj hD] at hch
       have M0:Qb e.dc e.rg->A.enc[0+e.dc.toNat*1]? =some (.int .i64 (A.at e.dc.toNat)):=λh=>by rw[show 0+e.dc.toNat*1=e.dc.toNat by omega,V3.Vd _ (by have:=h.1;have:=h.2.1;omega)]
       try have M0:=M0 hD
       try obtain⟨d1,d2,-,-⟩:=id hD
       repeat' first|refine ga ?_|refine yj [e.dc,e.rg,e.sq] ?_|refine lN A.enc _ rfl ?_ (hc:=M0)|refine rG hs hx ?_|refine cq hch ?_
       first
       |(have hp:P e=false:=by
          rw[US];refine gj λhp=>?_;first|exact hg hp.1|exact hp.2.elim (λh=>absurd h (by decide)) λh=>hD h.1|exact hp.2.elim (λh=>absurd h (by decide)) λh=>hq h.2
         rw[hp,if_neg (by decide),append_nil] at hn
         exact D.round (i+1,v2,h2) ⟨by simp only[];omega,by rw[hn];exact Oa⟩ (by simp only[];omega) (by repeat(first|exact Ca.nil|refine Ca.cons rfl ?_)) (Ga.qa inferInstance))
       |(have hp:P e=true:=by
          rw[US];refine Fi ⟨hg,?_⟩;first|exact .inl rfl|exact .inr ⟨hD,hq⟩
         rw[hp,if_pos rfl] at hn;refine Kp [e] (λv4 h4 hs4=>?_);refine Ys (zb:=by simp only[Gb,jd];omega) Oa hs4.rs (λv5 h5 hs5=>?_);rw[<-hn] at hs5;try refine ga ?_
         exact D.round (i+1,v5,h5) ⟨by simp only[];omega,hs5⟩ (by simp only[];omega) (by repeat(first|exact Ca.nil|refine Ca.cons rfl ?_)) (Ga.qa inferInstance))
     obtain rfl:i=es.length:=by omega
     rw[take_length] at Oa hle;have Vt:=ju key Oa.rs hle;generalize jb key (es.filter P)=gr at Vt⊢;repeat' first|refine ga ?_|refine al λ_=>?_|refine yj C.enc ?_|refine Vf (An.enc ⟨0,false,ya.z,C⟩) ?_|refine cq Vt ?_|refine nh An.z.enc (An.enc ⟨0,false,ya.z,C⟩) ?_
     rename_i nj;refine WX.Yc (vs:=(gr.getD ya.z).enc) (b:=nj) (i:=2) (cs:=An.enc ⟨0,false,ya.z,C⟩) rfl rfl rfl (ya.Xo _) (ya.one _) rfl ?_;rw[An.Lw];try refine ga ?_
     refine Wh (An.enc ⟨0,false,gr.getD ya.z,C⟩) (An.enc ⟨0,gr.isSome,gr.getD ya.z,C⟩) ?_;repeat' first|refine ga ?_|refine yj (An.enc ⟨0,gr.isSome,gr.getD ya.z,C⟩) ?_|refine nh An.z.enc (An.enc ⟨0,gr.isSome,gr.getD ya.z,C⟩) ?_
     exact D.Dc [h] _ rfl (.Ua rfl rfl .nil) ⟨rfl,rfl⟩
    .rw[gj k3] at TS;rw[if_neg (λh=>h.elim (λh=>h k1) λh=>h.2 k2),if_pos ⟨rfl,k3⟩];repeat' first|refine ga ?_|refine Xm b4 1 (Qy.enc ⟨key,Rj,_,av,mr⟩) Rj.enc ?_|refine Xm b4 20 (Qy.enc ⟨key,Rj,_,av,mr⟩) mr.enc ?_|refine Xm b7 0 C.enc C.enc ?_|refine Xm b8 0 A.enc A.enc ?_|refine cq hpc ?_|refine cq hc1 ?_|refine cq hc2 ?_|refine cq TS ?_
     repeat' first|refine ga ?_|refine Vf (An.enc {An.z with code:=60}) ?_|refine nh An.z.enc (An.enc {An.z with code:=60}) ?_
     exact D.Dc [h] _ rfl (.Ua rfl rfl .nil) ⟨rfl,rfl⟩
   .rw[gj k2] at hc2;rw[if_pos (.inr ⟨rfl,k2⟩)];repeat' first|refine ga ?_|refine Xm b4 1 (Qy.enc ⟨key,Rj,_,av,mr⟩) Rj.enc ?_|refine Xm b7 0 C.enc C.enc ?_|refine Xm b8 0 A.enc A.enc ?_|refine cq hpc ?_|refine cq hc1 ?_|refine cq hc2 ?_
    repeat' first|refine ga ?_|refine Vf (An.enc {An.z with code:=91}) ?_|refine nh An.z.enc (An.enc {An.z with code:=91}) ?_
    exact D.Dc [h] _ rfl (.Ua rfl rfl .nil) ⟨rfl,rfl⟩
  |false=>
   rw[if_neg (λh=>h.elim (λh=>h k1) λh=>absurd h.1 (by decide)),if_neg λh=>absurd h.1 (by decide)];repeat' first|refine ga ?_|refine Xm b4 1 (Qy.enc ⟨key,Rj,_,av,mr⟩) Rj.enc ?_|refine Xm b7 0 C.enc C.enc ?_|refine cq hpc ?_|refine cq hc1 ?_
   refine W.lo (α:=Nat×Value×Hp) (λx=>x.1<=es.length/\ia 49 ((es.take x.1).filter P) x.2.1 x.2.2) (λx=>[(0,rg),(2,.slice pv es.length cv),(4,b4),(6,b6),(7,b7),(8,b8),(9,x.2.1),(10,.int .i64 (x.1:Int))])
    (λx=>[x.2.2,Ac b7 C,Ac b8 A,Yy b6 An.z,Qv b4 ⟨key,Rj,false,av,mr⟩,h,R]) (λx=>es.length - x.1) (0,.slice none 0 0,[]) ⟨Gi _,ia.nil _⟩ ?_
   rintro⟨i,v2,h2⟩ ⟨hi,Oa⟩;simp only[] at hi Oa⊢;have hle:((es.take i).filter P).length<=1000000:=by have:=length_filter_le P (es.take i);rw[Fe] at this;omega
   by_cases hlt:i<es.length
   .obtain⟨e,hx⟩:=Sh hlt;have hch:=nk e.dc e.rg e.sq
    have hn:(es.take (i+1)).filter P=(es.take i).filter P++(if P e=true then[e] else[]):=by
     rw[take_add_one,hx,filter_append];congr 1;cases hp:P e<;>simp[hp]
    generalize(es.take i).filter P=l at Oa hn hle;have US:P e=decide (e.rg=rg/\(false=false\/Nk A e)):=by rw[hP]
    repeat' first|refine ga ?_|refine al λ_=>?_|refine lF (us:=[e.dc,e.rg,e.sq]) rfl hs ?_ (hk:=hx) (ho:=rfl)|refine nh [.int .i64 0,.int .i64 0,.int .i64 0] [e.dc,e.rg,e.sq] ?_
    rename_i P3;refine Ns (ml [9,1,11]) [[(P3,.cells (List.toArray [e.dc,e.rg,e.sq]) 42 (0,0))],Qv b4 ⟨key,Rj,false,av,mr⟩,Ac b8 A] ?_;by_cases hg:e.rg=rg<;>by_cases hD:Qb e.dc e.rg<;>by_cases hq:e.sq<=A.at e.dc.toNat
    all_goals
     first|rw[Fi hD] at hch|rw[gj hD] at hch
     have M0:Qb e.dc e.rg->A.enc[0+e.dc.toNat*1]? =some (.int .i64 (A.at e.dc.toNat)):=λh=>by rw[show 0+e.dc.toNat*1=e.dc.toNat by omega,V3.Vd _ (by have:=h.1;have:=h.2.1;omega)]
     try have M0:=M0 hD
     try obtain⟨d1,d2,-,-⟩:=id hD
     repeat' first|refine ga ?_|refine rG hs hx ?_
     first
     |(have hp:P e=false:=by
        rw[US];refine gj λhp=>?_;first|exact hg hp.1|exact hp.2.elim (λh=>absurd h (by decide)) λh=>hD h.1|exact hp.2.elim (λh=>absurd h (by decide)) λh=>hq h.2
       rw[hp,if_neg (by decide),append_nil] at hn
       exact D.round (i+1,v2,h2) ⟨by simp only[];omega,by rw[hn];exact Oa⟩ (by simp only[];omega) (by repeat(first|exact Ca.nil|refine Ca.cons rfl ?_)) (Ga.qa inferInstance))
     |(have hp:P e=true:=by
        rw[US];refine Fi ⟨hg,?_⟩;first|exact .inl rfl|exact .inr ⟨hD,hq⟩
       rw[hp,if_pos rfl] at hn;refine Kp [e] (λv4 h4 hs4=>?_);refine Ys (zb:=by simp only[Gb,jd];omega) Oa hs4.rs (λv5 h5 hs5=>?_);rw[<-hn] at hs5;try refine ga ?_
       exact D.round (i+1,v5,h5) ⟨by simp only[];omega,hs5⟩ (by simp only[];omega) (by repeat(first|exact Ca.nil|refine Ca.cons rfl ?_)) (Ga.qa inferInstance))
   obtain rfl:i=es.length:=by omega
   rw[take_length] at Oa hle;have Vt:=ju key Oa.rs hle;generalize jb key (es.filter P)=gr at Vt⊢;repeat' first|refine ga ?_|refine al λ_=>?_|refine yj C.enc ?_|refine Vf (An.enc ⟨0,false,ya.z,C⟩) ?_|refine cq Vt ?_|refine nh An.z.enc (An.enc ⟨0,false,ya.z,C⟩) ?_
   rename_i nj;refine WX.Yc (vs:=(gr.getD ya.z).enc) (b:=nj) (i:=2) (cs:=An.enc ⟨0,false,ya.z,C⟩) rfl rfl rfl (ya.Xo _) (ya.one _) rfl ?_;rw[An.Lw];try refine ga ?_
   refine Wh (An.enc ⟨0,false,gr.getD ya.z,C⟩) (An.enc ⟨0,gr.isSome,gr.getD ya.z,C⟩) ?_;repeat' first|refine ga ?_|refine yj (An.enc ⟨0,gr.isSome,gr.getD ya.z,C⟩) ?_|refine nh An.z.enc (An.enc ⟨0,gr.isSome,gr.getD ya.z,C⟩) ?_
   exact D.Dc [h] _ rfl (.Ua rfl rfl .nil) ⟨rfl,rfl⟩
 .rw[gj k1] at hc1;rw[if_pos (.inl k1)];repeat' first|refine ga ?_|refine Xm b4 1 (Qy.enc ⟨key,Rj,_,av,mr⟩) Rj.enc ?_|refine Xm b7 0 C.enc C.enc ?_|refine cq hpc ?_|refine cq hc1 ?_
  repeat' first|refine ga ?_|refine Vf (An.enc {An.z with code:=91}) ?_|refine nh An.z.enc (An.enc {An.z with code:=91}) ?_
  exact D.Dc [h] _ rfl (.Ua rfl rfl .nil) ⟨rfl,rfl⟩
section
variable(n:va)(b gb hb sb cb d w:Nat)(tn:Int)(vw vo v:Value)(ob:Lb n.c)(Us:Je n.c){hv:Hp}(hs:Rs n.c.lg v hv){outs:List Da}{ho:Hp}(On:ia 52 outs vo ho)(Ry:outs.length<=100000)
include ob Us hs On Ry
theorem tR(m:Da):Ct prog 86 [b,.agg (List.toArray m.enc)] [Ba b n gb hb sb vw vo,ho,qb n gb cb d w tn,ta cb n.c v,hv] (Py b n gb hb sb vw (outs++[n.get m]) [qb n gb cb d w tn,ta cb n.c v,hv]):=by
 have k3:=WK ob.co cb v;have k4:=sk ob.co cb v;have k8:=xo n b gb hb sb cb d w tn vw vo v ob Us hs;have jg:=ob.len;have uq:n.Ab.length<=1000000:=by unfold va.Ab;rw[Fe];omega
 have k9:=uR n.rg (n.query m) (wo n v ob Us hs) uq;have iB:n.c.nd=n.nd:=(Ea.Uq n.s).1;rw[iB] at k3;unfold va.get;obtain⟨no,hno⟩:∃no:Da,no={Da.z with kind:=6,to:=m.fr,op:=m.op,tr:=m.tr}:=⟨_,rfl⟩;have hnc:∀k,n.no 6 m k={({no with code:=k}:Da) with fr:=n.self}:=λk=>by rw[hno];rfl
 have ks:=λx:Da=>uh n b gb hb sb vw On (by omega) x;obtain⟨q,hq⟩:∃q:Bool,((n.c.last/\n.c.su=false)\/(¬n.c.last/\n.c.st<n.c.du))↔q=true:=⟨decide _,(decide_eq_true_iff).symm⟩;refine ce func86 λg R=>?_;repeat' first|refine vb ?_|refine Ud λ_=>?_|refine al λ_=>?_|refine WX.Fa (i:=1) (cs:=m.enc) (vs:=m.fr.enc) rfl rfl rfl rfl ?_|refine cq k4 ?_|refine Vf (Da.enc {Da.z with kind:=6,to:=m.fr,op:=m.op,tr:=m.tr}) ?_|refine nh Da.z.enc (Da.enc {Da.z with kind:=6,to:=m.fr,op:=m.op,tr:=m.tr}) ?_
 rename_i b3 b5;rw[<-hno];by_cases c1:m.ep=n.ep
 .have j0: ¬ ¬m.ep=n.ep:=not_not_intro c1
  cases hf:xm n.c.co n.nd with
  |false=>
   rw[hf] at k3;rw[if_pos (.inr rfl),hnc];refine wq ?_;repeat' first|refine ga ?_|refine cq k3 ?_
   refine Wh (Da.enc no) (Da.enc {no with code:=90}) ?_;repeat' first|refine ga ?_|refine yj (Da.enc {no with code:=90}) ?_
   refine ck (ks {no with code:=90}) ?_;rintro _ _ ⟨rfl,Cp,ho',hs',rfl⟩;refine vb ?_
   exact D.Bc [Ba b n gb hb sb vw Cp,ho',qb n gb cb d w tn,ta cb n.c v,hv] _ rfl ⟨rfl,_,_,hs',rfl⟩
  |true=>
   rw[hf] at k3;rw[if_neg (λh=>h.elim (λh=>h c1) λh=>by cases h)];refine wq ?_;repeat' first|refine ga ?_|refine cq k3 ?_
   refine W.gi (α:=Unit) (λ_=>True) (λ_=>[(0,b),(3,b3),(5,b5),(72,.bool q)]) (λ_=>[Jc b5 no,Jc b3 m,Ba b n gb hb sb vw vo,ho,qb n gb cb d w tn,ta cb n.c v,hv,R]) ?_ ?_
   .obtain⟨su,hsu⟩:∃su,n.c.su=su:=⟨_,rfl⟩;rw[hsu] at hq;by_cases c2:n.c.last
    .obtain rfl:(!su)=q:=by
      cases su
      .exact(hq.1 (.inl ⟨c2,rfl⟩)).symm
      .cases q
       .rfl
       .exact((hq.2 rfl).elim (λh=>by cases h.2) λh=>absurd c2 h.1)
     refine ij ?_;refine WX.as 81 (.bool (!su)) rfl (by rw[<-hsu]) ?_;cases su
     all_goals
      try refine ga ?_
      exact D.aQ () trivial
    .obtain rfl:decide (n.c.st<n.c.du)=q:=by
      cases q
      .exact gj λh=>by cases hq.1 (.inr ⟨c2,h⟩)
      .exact Fi ((hq.2 rfl).elim (λh=>absurd h.1 c2) λh=>h.2)
     refine ij ?_;exact D.aQ () trivial
   rintro⟨⟩ -;try simp only[]
   cases q with
   |true=>
    rw[if_pos (hq.2 rfl),hnc];try refine ga ?_
    refine Wh (Da.enc no) (Da.enc {no with code:=92}) ?_;repeat' first|refine ga ?_|refine yj (Da.enc {no with code:=92}) ?_
    refine ck (ks {no with code:=92}) ?_;rintro _ _ ⟨rfl,Cp,ho',hs',rfl⟩;refine vb ?_
    exact D.Bc [Ba b n gb hb sb vw Cp,ho',qb n gb cb d w tn,ta cb n.c v,hv] _ rfl ⟨rfl,_,_,hs',rfl⟩
   |false=>
    rw[if_neg (λh=>by cases hq.1 h)];generalize Xy n.rg (n.query m) n.Ab=a at k9⊢;try simp only[]
    rw[hnc];try refine ga ?_
    refine W.gi (α:=Nat) (λ_=>True) (λy=>[(0,b),(5,b5),(7,y)]) (λy=>[Yy y a,Jc b5 no,Ba b n gb hb sb vw vo,ho,qb n gb cb d w tn,ta cb n.c v,hv,R]) ?_ ?_
    .refine w6 (ml [19,4]) [Jc b3 m,Ba b n gb hb sb vw vo] ?_;repeat' first|refine ga ?_|refine al λ_=>?_|refine WY.Se ?_|refine WY.back ?_|refine Uk 0 ?_|refine Uk 1 ?_|refine Uk 2 ?_|refine Uk 3 ?_|refine Uk 4 ?_|refine Uk 5 ?_|refine Uk 6 ?_|refine Uk 7 ?_|refine Uk 8 ?_|refine Uk 9 ?_|refine Uk 10 ?_|refine Uk 11 ?_|refine Uk 12 ?_|refine Uk 13 ?_|refine Uk 14 ?_|refine Uk 15 ?_|refine Uk 16 ?_|refine Uk 17 ?_|refine Uk 18 ?_|refine WY.Ts 19 21 (by decide+kernel) rfl rfl ?_ ?_|refine WY.Ts 20 21 (by decide+kernel) rfl rfl ?_ ?_|refine uK 19 ?_|refine uK 20 ?_|refine uK 21 ?_|refine uK 22 ?_|refine WY.fin (by kernel_rfl) ?_|refine Xm b3 52 m.enc m.dp.enc ?_|refine Xm b3 61 m.enc m.av.enc ?_|refine Xm b 21 (n.jc gb hb sb vw vo) n.mr.enc ?_|refine Vf (Qy.enc (n.query m)) ?_|refine cq k8 ?_|refine cq k9 ?_|refine nh An.z.enc a.enc ?_
     all_goals exact D.aQ _ trivial
    rintro b7 -;try simp only[]
    try refine ga ?_
    refine Wh (Da.enc no) (Da.enc {no with code:=a.code}) ?_;try refine ga ?_
    refine Wh (Da.enc {no with code:=a.code}) (Da.enc {no with code:=a.code,has:=a.has}) ?_;repeat' first|refine ga ?_|refine Xm b7 2 a.enc a.en.enc ?_
    refine WX.Yc (vs:=a.en.enc) (b:=b5) (i:=27) (cs:=Da.enc {no with code:=a.code,has:=a.has}) rfl rfl rfl (ya.Xo _) (ya.one _) rfl ?_;rw[Da.XX];repeat' first|refine ga ?_|refine Xm b7 22 a.enc a.col.enc ?_
    refine WX.Yc (vs:=a.col.enc) (b:=b5) (i:=70) (cs:=Da.enc {no with code:=a.code,has:=a.has,en:=a.en}) rfl rfl rfl rfl rfl rfl ?_;rw[Da.YX];repeat' first|refine ga ?_|refine yj (Da.enc {no with code:=a.code,has:=a.has,en:=a.en,c0:=a.col.a,c1:=a.col.b,c2:=a.col.c}) ?_
    refine ck (ks {no with code:=a.code,has:=a.has,en:=a.en,c0:=a.col.a,c1:=a.col.b,c2:=a.col.c}) ?_;rintro _ _ ⟨rfl,Cp,ho',hs',rfl⟩;refine vb ?_;exact D.Bc [Ba b n gb hb sb vw Cp,ho',qb n gb cb d w tn,ta cb n.c v,hv] _ rfl ⟨rfl,_,_,hs',rfl⟩
 .rw[if_pos (.inl c1),hnc];refine ij ?_;refine Wh (Da.enc no) (Da.enc {no with code:=90}) ?_;repeat' first|refine ga ?_|refine yj (Da.enc {no with code:=90}) ?_
  refine ck (ks {no with code:=90}) ?_;rintro _ _ ⟨rfl,Cp,ho',hs',rfl⟩;refine vb ?_;exact D.Bc [Ba b n gb hb sb vw Cp,ho',qb n gb cb d w tn,ta cb n.c v,hv] _ rfl ⟨rfl,_,_,hs',rfl⟩
end
end Go.Proofs.YthebagfahkebiaaGreat
