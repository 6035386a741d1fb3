/- Texts of one road. -/
import Derived.Test.YthebagfahkebiaaGreatRBC
set_option linter.all false
set_option maxHeartbeats 8000000
set_option maxRecDepth 20000
namespace Go.Proofs.YthebagfahkebiaaGreat
open Go Go.Sl Go.Proofs.Tryz List
variable{es:List ya}{h:Hp}
def G3(c x y:Int):(0<if c≠0 then c else fm x y)↔0<c\/c=0/\y<x:=by
 unfold fm;repeat' split
 all_goals omega
def eM(a b:ya):Ct prog 285 [.agg (List.toArray a.enc),.agg (List.toArray b.enc)] [] (λr H'=>r= .bool (cW a b)/\H'=[]):=by
 have h1:=FJ a b;have hg:=G3 (Vl a b) a.sq b.sq;have hge:cW a b=decide (0<Vl a b\/Vl a b=0/\b.sq<a.sq):=decide_eq_decide.2 hg;rw[hge];clear hge hg;generalize Vl a b=c at h1⊢;refine ce func285 λg R=>?_;repeat' first|refine Za ?_|refine Uc λ_=>?_
 rename_i b2 b3;by_cases c1:0<c<;>by_cases c2:c=0<;>by_cases c3:b.sq<a.sq;all_goals try(exfalso;omega)
 all_goals
  repeat' first|refine ga ?_|refine bn b2 3 a.enc [a.ct,a.sd,a.sr] ?_|refine bn b3 3 b.enc [b.ct,b.sd,b.sr] ?_|refine cq h1 ?_
  exact Xa [] rfl rfl ⟨by simp[c1,c2,c3],rfl⟩
def Au(key:ByteArray){v:Value}(hs:Rs es v h)(hl:es.length<=1000000):Ct prog 243 [.string key,v] [h] (λr H'=>r= .tuple #[.agg (List.toArray ((Ya key es).getD ya.z).enc),.bool (Ya key es).isSome]/\H'=[h]):=by
 obtain⟨pv,cv,rfl⟩:=hs.len;refine ce func243 λg R=>?_;repeat' first|refine Za ?_|refine al λ_=>?_
 rename_i b4 b6;refine W.h0 [Gb b6 ((Ya key (es.take 0)).getD ya.z),Gb b4 ya.z,h,R] ?_
 refine W.lo (α:=Nat) (λk=>k<=es.length)
  (λk=>[(0,.string key),(1,.slice pv es.length cv),(4,b4),(6,b6),(7,.bool (Ya key (es.take k)).isSome),(8,.int .i64 (k:Int))])
  (λk=>[Gb b6 ((Ya key (es.take k)).getD ya.z),Gb b4 ya.z,h,R]) (λk=>es.length - k) 0 (di _) ?_
 intro k hk;by_cases hlt:k<es.length
 .obtain⟨e,he⟩:=Lh hlt;have hn:=Jr (key:=key) he;have hgt:∀y,Ct prog 285 [.agg (List.toArray e.enc),.agg (List.toArray y.enc)] [] (λr H'=>r= .bool (cW e y)/\H'=[]):=eM e;generalize Ya key (es.take k)=o at hn⊢;try refine ga ?_
  refine Wp (ml [16,1,2]) [Gb b6 (o.getD ya.z),h] ?_;by_cases ck:e.key=key
  .rw[show Vw key o e=_ from if_pos ck] at hn
   cases o with
   |none=>
    repeat' first|refine ga ?_|refine Vx hs he ?_
    refine xg ya.z.enc e.enc ?_;try refine ga ?_
    refine D.as 7 (.bool (Ya key (es.take (k+1))).isSome) rfl (by rw[hn];rfl) ?_;refine D.hp (H':=[Gb b6 ((Ya key (es.take (k+1))).getD ya.z),Gb b4 ya.z,h,R]) (by rw[hn];rfl) ?_
    exact D.re (k+1)
   |some y=>
    have hgt:=hgt y;have hn:Ya key (es.take (k+1))=if cW e y=true then some e else some y:=hn
    cases hg:cW e y with
    |true=>
     rw[hg] at hn hgt;repeat' first|refine ga ?_|refine Vx hs he ?_|refine Pg y.enc ?_|refine cq hgt ?_
     refine xg y.enc e.enc ?_;try refine ga ?_
     refine D.as 7 (.bool (Ya key (es.take (k+1))).isSome) rfl (by rw[hn];rfl) ?_;refine D.hp (H':=[Gb b6 ((Ya key (es.take (k+1))).getD ya.z),Gb b4 ya.z,h,R]) (by rw[hn];rfl) ?_
     exact D.re (k+1)
    |false=>
     rw[hg] at hn hgt;repeat' first|refine ga ?_|refine Vx hs he ?_|refine Pg y.enc ?_|refine cq hgt ?_
     refine D.as 7 (.bool (Ya key (es.take (k+1))).isSome) rfl (by rw[hn];rfl) ?_;refine D.hp (H':=[Gb b6 ((Ya key (es.take (k+1))).getD ya.z),Gb b4 ya.z,h,R]) (by rw[hn];rfl) ?_;exact D.re (k+1)
  .rw[show Vw key o e=o from if_neg ck] at hn;try refine ga ?_
   rw[<-hn];exact D.re (k+1)
 .obtain rfl:k=es.length:=by omega
  rw[take_length];generalize Ya key es=o;repeat' first|refine ga ?_|refine Xf (o.getD ya.z).enc (o.getD ya.z).enc ?_|refine xg ya.z.enc (o.getD ya.z).enc ?_
  exact D.Bg [h] _ rfl (.Va rfl rfl (.tmp rfl .nil)) rfl ⟨rfl,rfl⟩
def ER(rg:Int)(q:Qy){v:Value}(hs:Rs es v h)(hl:es.length<=1000000):Ct prog 178 [rg,.agg (List.toArray q.enc),v] [h] (λr H'=>r= .agg (List.toArray (Cr rg q es).enc)/\H'=[h]):=by
 have je:=ko rg hs hl;have hpa:=Qt q.av rg;have hpc:=Qt q.Uj rg;have hc1:=Zp (Bc rg es) (og q.Uj rg);have hc2:=Zp (Bc rg es) (og q.av rg);have aT:=Zp (og q.av rg) q.mr;obtain⟨pv,cv,rfl⟩:=hs.len;obtain⟨key,Uj,snap,av,mr⟩:=q;unfold Cr;simp only[] at hpa hpc hc1 hc2 aT⊢;generalize hC:Bc rg es=C at*;generalize hA:og av rg=A at*;refine ce func178 λg R=>?_;repeat' first|refine Za ?_|refine Uc λ_=>?_|refine al λ_=>?_
 rename_i b4 b6;refine WX.h0 [uz b6 An.z,mw b4 ⟨key,Uj,snap,av,mr⟩,h,R] ?_;repeat' first|refine ga ?_|refine al λ_=>?_|refine cq je ?_|refine xg V3.z.enc C.enc ?_
 rename_i b7;refine WX.h0 [Mc b7 C,uz b6 An.z,mw b4 ⟨key,Uj,snap,av,mr⟩,h,R] ?_;repeat' first|refine ga ?_|refine al λ_=>?_|refine bn b4 11 (Qy.enc ⟨key,Uj,snap,av,mr⟩) av.enc ?_|refine cq hpa ?_|refine xg V3.z.enc A.enc ?_
 rename_i b8;refine Wp (ml [4,2,7,1,3]) [Mc b7 C,Mc b8 A,mw b4 ⟨key,Uj,snap,av,mr⟩] ?_;obtain⟨P,hP⟩:∃P:ya->Bool,P=λe=>decide (e.rg=rg/\(snap=false\/Kj A e)):=⟨_,rfl⟩;rw[<-hP];by_cases k1:Lt C (og Uj rg)
 .rw[Mi k1] at hc1
  cases snap with
  |true=>
   by_cases k2:Lt C A
   .rw[Mi k2] at hc2;by_cases k3:Lt A mr
    .rw[Mi k3] at aT;rw[if_neg (λh=>h.elim (λh=>h k1) λh=>h.2 k2),if_neg λh=>h.2 k3];repeat' first|refine ga ?_|refine bn b4 1 (Qy.enc ⟨key,Uj,_,av,mr⟩) Uj.enc ?_|refine bn b4 20 (Qy.enc ⟨key,Uj,_,av,mr⟩) mr.enc ?_|refine bn b7 0 C.enc C.enc ?_|refine bn b8 0 A.enc A.enc ?_|refine cq hpc ?_|refine cq hc1 ?_|refine cq hc2 ?_|refine cq aT ?_
     refine W.lo (α:=Nat×Value×Hp) (λx=>x.1<=es.length/\ia 49 ((es.take x.1).filter P) x.2.1 x.2.2) (λx=>[(0,rg),(2,.slice pv es.length cv),(4,b4),(6,b6),(7,b7),(8,b8),(9,x.2.1),(10,.int .i64 (x.1:Int))])
      (λx=>[x.2.2,Mc b7 C,Mc b8 A,uz b6 An.z,mw b4 ⟨key,Uj,true,av,mr⟩,h,R]) (λx=>es.length - x.1) (0,.slice none 0 0,[]) ⟨di _,ia.nil _⟩ ?_
     rintro⟨i,v2,h2⟩ ⟨hi,Sa⟩;simp only[] at hi Sa⊢;have hle:((es.take i).filter P).length<=1000000:=by have:=length_filter_le P (es.take i);rw[Oe] at this;omega
     by_cases hlt:i<es.length
     .obtain⟨e,hx⟩:=Lh hlt;have hch:=uk e.dc e.rg e.sq
      have hn:(es.take (i+1)).filter P=(es.take i).filter P++(if P e=true then[e] else[]):=by
       rw[take_add_one,hx,filter_append];congr 1;cases hp:P e<;>simp[hp]
      generalize(es.take i).filter P=l at Sa hn hle;have bT:P e=decide (e.rg=rg/\(true=false\/Kj A e)):=by rw[hP]
      repeat' first|refine ga ?_|refine al λ_=>?_|refine lF (us:=[e.dc,e.rg,e.sq]) rfl hs ?_ (hk:=hx) (ho:=rfl)|refine xg [.int .i64 0,.int .i64 0,.int .i64 0] [e.dc,e.rg,e.sq] ?_
      rename_i I3;refine Wp (ml [9,1,11]) [[(I3,.cells (List.toArray [e.dc,e.rg,e.sq]) 42 (0,0))],mw b4 ⟨key,Uj,true,av,mr⟩,Mc b8 A] ?_;by_cases hg:e.rg=rg<;>by_cases hD:Tb e.dc e.rg<;>by_cases hq:e.sq<=A.at e.dc.toNat
      all_goals
       first|rw[Mi hD] at hch|rw[rj hD] at hch
       have L0:Tb e.dc e.rg->A.enc[0+e.dc.toNat*1]? =some (.int .i64 (A.at e.dc.toNat)):=λh=>by rw[show 0+e.dc.toNat*1=e.dc.toNat by omega,V3.Wd _ (by have:=h.1;have:=h.2.1;omega)]
       try have L0:=L0 hD
       try obtain⟨d1,d2,-,-⟩:=id hD
       repeat' first|refine ga ?_|refine Pg [e.dc,e.rg,e.sq] ?_|refine lN A.enc _ rfl ?_ (hc:=L0)|refine Vx hs hx ?_|refine cq hch ?_
       first
       |(have hp:P e=false:=by
          rw[bT];refine rj λhp=>?_;first|exact hg hp.1|exact hp.2.elim (λh=>absurd h (by decide)) λh=>hD h.1|exact hp.2.elim (λh=>absurd h (by decide)) λh=>hq h.2
         rw[hp,if_neg (by decide),append_nil] at hn
         exact D.round (i+1,v2,h2) ⟨by simp only[];omega,by rw[hn];exact Sa⟩ (by simp only[];omega) (by repeat(first|exact Aa.nil|refine Aa.cons rfl ?_)) (Ia.qa inferInstance))
       |(have hp:P e=true:=by
          rw[bT];refine Mi ⟨hg,?_⟩;first|exact .inl rfl|exact .inr ⟨hD,hq⟩
         rw[hp,if_pos rfl] at hn;refine Up [e] (λv4 h4 hs4=>?_);refine Jt (zb:=by simp only[Ib,td];omega) Sa hs4.rs (λv5 h5 hs5=>?_);rw[<-hn] at hs5;try refine ga ?_
         exact D.round (i+1,v5,h5) ⟨by simp only[];omega,hs5⟩ (by simp only[];omega) (by repeat(first|exact Aa.nil|refine Aa.cons rfl ?_)) (Ia.qa inferInstance))
     obtain rfl:i=es.length:=by omega
     rw[take_length] at Sa hle;have ou:=Au key Sa.rs hle;generalize Ya key (es.filter P)=gr at ou⊢;repeat' first|refine ga ?_|refine al λ_=>?_|refine Pg C.enc ?_|refine jf (An.enc ⟨0,false,ya.z,C⟩) ?_|refine cq ou ?_|refine xg An.z.enc (An.enc ⟨0,false,ya.z,C⟩) ?_
     rename_i Ph;refine WX.qd (vs:=(gr.getD ya.z).enc) (b:=Ph) (i:=2) (cs:=An.enc ⟨0,false,ya.z,C⟩) rfl rfl rfl (ya.Cp _) (ya.one _) rfl ?_;rw[An.Zw];try refine ga ?_
     refine ei (An.enc ⟨0,false,gr.getD ya.z,C⟩) (An.enc ⟨0,gr.isSome,gr.getD ya.z,C⟩) ?_;repeat' first|refine ga ?_|refine Pg (An.enc ⟨0,gr.isSome,gr.getD ya.z,C⟩) ?_|refine xg An.z.enc (An.enc ⟨0,gr.isSome,gr.getD ya.z,C⟩) ?_
     exact D.Gc [h] _ rfl (.Va rfl rfl .nil) ⟨rfl,rfl⟩
    .rw[rj k3] at aT;rw[if_neg (λh=>h.elim (λh=>h k1) λh=>h.2 k2),if_pos ⟨rfl,k3⟩];repeat' first|refine ga ?_|refine bn b4 1 (Qy.enc ⟨key,Uj,_,av,mr⟩) Uj.enc ?_|refine bn b4 20 (Qy.enc ⟨key,Uj,_,av,mr⟩) mr.enc ?_|refine bn b7 0 C.enc C.enc ?_|refine bn b8 0 A.enc A.enc ?_|refine cq hpc ?_|refine cq hc1 ?_|refine cq hc2 ?_|refine cq aT ?_
     repeat' first|refine ga ?_|refine jf (An.enc {An.z with code:=60}) ?_|refine xg An.z.enc (An.enc {An.z with code:=60}) ?_
     exact D.Gc [h] _ rfl (.Va rfl rfl .nil) ⟨rfl,rfl⟩
   .rw[rj k2] at hc2;rw[if_pos (.inr ⟨rfl,k2⟩)];repeat' first|refine ga ?_|refine bn b4 1 (Qy.enc ⟨key,Uj,_,av,mr⟩) Uj.enc ?_|refine bn b7 0 C.enc C.enc ?_|refine bn b8 0 A.enc A.enc ?_|refine cq hpc ?_|refine cq hc1 ?_|refine cq hc2 ?_
    repeat' first|refine ga ?_|refine jf (An.enc {An.z with code:=91}) ?_|refine xg An.z.enc (An.enc {An.z with code:=91}) ?_
    exact D.Gc [h] _ rfl (.Va rfl rfl .nil) ⟨rfl,rfl⟩
  |false=>
   rw[if_neg (λh=>h.elim (λh=>h k1) λh=>absurd h.1 (by decide)),if_neg λh=>absurd h.1 (by decide)];repeat' first|refine ga ?_|refine bn b4 1 (Qy.enc ⟨key,Uj,_,av,mr⟩) Uj.enc ?_|refine bn b7 0 C.enc C.enc ?_|refine cq hpc ?_|refine cq hc1 ?_
   refine W.lo (α:=Nat×Value×Hp) (λx=>x.1<=es.length/\ia 49 ((es.take x.1).filter P) x.2.1 x.2.2) (λx=>[(0,rg),(2,.slice pv es.length cv),(4,b4),(6,b6),(7,b7),(8,b8),(9,x.2.1),(10,.int .i64 (x.1:Int))])
    (λx=>[x.2.2,Mc b7 C,Mc b8 A,uz b6 An.z,mw b4 ⟨key,Uj,false,av,mr⟩,h,R]) (λx=>es.length - x.1) (0,.slice none 0 0,[]) ⟨di _,ia.nil _⟩ ?_
   rintro⟨i,v2,h2⟩ ⟨hi,Sa⟩;simp only[] at hi Sa⊢;have hle:((es.take i).filter P).length<=1000000:=by have:=length_filter_le P (es.take i);rw[Oe] at this;omega
   by_cases hlt:i<es.length
   .obtain⟨e,hx⟩:=Lh hlt;have hch:=uk e.dc e.rg e.sq
    have hn:(es.take (i+1)).filter P=(es.take i).filter P++(if P e=true then[e] else[]):=by
     rw[take_add_one,hx,filter_append];congr 1;cases hp:P e<;>simp[hp]
    generalize(es.take i).filter P=l at Sa hn hle;have bT:P e=decide (e.rg=rg/\(false=false\/Kj A e)):=by rw[hP]
    repeat' first|refine ga ?_|refine al λ_=>?_|refine lF (us:=[e.dc,e.rg,e.sq]) rfl hs ?_ (hk:=hx) (ho:=rfl)|refine xg [.int .i64 0,.int .i64 0,.int .i64 0] [e.dc,e.rg,e.sq] ?_
    rename_i I3;refine Wp (ml [9,1,11]) [[(I3,.cells (List.toArray [e.dc,e.rg,e.sq]) 42 (0,0))],mw b4 ⟨key,Uj,false,av,mr⟩,Mc b8 A] ?_;by_cases hg:e.rg=rg<;>by_cases hD:Tb e.dc e.rg<;>by_cases hq:e.sq<=A.at e.dc.toNat
    all_goals
     first|rw[Mi hD] at hch|rw[rj hD] at hch
     have L0:Tb e.dc e.rg->A.enc[0+e.dc.toNat*1]? =some (.int .i64 (A.at e.dc.toNat)):=λh=>by rw[show 0+e.dc.toNat*1=e.dc.toNat by omega,V3.Wd _ (by have:=h.1;have:=h.2.1;omega)]
     try have L0:=L0 hD
     try obtain⟨d1,d2,-,-⟩:=id hD
     repeat' first|refine ga ?_|refine Vx hs hx ?_
     first
     |(have hp:P e=false:=by
        rw[bT];refine rj λhp=>?_;first|exact hg hp.1|exact hp.2.elim (λh=>absurd h (by decide)) λh=>hD h.1|exact hp.2.elim (λh=>absurd h (by decide)) λh=>hq h.2
       rw[hp,if_neg (by decide),append_nil] at hn
       exact D.round (i+1,v2,h2) ⟨by simp only[];omega,by rw[hn];exact Sa⟩ (by simp only[];omega) (by repeat(first|exact Aa.nil|refine Aa.cons rfl ?_)) (Ia.qa inferInstance))
     |(have hp:P e=true:=by
        rw[bT];refine Mi ⟨hg,?_⟩;first|exact .inl rfl|exact .inr ⟨hD,hq⟩
       rw[hp,if_pos rfl] at hn;refine Up [e] (λv4 h4 hs4=>?_);refine Jt (zb:=by simp only[Ib,td];omega) Sa hs4.rs (λv5 h5 hs5=>?_);rw[<-hn] at hs5;try refine ga ?_
       exact D.round (i+1,v5,h5) ⟨by simp only[];omega,hs5⟩ (by simp only[];omega) (by repeat(first|exact Aa.nil|refine Aa.cons rfl ?_)) (Ia.qa inferInstance))
   obtain rfl:i=es.length:=by omega
   rw[take_length] at Sa hle;have ou:=Au key Sa.rs hle;generalize Ya key (es.filter P)=gr at ou⊢;repeat' first|refine ga ?_|refine al λ_=>?_|refine Pg C.enc ?_|refine jf (An.enc ⟨0,false,ya.z,C⟩) ?_|refine cq ou ?_|refine xg An.z.enc (An.enc ⟨0,false,ya.z,C⟩) ?_
   rename_i Ph;refine WX.qd (vs:=(gr.getD ya.z).enc) (b:=Ph) (i:=2) (cs:=An.enc ⟨0,false,ya.z,C⟩) rfl rfl rfl (ya.Cp _) (ya.one _) rfl ?_;rw[An.Zw];try refine ga ?_
   refine ei (An.enc ⟨0,false,gr.getD ya.z,C⟩) (An.enc ⟨0,gr.isSome,gr.getD ya.z,C⟩) ?_;repeat' first|refine ga ?_|refine Pg (An.enc ⟨0,gr.isSome,gr.getD ya.z,C⟩) ?_|refine xg An.z.enc (An.enc ⟨0,gr.isSome,gr.getD ya.z,C⟩) ?_
   exact D.Gc [h] _ rfl (.Va rfl rfl .nil) ⟨rfl,rfl⟩
 .rw[rj k1] at hc1;rw[if_pos (.inl k1)];repeat' first|refine ga ?_|refine bn b4 1 (Qy.enc ⟨key,Uj,_,av,mr⟩) Uj.enc ?_|refine bn b7 0 C.enc C.enc ?_|refine cq hpc ?_|refine cq hc1 ?_
  repeat' first|refine ga ?_|refine jf (An.enc {An.z with code:=91}) ?_|refine xg An.z.enc (An.enc {An.z with code:=91}) ?_
  exact D.Gc [h] _ rfl (.Va rfl rfl .nil) ⟨rfl,rfl⟩
section
variable(n:ua)(b gb hb sb cb d w:Nat)(tn:Int)(vw vo v:Value)(xb:Ob n.c)(Ft:Ke n.c){hv:Hp}(hs:Rs n.c.lg v hv){outs:List Da}{ho:Hp}(Tn:ia 52 outs vo ho)(kz:outs.length<=100000)
include xb Ft hs Tn kz
theorem DR(m:Da):Ct prog 86 [b,.agg (List.toArray m.enc)] [Ca b n gb hb sb vw vo,ho,vb n gb cb d w tn,ta cb n.c v,hv] (jz b n gb hb sb vw (outs++[n.get m]) [vb n gb cb d w tn,ta cb n.c v,hv]):=by
 have k3:=mL xb.co cb v;have k4:=wk xb.co cb v;have k8:=Eo n b gb hb sb cb d w tn vw vo v xb Ft hs;have tg:=xb.len;have Iq:n.Kb.length<=1000000:=by unfold ua.Kb;rw[Oe];omega
 have k9:=ER n.rg (n.query m) (Co n v xb Ft hs) Iq;have Ix:n.c.nd=n.nd:=(Ga.ur n.s).1;rw[Ix] at k3;unfold ua.get;obtain⟨no,hno⟩:∃no:Da,no={Da.z with kind:=6,to:=m.fr,op:=m.op,tr:=m.tr}:=⟨_,rfl⟩;have hnc:∀k,n.no 6 m k={({no with code:=k}:Da) with fr:=n.self}:=λk=>by rw[hno];rfl
 have ks:=λx:Da=>Gh n b gb hb sb vw Tn (by omega) x;obtain⟨q,hq⟩:∃q:Bool,((n.c.last/\n.c.su=false)\/(¬n.c.last/\n.c.st<n.c.du))↔q=true:=⟨decide _,(decide_eq_true_iff).symm⟩;refine ce func86 λg R=>?_;repeat' first|refine Za ?_|refine Uc λ_=>?_|refine al λ_=>?_|refine WX.Ea (i:=1) (cs:=m.enc) (vs:=m.fr.enc) rfl rfl rfl rfl ?_|refine cq k4 ?_|refine jf (Da.enc {Da.z with kind:=6,to:=m.fr,op:=m.op,tr:=m.tr}) ?_|refine xg Da.z.enc (Da.enc {Da.z with kind:=6,to:=m.fr,op:=m.op,tr:=m.tr}) ?_
 rename_i b3 b5;rw[<-hno];by_cases c1:m.ep=n.ep
 .have A0: ¬ ¬m.ep=n.ep:=not_not_intro c1
  cases hf:sk n.c.co n.nd with
  |false=>
   rw[hf] at k3;rw[if_pos (.inr rfl),hnc];refine wq ?_;repeat' first|refine ga ?_|refine cq k3 ?_
   refine ei (Da.enc no) (Da.enc {no with code:=90}) ?_;repeat' first|refine ga ?_|refine Pg (Da.enc {no with code:=90}) ?_
   refine ck (ks {no with code:=90}) ?_;rintro _ _ ⟨rfl,Np,ho',hs',rfl⟩;refine Za ?_
   exact D.fc [Ca b n gb hb sb vw Np,ho',vb n gb cb d w tn,ta cb n.c v,hv] _ rfl ⟨rfl,_,_,hs',rfl⟩
  |true=>
   rw[hf] at k3;rw[if_neg (λh=>h.elim (λh=>h c1) λh=>by cases h)];refine wq ?_;repeat' first|refine ga ?_|refine cq k3 ?_
   refine W.cj (α:=Unit) (λ_=>True) (λ_=>[(0,b),(3,b3),(5,b5),(72,.bool q)]) (λ_=>[Yb b5 no,Yb b3 m,Ca b n gb hb sb vw vo,ho,vb n gb cb d w tn,ta cb n.c v,hv,R]) ?_ ?_
   .obtain⟨su,hsu⟩:∃su,n.c.su=su:=⟨_,rfl⟩;rw[hsu] at hq;by_cases c2:n.c.last
    .obtain rfl:(!su)=q:=by
      cases su
      .exact(hq.1 (.inl ⟨c2,rfl⟩)).symm
      .cases q
       .rfl
       .exact((hq.2 rfl).elim (λh=>by cases h.2) λh=>absurd c2 h.1)
     refine sj ?_;refine WX.as 81 (.bool (!su)) rfl (by rw[<-hsu]) ?_;cases su
     all_goals
      try refine ga ?_
      exact D.aQ () trivial
    .obtain rfl:decide (n.c.st<n.c.du)=q:=by
      cases q
      .exact rj λh=>by cases hq.1 (.inr ⟨c2,h⟩)
      .exact Mi ((hq.2 rfl).elim (λh=>absurd h.1 c2) λh=>h.2)
     refine sj ?_;exact D.aQ () trivial
   rintro⟨⟩ -;try simp only[]
   cases q with
   |true=>
    rw[if_pos (hq.2 rfl),hnc];try refine ga ?_
    refine ei (Da.enc no) (Da.enc {no with code:=92}) ?_;repeat' first|refine ga ?_|refine Pg (Da.enc {no with code:=92}) ?_
    refine ck (ks {no with code:=92}) ?_;rintro _ _ ⟨rfl,Np,ho',hs',rfl⟩;refine Za ?_
    exact D.fc [Ca b n gb hb sb vw Np,ho',vb n gb cb d w tn,ta cb n.c v,hv] _ rfl ⟨rfl,_,_,hs',rfl⟩
   |false=>
    rw[if_neg (λh=>by cases hq.1 h)];generalize Cr n.rg (n.query m) n.Kb=a at k9⊢;try simp only[]
    rw[hnc];try refine ga ?_
    refine W.cj (α:=Nat) (λ_=>True) (λy=>[(0,b),(5,b5),(7,y)]) (λy=>[uz y a,Yb b5 no,Ca b n gb hb sb vw vo,ho,vb n gb cb d w tn,ta cb n.c v,hv,R]) ?_ ?_
    .refine U6 (ml [19,4]) [Yb b3 m,Ca b n gb hb sb vw vo] ?_;repeat' first|refine ga ?_|refine al λ_=>?_|refine WY.lf ?_|refine WY.back ?_|refine vn 0 ?_|refine vn 1 ?_|refine vn 2 ?_|refine vn 3 ?_|refine vn 4 ?_|refine vn 5 ?_|refine vn 6 ?_|refine vn 7 ?_|refine vn 8 ?_|refine vn 9 ?_|refine vn 10 ?_|refine vn 11 ?_|refine vn 12 ?_|refine vn 13 ?_|refine vn 14 ?_|refine vn 15 ?_|refine vn 16 ?_|refine vn 17 ?_|refine vn 18 ?_|refine WY.Cv 19 21 (by decide+kernel) rfl rfl ?_ ?_|refine WY.Cv 20 21 (by decide+kernel) rfl rfl ?_ ?_|refine KM 19 ?_|refine KM 20 ?_|refine KM 21 ?_|refine KM 22 ?_|refine WY.fin (by kernel_rfl) ?_|refine bn b3 52 m.enc m.dp.enc ?_|refine bn b3 61 m.enc m.av.enc ?_|refine bn b 21 (n.mc gb hb sb vw vo) n.mr.enc ?_|refine jf (Qy.enc (n.query m)) ?_|refine cq k8 ?_|refine cq k9 ?_|refine xg An.z.enc a.enc ?_
     all_goals exact D.aQ _ trivial
    rintro b7 -;try simp only[]
    try refine ga ?_
    refine ei (Da.enc no) (Da.enc {no with code:=a.code}) ?_;try refine ga ?_
    refine ei (Da.enc {no with code:=a.code}) (Da.enc {no with code:=a.code,has:=a.has}) ?_;repeat' first|refine ga ?_|refine bn b7 2 a.enc a.en.enc ?_
    refine WX.qd (vs:=a.en.enc) (b:=b5) (i:=27) (cs:=Da.enc {no with code:=a.code,has:=a.has}) rfl rfl rfl (ya.Cp _) (ya.one _) rfl ?_;rw[Da.aY];repeat' first|refine ga ?_|refine bn b7 22 a.enc a.col.enc ?_
    refine WX.qd (vs:=a.col.enc) (b:=b5) (i:=70) (cs:=Da.enc {no with code:=a.code,has:=a.has,en:=a.en}) rfl rfl rfl rfl rfl rfl ?_;rw[Da.bY];repeat' first|refine ga ?_|refine Pg (Da.enc {no with code:=a.code,has:=a.has,en:=a.en,c0:=a.col.a,c1:=a.col.b,c2:=a.col.c}) ?_
    refine ck (ks {no with code:=a.code,has:=a.has,en:=a.en,c0:=a.col.a,c1:=a.col.b,c2:=a.col.c}) ?_;rintro _ _ ⟨rfl,Np,ho',hs',rfl⟩;refine Za ?_;exact D.fc [Ca b n gb hb sb vw Np,ho',vb n gb cb d w tn,ta cb n.c v,hv] _ rfl ⟨rfl,_,_,hs',rfl⟩
 .rw[if_pos (.inl c1),hnc];refine sj ?_;refine ei (Da.enc no) (Da.enc {no with code:=90}) ?_;repeat' first|refine ga ?_|refine Pg (Da.enc {no with code:=90}) ?_
  refine ck (ks {no with code:=90}) ?_;rintro _ _ ⟨rfl,Np,ho',hs',rfl⟩;refine Za ?_;exact D.fc [Ca b n gb hb sb vw Np,ho',vb n gb cb d w tn,ta cb n.c v,hv] _ rfl ⟨rfl,_,_,hs',rfl⟩
end
end Go.Proofs.YthebagfahkebiaaGreat
