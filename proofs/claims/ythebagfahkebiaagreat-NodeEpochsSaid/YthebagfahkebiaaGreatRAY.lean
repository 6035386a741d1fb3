/- Texts of one road. -/
import Derived.Test.YthebagfahkebiaaGreatRAX
set_option linter.all false
set_option maxHeartbeats 8000000
set_option maxRecDepth 20000
namespace Go.Proofs.YthebagfahkebiaaGreat
open Go Go.Sl Go.Proofs.Tryz List
variable{es:List ya}{h:Hp}
def YF(c:V3)(e:ya):Ct prog 111 [.agg (List.toArray c.enc),.agg (List.toArray [e.dc,e.rg,e.sq])] [] (λr H'=>r= .bool (decide (Kj c e))/\H'=[]):=by
 refine ce func111 λg R=>?_;repeat' first|refine Za ?_|refine Uc λ_=>?_
 rename_i b2 b3;refine wq ?_;by_cases h1:0<=e.rg<;>by_cases h2:e.rg<3<;>by_cases h3:0<=e.dc<;>by_cases h4:e.dc<3;all_goals try(exfalso;omega)
 .have hg:c.enc[0+e.dc.toNat*1]? =some (.int .i64 (c.at e.dc.toNat)):=by rw[show 0+e.dc.toNat*1=e.dc.toNat by omega,V3.Wd _ (by omega)]
  have hi:decide (Kj c e)=decide (e.sq<=c.at e.dc.toNat):=by simp[Kj,h1,h2,h3,h4]
  rw[hi];repeat' first|refine ga ?_|refine lN c.enc _ rfl ?_ (hc:=hg)
  exact Wi []
 all_goals
  rw[rj (λh:Kj c e=>by obtain⟨⟨a1,a2,a3,a4⟩,-⟩:=h;omega)];try refine ga ?_
  exact Wi []
def KY(a b:ya):cW a b=decide (0<NK [Vl a b,fm a.sq b.sq]):=by
 unfold cW NK NK NK;split
 .rfl
 .split
  .rfl
  .rename_i h;rw[Classical.not_not.1 h]
def Jr{key:ByteArray}{k:Nat}{e:ya}(h:es[k]? =some e):Ya key (es.take (k+1))=Vw key (Ya key (es.take k)) e:=by
 unfold Ya;rw[take_add_one,h,foldl_append];rfl
def Yw(key:ByteArray){v:Value}(hs:Rs es v h)(hl:es.length<=1000000):Ct prog 112 [.string key,v] [h] (λr H'=>r= .tuple #[.agg (List.toArray ((Ya key es).getD ya.z).enc),.bool (Ya key es).isSome]/\H'=[h]):=by
 obtain⟨pv,cv,rfl⟩:=hs.len;refine ce func112 λg R=>?_;repeat' first|refine Za ?_|refine al λ_=>?_
 rename_i b4 b6;refine W.h0 [Gb b6 ((Ya key (es.take 0)).getD ya.z),Gb b4 ya.z,h,R] ?_
 refine W.lo (α:=Nat) (λk=>k<=es.length)
  (λk=>[(0,.string key),(4,b4),(6,b6),(7,.bool (Ya key (es.take k)).isSome),(10,.slice pv es.length cv),(11,.int .i64 (es.length:Int)),(12,.int .i64 (k:Int))])
  (λk=>[Gb b6 ((Ya key (es.take k)).getD ya.z),Gb b4 ya.z,h,R]) (λk=>es.length - k) 0 (di _) ?_
 intro k hk;by_cases hlt:k<es.length
 .obtain⟨e,he⟩:=Lh hlt;have hn:=Jr (key:=key) he;generalize Ya key (es.take k)=o at hn⊢;by_cases ck:e.key=key
  .rw[show Vw key o e=_ from if_pos ck] at hn;have VA: ¬ ¬e.key=key:=not_not_intro ck
   cases o with
   |none=>
    repeat' first|refine ga ?_|refine al λ_=>?_|refine Vx hs he ?_|refine xg ya.z.enc e.enc ?_
    rename_i b9;refine Wp (ml [7,1,6,3,2]) [Gb b9 e,Gb b6 ((none:Option ya).getD ya.z)] ?_;repeat' first|refine ga ?_|refine Pg e.enc ?_|refine xg ((none:Option ya).getD ya.z).enc e.enc ?_
    refine D.as 7 (.bool (Ya key (es.take (k+1))).isSome) rfl (by rw[hn];rfl) ?_;refine D.hp (H':=[Gb b9 e,Gb b6 ((Ya key (es.take (k+1))).getD ya.z),Gb b4 ya.z,h,R]) (by rw[hn];rfl) ?_
    exact D.re (k+1)
   |some y=>
    have hc1:=BN e y;have hc2:=Mo e.sq y.sq;have hgt:=KY e y;have hn:Ya key (es.take (k+1))=if cW e y=true then some e else some y:=hn
    rw[hgt] at hn;generalize Vl e y=c1 at hc1 hgt hn;generalize fm e.sq y.sq=c2 at hc2 hgt hn;by_cases hg:0<NK [c1,c2]
    .rw[Mi hg] at hn;repeat' first|refine ga ?_|refine al λ_=>?_|refine Vx hs he ?_|refine xg ya.z.enc e.enc ?_
     rename_i b9;refine Wp (ml [7,1,6,3,2]) [Gb b9 e,Gb b6 ((some y:Option ya).getD ya.z)] ?_;repeat' first|refine ga ?_|refine bn b9 3 e.enc [e.ct,e.sd,e.sr] ?_|refine bn b6 3 y.enc [y.ct,y.sd,y.sr] ?_|refine Pg e.enc ?_|refine cq hc1 ?_|refine cq hc2 ?_|refine cq (OS (xs:=[c1,c2]) (by assumption) (by simp only[Ib,td];omega)) ?_|(refine I.bs ?_;refine Up [c1,c2] (λv7 h7 Gn=>?_);have hr7:=Gn.rs)|refine xg ((some y:Option ya).getD ya.z).enc e.enc ?_
     refine D.as 7 (.bool (Ya key (es.take (k+1))).isSome) rfl (by rw[hn];rfl) ?_;refine D.hp (H':=[h7,Gb b9 e,Gb b6 ((Ya key (es.take (k+1))).getD ya.z),Gb b4 ya.z,h,R]) (by rw[hn];rfl) ?_;exact D.re (k+1)
    .rw[rj hg] at hn;repeat' first|refine ga ?_|refine al λ_=>?_|refine Vx hs he ?_|refine xg ya.z.enc e.enc ?_
     rename_i b9;refine Wp (ml [7,1,6,3,2]) [Gb b9 e,Gb b6 ((some y:Option ya).getD ya.z)] ?_;repeat' first|refine ga ?_|refine bn b9 3 e.enc [e.ct,e.sd,e.sr] ?_|refine bn b6 3 y.enc [y.ct,y.sd,y.sr] ?_|refine cq hc1 ?_|refine cq hc2 ?_|refine cq (OS (xs:=[c1,c2]) (by assumption) (by simp only[Ib,td];omega)) ?_|(refine I.bs ?_;refine Up [c1,c2] (λv7 h7 Gn=>?_);have hr7:=Gn.rs)
     refine D.as 7 (.bool (Ya key (es.take (k+1))).isSome) rfl (by rw[hn];rfl) ?_;refine D.hp (H':=[h7,Gb b9 e,Gb b6 ((Ya key (es.take (k+1))).getD ya.z),Gb b4 ya.z,h,R]) (by rw[hn];rfl) ?_;exact D.re (k+1)
  .rw[show Vw key o e=o from if_neg ck] at hn;repeat' first|refine ga ?_|refine al λ_=>?_|refine Vx hs he ?_|refine xg ya.z.enc e.enc ?_
   rw[<-hn];exact D.re (k+1)
 .obtain rfl:k=es.length:=by omega
  rw[take_length];generalize Ya key es=o;repeat' first|refine ga ?_|refine Xf (o.getD ya.z).enc (o.getD ya.z).enc ?_|refine xg ya.z.enc (o.getD ya.z).enc ?_
  exact D.Bg [h] _ rfl (.Va rfl rfl (.tmp rfl .nil)) rfl ⟨rfl,rfl⟩
abbrev mw(b:Nat)(q:Qy):Hp:=[(b,.cells (List.toArray q.enc) 82 (0,0))]
abbrev uz(b:Nat)(a:An):Hp:=[(b,.cells (List.toArray a.enc) 85 (0,0))]
def An.Zw(k:Int)(b:Bool)(e e':ya)(c:V3):setAt (An.enc ⟨k,b,e,c⟩) 2 e'.enc=An.enc ⟨k,b,e',c⟩:=by
 have h1:An.enc ⟨k,b,e,c⟩=([.int .i64 k,.bool b]++e.enc)++c.enc:=rfl;rw[h1,yc _ _ _ _ (Nat.le_refl 22),Vf e'.enc e.enc 2 [.int .i64 k,.bool b] rfl rfl];rfl
def ZS(rg:Int)(q:Qy){v:Value}(hs:Rs es v h)(hl:es.length<=1000000):Ct prog 35 [rg,.agg (List.toArray q.enc),v] [h] (λr H'=>r= .agg (List.toArray (Cr rg q es).enc)/\H'=[h]):=by
 have je:=Bn rg hs hl;have hpa:=xG q.av rg;have hpc:=xG q.Uj rg;have hc1:=Xx (Bc rg es) (og q.Uj rg);have hc2:=Xx (Bc rg es) (og q.av rg);have aT:=Xx (og q.av rg) q.mr;obtain⟨pv,cv,rfl⟩:=hs.len;obtain⟨key,Uj,snap,av,mr⟩:=q;unfold Cr;simp only[] at hpa hpc hc1 hc2 aT⊢;generalize hC:Bc rg es=C at*;generalize hA:og av rg=A at*;refine ce func35 λg R=>?_;repeat' first|refine Za ?_|refine Uc λ_=>?_|refine al λ_=>?_
 rename_i b4 b6;refine W.h0 [uz b6 An.z,mw b4 ⟨key,Uj,snap,av,mr⟩,h,R] ?_;refine W.cj (α:=Nat×Nat) (λ_=>True) (λb=>[(0,rg),(2,.slice pv es.length cv),(4,b4),(6,b6),(7,.pointer (some ⟨b.1,0,none⟩)),(8,.pointer (some ⟨b.2,0,none⟩))]) (λb=>[Mc b.1 C,Mc b.2 A,uz b6 An.z,mw b4 ⟨key,Uj,snap,av,mr⟩,h,R]) ?_ ?_
 .refine U6 (ml [2,1,3,3]) [mw b4 ⟨key,Uj,snap,av,mr⟩] ?_;repeat' first|refine ga ?_|refine al λ_=>?_|refine WY.lf ?_|refine WY.back ?_|refine vn 0 ?_|refine vn 1 ?_|refine vn 3 ?_|refine vn 4 ?_|refine vn 5 ?_|refine WY.an3 2 7 8 (by decide+kernel) rfl rfl rfl ?_ ?_ ?_|refine WY.an3 6 7 8 (by decide+kernel) rfl rfl rfl ?_ ?_ ?_|refine WY.Cv 7 8 (by decide+kernel) rfl rfl ?_ ?_|refine WY.Cv 6 8 (by decide+kernel) rfl rfl ?_ ?_|refine WY.Cv 6 7 (by decide+kernel) rfl rfl ?_ ?_|refine WY.Cv 2 8 (by decide+kernel) rfl rfl ?_ ?_|refine WY.Cv 2 7 (by decide+kernel) rfl rfl ?_ ?_|refine KM 2 ?_|refine KM 6 ?_|refine KM 7 ?_|refine KM 8 ?_|refine WY.fin (by kernel_rfl) ?_|refine bn b4 11 (Qy.enc ⟨key,Uj,snap,av,mr⟩) av.enc ?_|refine cq je ?_|refine cq hpa ?_
  all_goals
   refine xg V3.z.enc C.enc ?_;refine xg V3.z.enc A.enc ?_;refine WX.nil ?_;exact D.aQ (_,_) trivial
 .rintro⟨b7,b8⟩ -;simp only[];try refine ga ?_
  refine Wp (ml [4,2,7,1,4]) [Mc b7 C,Mc b8 A,mw b4 ⟨key,Uj,snap,av,mr⟩] ?_;obtain⟨P,hP⟩:∃P:ya->Bool,P=λe=>decide (e.rg=rg/\(snap=false\/Kj A e)):=⟨_,rfl⟩;rw[<-hP];by_cases k1:Lt C (og Uj rg)
  .rw[Mi k1] at hc1
   cases snap with
   |true=>
    by_cases k2:Lt C A
    .rw[Mi k2] at hc2;by_cases k3:Lt A mr
     .rw[Mi k3] at aT;rw[if_neg (λh=>h.elim (λh=>h k1) λh=>h.2 k2),if_neg λh=>h.2 k3];repeat' first|refine ga ?_|refine bn b4 1 (Qy.enc ⟨key,Uj,_,av,mr⟩) Uj.enc ?_|refine bn b4 20 (Qy.enc ⟨key,Uj,_,av,mr⟩) mr.enc ?_|refine bn b7 0 C.enc C.enc ?_|refine bn b8 0 A.enc A.enc ?_|refine cq hpc ?_|refine cq hc1 ?_|refine cq hc2 ?_|refine cq aT ?_
      refine W.lo (α:=Nat×Value×Hp) (λx=>x.1<=es.length/\ia 49 ((es.take x.1).filter P) x.2.1 x.2.2) (λx=>[(0,rg),(4,b4),(6,b6),(7,b7),(8,b8),(9,x.2.1),(50,.slice pv es.length cv),(51,.int .i64 (es.length:Int)),(52,.int .i64 (x.1:Int))])
       (λx=>[x.2.2,Mc b7 C,Mc b8 A,uz b6 An.z,mw b4 ⟨key,Uj,true,av,mr⟩,h,R]) (λx=>es.length - x.1) (0,.slice none 0 0,[]) ⟨di _,ia.nil _⟩ ?_
      rintro⟨i,v2,h2⟩ ⟨hi,Sa⟩;simp only[] at hi Sa⊢;have hle:((es.take i).filter P).length<=1000000:=by have:=length_filter_le P (es.take i);rw[Oe] at this;omega
      by_cases hlt:i<es.length
      .obtain⟨e,hx⟩:=Lh hlt;have hw:=YF A e
       have hn:(es.take (i+1)).filter P=(es.take i).filter P++(if P e=true then[e] else[]):=by
        rw[take_add_one,hx,filter_append];congr 1;cases hp:P e<;>simp[hp]
       generalize(es.take i).filter P=l at Sa hn hle;have bT:P e=decide (e.rg=rg/\(true=false\/Kj A e)):=by rw[hP]
       cases hp:P e with
       |true=>
        rw[hp,if_pos rfl] at hn;rw[bT] at hp;have hp:=of_decide_eq_true hp;by_cases hg:e.rg=rg<;>by_cases hi:Kj A e;all_goals try(exfalso;first|exact hg hp.1|exact hp.2.elim (λh=>absurd h (by decide)) hi)
        all_goals
         first|rw[Mi hi] at hw|rw[rj hi] at hw
         repeat' first|refine ga ?_|refine al λ_=>?_|refine Vx hs hx ?_|refine Pg A.enc ?_|refine lA (cs:=e.enc) (vs:=[e.dc,e.rg,e.sq]) rfl ?_|refine Pg e.enc ?_|refine xg ya.z.enc e.enc ?_|refine cq hw ?_
         refine Up [e] (λv4 h4 hs4=>?_);refine Jt (zb:=by simp only[Ib,td];omega) Sa hs4.rs (λv5 h5 hs5=>?_);rw[<-hn] at hs5;try refine ga ?_
         exact D.rd (i+1,v5,h5) ⟨by simp only[];omega,hs5⟩ (by simp only[];omega)
       |false=>
        rw[hp,if_neg (by decide),append_nil] at hn;rw[bT] at hp;have hp:=of_decide_eq_false hp;by_cases hg:e.rg=rg<;>by_cases hi:Kj A e;all_goals try(exfalso;first|exact hp ⟨hg,.inr hi⟩|exact hp ⟨hg,.inl rfl⟩)
        all_goals
         first|rw[Mi hi] at hw|rw[rj hi] at hw
         repeat' first|refine ga ?_|refine al λ_=>?_|refine Vx hs hx ?_|refine Pg A.enc ?_|refine lA (cs:=e.enc) (vs:=[e.dc,e.rg,e.sq]) rfl ?_|refine xg ya.z.enc e.enc ?_|refine cq hw ?_
         exact D.rd (i+1,v2,h2) ⟨by simp only[];omega,by rw[hn];exact Sa⟩ (by simp only[];omega)
      obtain rfl:i=es.length:=by omega
      rw[take_length] at Sa hle;have ou:=Yw key Sa.rs hle;generalize Ya key (es.filter P)=gr at ou⊢;repeat' first|refine ga ?_|refine al λ_=>?_|refine Pg C.enc ?_|refine jf (An.enc ⟨0,false,ya.z,C⟩) ?_|refine cq ou ?_|refine xg An.z.enc (An.enc ⟨0,false,ya.z,C⟩) ?_
      rename_i Ph;refine WX.qd (vs:=(gr.getD ya.z).enc) (b:=Ph) (i:=2) (cs:=An.enc ⟨0,false,ya.z,C⟩) rfl rfl rfl (ya.Cp _) (ya.one _) rfl ?_;rw[An.Zw];try refine ga ?_
      refine ei (An.enc ⟨0,false,gr.getD ya.z,C⟩) (An.enc ⟨0,gr.isSome,gr.getD ya.z,C⟩) ?_;repeat' first|refine ga ?_|refine Pg (An.enc ⟨0,gr.isSome,gr.getD ya.z,C⟩) ?_|refine xg An.z.enc (An.enc ⟨0,gr.isSome,gr.getD ya.z,C⟩) ?_
      exact D.Gc [h] _ rfl (.Va rfl rfl .nil) ⟨rfl,rfl⟩
     .rw[rj k3] at aT;rw[if_neg (λh=>h.elim (λh=>h k1) λh=>h.2 k2),if_pos ⟨rfl,k3⟩];repeat' first|refine ga ?_|refine bn b4 1 (Qy.enc ⟨key,Uj,_,av,mr⟩) Uj.enc ?_|refine bn b4 20 (Qy.enc ⟨key,Uj,_,av,mr⟩) mr.enc ?_|refine bn b7 0 C.enc C.enc ?_|refine bn b8 0 A.enc A.enc ?_|refine cq hpc ?_|refine cq hc1 ?_|refine cq hc2 ?_|refine cq aT ?_
      repeat' first|refine ga ?_|refine jf (An.enc {An.z with code:=60}) ?_|refine xg An.z.enc (An.enc {An.z with code:=60}) ?_
      exact D.Gc [h] _ rfl (.Va rfl rfl .nil) ⟨rfl,rfl⟩
    .rw[rj k2] at hc2;rw[if_pos (.inr ⟨rfl,k2⟩)];repeat' first|refine ga ?_|refine bn b4 1 (Qy.enc ⟨key,Uj,_,av,mr⟩) Uj.enc ?_|refine bn b7 0 C.enc C.enc ?_|refine bn b8 0 A.enc A.enc ?_|refine cq hpc ?_|refine cq hc1 ?_|refine cq hc2 ?_
     repeat' first|refine ga ?_|refine jf (An.enc {An.z with code:=91}) ?_|refine xg An.z.enc (An.enc {An.z with code:=91}) ?_
     exact D.Gc [h] _ rfl (.Va rfl rfl .nil) ⟨rfl,rfl⟩
   |false=>
    rw[if_neg (λh=>h.elim (λh=>h k1) λh=>absurd h.1 (by decide)),if_neg λh=>absurd h.1 (by decide)];repeat' first|refine ga ?_|refine bn b4 1 (Qy.enc ⟨key,Uj,_,av,mr⟩) Uj.enc ?_|refine bn b7 0 C.enc C.enc ?_|refine cq hpc ?_|refine cq hc1 ?_
    refine W.lo (α:=Nat×Value×Hp) (λx=>x.1<=es.length/\ia 49 ((es.take x.1).filter P) x.2.1 x.2.2) (λx=>[(0,rg),(4,b4),(6,b6),(7,b7),(8,b8),(9,x.2.1),(50,.slice pv es.length cv),(51,.int .i64 (es.length:Int)),(52,.int .i64 (x.1:Int))])
     (λx=>[x.2.2,Mc b7 C,Mc b8 A,uz b6 An.z,mw b4 ⟨key,Uj,false,av,mr⟩,h,R]) (λx=>es.length - x.1) (0,.slice none 0 0,[]) ⟨di _,ia.nil _⟩ ?_
    rintro⟨i,v2,h2⟩ ⟨hi,Sa⟩;simp only[] at hi Sa⊢;have hle:((es.take i).filter P).length<=1000000:=by have:=length_filter_le P (es.take i);rw[Oe] at this;omega
    by_cases hlt:i<es.length
    .obtain⟨e,hx⟩:=Lh hlt;have hw:=YF A e
     have hn:(es.take (i+1)).filter P=(es.take i).filter P++(if P e=true then[e] else[]):=by
      rw[take_add_one,hx,filter_append];congr 1;cases hp:P e<;>simp[hp]
     generalize(es.take i).filter P=l at Sa hn hle;have bT:P e=decide (e.rg=rg/\(false=false\/Kj A e)):=by rw[hP]
     cases hp:P e with
     |true=>
      rw[hp,if_pos rfl] at hn;rw[bT] at hp;have hp:=of_decide_eq_true hp;by_cases hg:e.rg=rg<;>by_cases hi:Kj A e;all_goals try(exfalso;first|exact hg hp.1|exact hp.2.elim (λh=>absurd h (by decide)) hi)
      all_goals
       first|rw[Mi hi] at hw|rw[rj hi] at hw
       repeat' first|refine ga ?_|refine al λ_=>?_|refine Vx hs hx ?_|refine Pg e.enc ?_|refine xg ya.z.enc e.enc ?_
       refine Up [e] (λv4 h4 hs4=>?_);refine Jt (zb:=by simp only[Ib,td];omega) Sa hs4.rs (λv5 h5 hs5=>?_);rw[<-hn] at hs5;try refine ga ?_
       exact D.rd (i+1,v5,h5) ⟨by simp only[];omega,hs5⟩ (by simp only[];omega)
     |false=>
      rw[hp,if_neg (by decide),append_nil] at hn;rw[bT] at hp;have hp:=of_decide_eq_false hp;by_cases hg:e.rg=rg<;>by_cases hi:Kj A e;all_goals try(exfalso;first|exact hp ⟨hg,.inr hi⟩|exact hp ⟨hg,.inl rfl⟩)
      all_goals
       first|rw[Mi hi] at hw|rw[rj hi] at hw
       repeat' first|refine ga ?_|refine al λ_=>?_|refine Vx hs hx ?_|refine xg ya.z.enc e.enc ?_
       exact D.rd (i+1,v2,h2) ⟨by simp only[];omega,by rw[hn];exact Sa⟩ (by simp only[];omega)
    obtain rfl:i=es.length:=by omega
    rw[take_length] at Sa hle;have ou:=Yw key Sa.rs hle;generalize Ya key (es.filter P)=gr at ou⊢;repeat' first|refine ga ?_|refine al λ_=>?_|refine Pg C.enc ?_|refine jf (An.enc ⟨0,false,ya.z,C⟩) ?_|refine cq ou ?_|refine xg An.z.enc (An.enc ⟨0,false,ya.z,C⟩) ?_
    rename_i Ph;refine WX.qd (vs:=(gr.getD ya.z).enc) (b:=Ph) (i:=2) (cs:=An.enc ⟨0,false,ya.z,C⟩) rfl rfl rfl (ya.Cp _) (ya.one _) rfl ?_;rw[An.Zw];try refine ga ?_
    refine ei (An.enc ⟨0,false,gr.getD ya.z,C⟩) (An.enc ⟨0,gr.isSome,gr.getD ya.z,C⟩) ?_;repeat' first|refine ga ?_|refine Pg (An.enc ⟨0,gr.isSome,gr.getD ya.z,C⟩) ?_|refine xg An.z.enc (An.enc ⟨0,gr.isSome,gr.getD ya.z,C⟩) ?_
    exact D.Gc [h] _ rfl (.Va rfl rfl .nil) ⟨rfl,rfl⟩
  .rw[rj k1] at hc1;rw[if_pos (.inl k1)];repeat' first|refine ga ?_|refine bn b4 1 (Qy.enc ⟨key,Uj,_,av,mr⟩) Uj.enc ?_|refine bn b7 0 C.enc C.enc ?_|refine cq hpc ?_|refine cq hc1 ?_
   repeat' first|refine ga ?_|refine jf (An.enc {An.z with code:=91}) ?_|refine xg An.z.enc (An.enc {An.z with code:=91}) ?_
   exact D.Gc [h] _ rfl (.Va rfl rfl .nil) ⟨rfl,rfl⟩
end Go.Proofs.YthebagfahkebiaaGreat
