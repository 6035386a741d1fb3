/- Texts of one road. -/
import Derived.Test.YthebagfahkebiaaGreatQAX
set_option linter.all false
set_option maxHeartbeats 8000000
set_option maxRecDepth 20000
namespace Go.Proofs.YthebagfahkebiaaGreat
open Go Go.Sl Go.Proofs.Tryz List
variable{es:List ya}{h:Hp}
def RF(c:V3)(e:ya):Ct prog 111 [.agg (List.toArray c.enc),.agg (List.toArray [e.dc,e.rg,e.sq])] [] (λr H'=>r= .bool (decide (Nk c e))/\H'=[]):=by
 refine ce func111 λg R=>?_;repeat' first|refine vb ?_|refine Ud λ_=>?_
 rename_i b2 b3;refine wq ?_;by_cases h1:0<=e.rg<;>by_cases h2:e.rg<3<;>by_cases h3:0<=e.dc<;>by_cases h4:e.dc<3;all_goals try(exfalso;omega)
 .have hg:c.enc[0+e.dc.toNat*1]? =some (.int .i64 (c.at e.dc.toNat)):=by rw[show 0+e.dc.toNat*1=e.dc.toNat by omega,V3.Vd _ (by omega)]
  have hi:decide (Nk c e)=decide (e.sq<=c.at e.dc.toNat):=by simp[Nk,h1,h2,h3,h4]
  rw[hi];repeat' first|refine ga ?_|refine lN c.enc _ rfl ?_ (hc:=hg)
  exact vj []
 all_goals
  rw[gj (λh:Nk c e=>by obtain⟨⟨a1,a2,a3,a4⟩,-⟩:=h;omega)];try refine ga ?_
  exact vj []
def IY(a b:ya):WV a b=decide (0<xK [Ql a b,Xl a.sq b.sq]):=by
 unfold WV xK xK xK;split
 .rfl
 .split
  .rfl
  .rename_i h;rw[Classical.not_not.1 h]
def Yq{key:ByteArray}{k:Nat}{e:ya}(h:es[k]? =some e):jb key (es.take (k+1))=NF key (jb key (es.take k)) e:=by
 unfold jb;rw[take_add_one,h,foldl_append];rfl
def Kw(key:ByteArray){v:Value}(hs:Rs es v h)(hl:es.length<=1000000):Ct prog 112 [.string key,v] [h] (λr H'=>r= .tuple #[.agg (List.toArray ((jb key es).getD ya.z).enc),.bool (jb key es).isSome]/\H'=[h]):=by
 obtain⟨pv,cv,rfl⟩:=hs.len;refine ce func112 λg R=>?_;repeat' first|refine vb ?_|refine al λ_=>?_
 rename_i b4 b6;refine W.h0 [Fb b6 ((jb key (es.take 0)).getD ya.z),Fb b4 ya.z,h,R] ?_
 refine W.lo (α:=Nat) (λk=>k<=es.length)
  (λk=>[(0,.string key),(4,b4),(6,b6),(7,.bool (jb key (es.take k)).isSome),(10,.slice pv es.length cv),(11,.int .i64 (es.length:Int)),(12,.int .i64 (k:Int))])
  (λk=>[Fb b6 ((jb key (es.take k)).getD ya.z),Fb b4 ya.z,h,R]) (λk=>es.length - k) 0 (Gi _) ?_
 intro k hk;by_cases hlt:k<es.length
 .obtain⟨e,he⟩:=Sh hlt;have hn:=Yq (key:=key) he;generalize jb key (es.take k)=o at hn⊢;by_cases ck:e.key=key
  .rw[show NF key o e=_ from if_pos ck] at hn;have VA: ¬ ¬e.key=key:=not_not_intro ck
   cases o with
   |none=>
    repeat' first|refine ga ?_|refine al λ_=>?_|refine rG hs he ?_|refine nh ya.z.enc e.enc ?_
    rename_i b9;refine Ns (ml [7,1,6,3,2]) [Fb b9 e,Fb b6 ((none:Option ya).getD ya.z)] ?_;repeat' first|refine ga ?_|refine yj e.enc ?_|refine nh ((none:Option ya).getD ya.z).enc e.enc ?_
    refine D.as 7 (.bool (jb key (es.take (k+1))).isSome) rfl (by rw[hn];rfl) ?_;refine D.hp (H':=[Fb b9 e,Fb b6 ((jb key (es.take (k+1))).getD ya.z),Fb b4 ya.z,h,R]) (by rw[hn];rfl) ?_
    exact D.re (k+1)
   |some y=>
    have hc1:=kN e y;have hc2:=Ao e.sq y.sq;have hgt:=IY e y;have hn:jb key (es.take (k+1))=if WV e y=true then some e else some y:=hn
    rw[hgt] at hn;generalize Ql e y=c1 at hc1 hgt hn;generalize Xl e.sq y.sq=c2 at hc2 hgt hn;by_cases hg:0<xK [c1,c2]
    .rw[Fi hg] at hn;repeat' first|refine ga ?_|refine al λ_=>?_|refine rG hs he ?_|refine nh ya.z.enc e.enc ?_
     rename_i b9;refine Ns (ml [7,1,6,3,2]) [Fb b9 e,Fb b6 ((some y:Option ya).getD ya.z)] ?_;repeat' first|refine ga ?_|refine Xm b9 3 e.enc [e.ct,e.sd,e.sr] ?_|refine Xm b6 3 y.enc [y.ct,y.sd,y.sr] ?_|refine yj e.enc ?_|refine cq hc1 ?_|refine cq hc2 ?_|refine cq (HS (xs:=[c1,c2]) (by assumption) (by simp only[Gb,jd];omega)) ?_|(refine I.bs ?_;refine Kp [c1,c2] (λv7 h7 Cn=>?_);have hr7:=Cn.rs)|refine nh ((some y:Option ya).getD ya.z).enc e.enc ?_
     refine D.as 7 (.bool (jb key (es.take (k+1))).isSome) rfl (by rw[hn];rfl) ?_;refine D.hp (H':=[h7,Fb b9 e,Fb b6 ((jb key (es.take (k+1))).getD ya.z),Fb b4 ya.z,h,R]) (by rw[hn];rfl) ?_;exact D.re (k+1)
    .rw[gj hg] at hn;repeat' first|refine ga ?_|refine al λ_=>?_|refine rG hs he ?_|refine nh ya.z.enc e.enc ?_
     rename_i b9;refine Ns (ml [7,1,6,3,2]) [Fb b9 e,Fb b6 ((some y:Option ya).getD ya.z)] ?_;repeat' first|refine ga ?_|refine Xm b9 3 e.enc [e.ct,e.sd,e.sr] ?_|refine Xm b6 3 y.enc [y.ct,y.sd,y.sr] ?_|refine cq hc1 ?_|refine cq hc2 ?_|refine cq (HS (xs:=[c1,c2]) (by assumption) (by simp only[Gb,jd];omega)) ?_|(refine I.bs ?_;refine Kp [c1,c2] (λv7 h7 Cn=>?_);have hr7:=Cn.rs)
     refine D.as 7 (.bool (jb key (es.take (k+1))).isSome) rfl (by rw[hn];rfl) ?_;refine D.hp (H':=[h7,Fb b9 e,Fb b6 ((jb key (es.take (k+1))).getD ya.z),Fb b4 ya.z,h,R]) (by rw[hn];rfl) ?_;exact D.re (k+1)
  .rw[show NF key o e=o from if_neg ck] at hn;repeat' first|refine ga ?_|refine al λ_=>?_|refine rG hs he ?_|refine nh ya.z.enc e.enc ?_
   rw[<-hn];exact D.re (k+1)
 .obtain rfl:k=es.length:=by omega
  rw[take_length];generalize jb key es=o;repeat' first|refine ga ?_|refine Of (o.getD ya.z).enc (o.getD ya.z).enc ?_|refine nh ya.z.enc (o.getD ya.z).enc ?_
  exact D.yg [h] _ rfl (.Ua rfl rfl (.tmp rfl .nil)) rfl ⟨rfl,rfl⟩
abbrev Qv(b:Nat)(q:Qy):Hp:=[(b,.cells (List.toArray q.enc) 82 (0,0))]
abbrev Yy(b:Nat)(a:An):Hp:=[(b,.cells (List.toArray a.enc) 85 (0,0))]
def An.Lw(k:Int)(b:Bool)(e e':ya)(c:V3):setAt (An.enc ⟨k,b,e,c⟩) 2 e'.enc=An.enc ⟨k,b,e',c⟩:=by
 have h1:An.enc ⟨k,b,e,c⟩=([.int .i64 k,.bool b]++e.enc)++c.enc:=rfl;rw[h1,tc _ _ _ _ (Nat.le_refl 22),Sf e'.enc e.enc 2 [.int .i64 k,.bool b] rfl rfl];rfl
def SS(rg:Int)(q:Qy){v:Value}(hs:Rs es v h)(hl:es.length<=1000000):Ct prog 35 [rg,.agg (List.toArray q.enc),v] [h] (λr H'=>r= .agg (List.toArray (Xy rg q es).enc)/\H'=[h]):=by
 have ee:=Yj rg hs hl;have hpa:=tG q.av rg;have hpc:=tG q.Rj rg;have hc1:=Ix (ic rg es) (ug q.Rj rg);have hc2:=Ix (ic rg es) (ug q.av rg);have TS:=Ix (ug q.av rg) q.mr;obtain⟨pv,cv,rfl⟩:=hs.len;obtain⟨key,Rj,snap,av,mr⟩:=q;unfold Xy;simp only[] at hpa hpc hc1 hc2 TS⊢;generalize hC:ic rg es=C at*;generalize hA:ug av rg=A at*;refine ce func35 λg R=>?_;repeat' first|refine vb ?_|refine Ud λ_=>?_|refine al λ_=>?_
 rename_i b4 b6;refine W.h0 [Yy b6 An.z,Qv b4 ⟨key,Rj,snap,av,mr⟩,h,R] ?_;refine W.gi (α:=Nat×Nat) (λ_=>True) (λb=>[(0,rg),(2,.slice pv es.length cv),(4,b4),(6,b6),(7,.pointer (some ⟨b.1,0,none⟩)),(8,.pointer (some ⟨b.2,0,none⟩))]) (λb=>[Ac b.1 C,Ac b.2 A,Yy b6 An.z,Qv b4 ⟨key,Rj,snap,av,mr⟩,h,R]) ?_ ?_
 .refine w6 (ml [2,1,3,3]) [Qv b4 ⟨key,Rj,snap,av,mr⟩] ?_;repeat' first|refine ga ?_|refine al λ_=>?_|refine WY.Se ?_|refine WY.back ?_|refine Uk 0 ?_|refine Uk 1 ?_|refine Uk 3 ?_|refine Uk 4 ?_|refine Uk 5 ?_|refine WY.an3 2 7 8 (by decide+kernel) rfl rfl rfl ?_ ?_ ?_|refine WY.an3 6 7 8 (by decide+kernel) rfl rfl rfl ?_ ?_ ?_|refine WY.Ts 7 8 (by decide+kernel) rfl rfl ?_ ?_|refine WY.Ts 6 8 (by decide+kernel) rfl rfl ?_ ?_|refine WY.Ts 6 7 (by decide+kernel) rfl rfl ?_ ?_|refine WY.Ts 2 8 (by decide+kernel) rfl rfl ?_ ?_|refine WY.Ts 2 7 (by decide+kernel) rfl rfl ?_ ?_|refine uK 2 ?_|refine uK 6 ?_|refine uK 7 ?_|refine uK 8 ?_|refine WY.fin (by kernel_rfl) ?_|refine Xm b4 11 (Qy.enc ⟨key,Rj,snap,av,mr⟩) av.enc ?_|refine cq ee ?_|refine cq hpa ?_
  all_goals
   refine nh V3.z.enc C.enc ?_;refine nh V3.z.enc A.enc ?_;refine WX.nil ?_;exact D.aQ (_,_) trivial
 .rintro⟨b7,b8⟩ -;simp only[];try refine ga ?_
  refine Ns (ml [4,2,7,1,4]) [Ac b7 C,Ac b8 A,Qv b4 ⟨key,Rj,snap,av,mr⟩] ?_;obtain⟨P,hP⟩:∃P:ya->Bool,P=λe=>decide (e.rg=rg/\(snap=false\/Nk A e)):=⟨_,rfl⟩;rw[<-hP];by_cases k1:jt C (ug Rj rg)
  .rw[Fi k1] at hc1
   cases snap with
   |true=>
    by_cases k2:jt C A
    .rw[Fi k2] at hc2;by_cases k3:jt A mr
     .rw[Fi k3] at TS;rw[if_neg (λh=>h.elim (λh=>h k1) λh=>h.2 k2),if_neg λh=>h.2 k3];repeat' first|refine ga ?_|refine Xm b4 1 (Qy.enc ⟨key,Rj,_,av,mr⟩) Rj.enc ?_|refine Xm b4 20 (Qy.enc ⟨key,Rj,_,av,mr⟩) mr.enc ?_|refine Xm b7 0 C.enc C.enc ?_|refine Xm b8 0 A.enc A.enc ?_|refine cq hpc ?_|refine cq hc1 ?_|refine cq hc2 ?_|refine cq TS ?_
      refine W.lo (α:=Nat×Value×Hp) (λx=>x.1<=es.length/\ia 49 ((es.take x.1).filter P) x.2.1 x.2.2) (λx=>[(0,rg),(4,b4),(6,b6),(7,b7),(8,b8),(9,x.2.1),(50,.slice pv es.length cv),(51,.int .i64 (es.length:Int)),(52,.int .i64 (x.1:Int))])
       (λx=>[x.2.2,Ac b7 C,Ac b8 A,Yy b6 An.z,Qv b4 ⟨key,Rj,true,av,mr⟩,h,R]) (λx=>es.length - x.1) (0,.slice none 0 0,[]) ⟨Gi _,ia.nil _⟩ ?_
      rintro⟨i,v2,h2⟩ ⟨hi,Oa⟩;simp only[] at hi Oa⊢;have hle:((es.take i).filter P).length<=1000000:=by have:=length_filter_le P (es.take i);rw[Fe] at this;omega
      by_cases hlt:i<es.length
      .obtain⟨e,hx⟩:=Sh hlt;have hw:=RF A e
       have hn:(es.take (i+1)).filter P=(es.take i).filter P++(if P e=true then[e] else[]):=by
        rw[take_add_one,hx,filter_append];congr 1;cases hp:P e<;>simp[hp]
       generalize(es.take i).filter P=l at Oa hn hle;have US:P e=decide (e.rg=rg/\(true=false\/Nk A e)):=by rw[hP]
       cases hp:P e with
       |true=>
        rw[hp,if_pos rfl] at hn;rw[US] at hp;have hp:=of_decide_eq_true hp;by_cases hg:e.rg=rg<;>by_cases hi:Nk A e;all_goals try(exfalso;first|exact hg hp.1|exact hp.2.elim (λh=>absurd h (by decide)) hi)
        all_goals
         first|rw[Fi hi] at hw|rw[gj hi] at hw
         repeat' first|refine ga ?_|refine al λ_=>?_|refine rG hs hx ?_|refine yj A.enc ?_|refine lA (cs:=e.enc) (vs:=[e.dc,e.rg,e.sq]) rfl ?_|refine yj e.enc ?_|refine nh ya.z.enc e.enc ?_|refine cq hw ?_
         refine Kp [e] (λv4 h4 hs4=>?_);refine Ys (zb:=by simp only[Gb,jd];omega) Oa hs4.rs (λv5 h5 hs5=>?_);rw[<-hn] at hs5;try refine ga ?_
         exact D.rd (i+1,v5,h5) ⟨by simp only[];omega,hs5⟩ (by simp only[];omega)
       |false=>
        rw[hp,if_neg (by decide),append_nil] at hn;rw[US] at hp;have hp:=of_decide_eq_false hp;by_cases hg:e.rg=rg<;>by_cases hi:Nk A e;all_goals try(exfalso;first|exact hp ⟨hg,.inr hi⟩|exact hp ⟨hg,.inl rfl⟩)
        all_goals
         first|rw[Fi hi] at hw|rw[gj hi] at hw
         repeat' first|refine ga ?_|refine al λ_=>?_|refine rG hs hx ?_|refine yj A.enc ?_|refine lA (cs:=e.enc) (vs:=[e.dc,e.rg,e.sq]) rfl ?_|refine nh ya.z.enc e.enc ?_|refine cq hw ?_
         exact D.rd (i+1,v2,h2) ⟨by simp only[];omega,by rw[hn];exact Oa⟩ (by simp only[];omega)
      obtain rfl:i=es.length:=by omega
      rw[take_length] at Oa hle;have Vt:=Kw key Oa.rs hle;generalize jb key (es.filter P)=gr at Vt⊢;repeat' first|refine ga ?_|refine al λ_=>?_|refine yj C.enc ?_|refine Vf (An.enc ⟨0,false,ya.z,C⟩) ?_|refine cq Vt ?_|refine nh An.z.enc (An.enc ⟨0,false,ya.z,C⟩) ?_
      rename_i nj;refine WX.Yc (vs:=(gr.getD ya.z).enc) (b:=nj) (i:=2) (cs:=An.enc ⟨0,false,ya.z,C⟩) rfl rfl rfl (ya.Xo _) (ya.one _) rfl ?_;rw[An.Lw];try refine ga ?_
      refine Wh (An.enc ⟨0,false,gr.getD ya.z,C⟩) (An.enc ⟨0,gr.isSome,gr.getD ya.z,C⟩) ?_;repeat' first|refine ga ?_|refine yj (An.enc ⟨0,gr.isSome,gr.getD ya.z,C⟩) ?_|refine nh An.z.enc (An.enc ⟨0,gr.isSome,gr.getD ya.z,C⟩) ?_
      exact D.Dc [h] _ rfl (.Ua rfl rfl .nil) ⟨rfl,rfl⟩
     .rw[gj k3] at TS;rw[if_neg (λh=>h.elim (λh=>h k1) λh=>h.2 k2),if_pos ⟨rfl,k3⟩];repeat' first|refine ga ?_|refine Xm b4 1 (Qy.enc ⟨key,Rj,_,av,mr⟩) Rj.enc ?_|refine Xm b4 20 (Qy.enc ⟨key,Rj,_,av,mr⟩) mr.enc ?_|refine Xm b7 0 C.enc C.enc ?_|refine Xm b8 0 A.enc A.enc ?_|refine cq hpc ?_|refine cq hc1 ?_|refine cq hc2 ?_|refine cq TS ?_
      repeat' first|refine ga ?_|refine Vf (An.enc {An.z with code:=60}) ?_|refine nh An.z.enc (An.enc {An.z with code:=60}) ?_
      exact D.Dc [h] _ rfl (.Ua rfl rfl .nil) ⟨rfl,rfl⟩
    .rw[gj k2] at hc2;rw[if_pos (.inr ⟨rfl,k2⟩)];repeat' first|refine ga ?_|refine Xm b4 1 (Qy.enc ⟨key,Rj,_,av,mr⟩) Rj.enc ?_|refine Xm b7 0 C.enc C.enc ?_|refine Xm b8 0 A.enc A.enc ?_|refine cq hpc ?_|refine cq hc1 ?_|refine cq hc2 ?_
     repeat' first|refine ga ?_|refine Vf (An.enc {An.z with code:=91}) ?_|refine nh An.z.enc (An.enc {An.z with code:=91}) ?_
     exact D.Dc [h] _ rfl (.Ua rfl rfl .nil) ⟨rfl,rfl⟩
   |false=>
    rw[if_neg (λh=>h.elim (λh=>h k1) λh=>absurd h.1 (by decide)),if_neg λh=>absurd h.1 (by decide)];repeat' first|refine ga ?_|refine Xm b4 1 (Qy.enc ⟨key,Rj,_,av,mr⟩) Rj.enc ?_|refine Xm b7 0 C.enc C.enc ?_|refine cq hpc ?_|refine cq hc1 ?_
    refine W.lo (α:=Nat×Value×Hp) (λx=>x.1<=es.length/\ia 49 ((es.take x.1).filter P) x.2.1 x.2.2) (λx=>[(0,rg),(4,b4),(6,b6),(7,b7),(8,b8),(9,x.2.1),(50,.slice pv es.length cv),(51,.int .i64 (es.length:Int)),(52,.int .i64 (x.1:Int))])
     (λx=>[x.2.2,Ac b7 C,Ac b8 A,Yy b6 An.z,Qv b4 ⟨key,Rj,false,av,mr⟩,h,R]) (λx=>es.length - x.1) (0,.slice none 0 0,[]) ⟨Gi _,ia.nil _⟩ ?_
    rintro⟨i,v2,h2⟩ ⟨hi,Oa⟩;simp only[] at hi Oa⊢;have hle:((es.take i).filter P).length<=1000000:=by have:=length_filter_le P (es.take i);rw[Fe] at this;omega
    by_cases hlt:i<es.length
    .obtain⟨e,hx⟩:=Sh hlt;have hw:=RF A e
     have hn:(es.take (i+1)).filter P=(es.take i).filter P++(if P e=true then[e] else[]):=by
      rw[take_add_one,hx,filter_append];congr 1;cases hp:P e<;>simp[hp]
     generalize(es.take i).filter P=l at Oa hn hle;have US:P e=decide (e.rg=rg/\(false=false\/Nk A e)):=by rw[hP]
     cases hp:P e with
     |true=>
      rw[hp,if_pos rfl] at hn;rw[US] at hp;have hp:=of_decide_eq_true hp;by_cases hg:e.rg=rg<;>by_cases hi:Nk A e;all_goals try(exfalso;first|exact hg hp.1|exact hp.2.elim (λh=>absurd h (by decide)) hi)
      all_goals
       first|rw[Fi hi] at hw|rw[gj hi] at hw
       repeat' first|refine ga ?_|refine al λ_=>?_|refine rG hs hx ?_|refine yj e.enc ?_|refine nh ya.z.enc e.enc ?_
       refine Kp [e] (λv4 h4 hs4=>?_);refine Ys (zb:=by simp only[Gb,jd];omega) Oa hs4.rs (λv5 h5 hs5=>?_);rw[<-hn] at hs5;try refine ga ?_
       exact D.rd (i+1,v5,h5) ⟨by simp only[];omega,hs5⟩ (by simp only[];omega)
     |false=>
      rw[hp,if_neg (by decide),append_nil] at hn;rw[US] at hp;have hp:=of_decide_eq_false hp;by_cases hg:e.rg=rg<;>by_cases hi:Nk A e;all_goals try(exfalso;first|exact hp ⟨hg,.inr hi⟩|exact hp ⟨hg,.inl rfl⟩)
      all_goals
       first|rw[Fi hi] at hw|rw[gj hi] at hw
       repeat' first|refine ga ?_|refine al λ_=>?_|refine rG hs hx ?_|refine nh ya.z.enc e.enc ?_
       exact D.rd (i+1,v2,h2) ⟨by simp only[];omega,by rw[hn];exact Oa⟩ (by simp only[];omega)
    obtain rfl:i=es.length:=by omega
    rw[take_length] at Oa hle;have Vt:=Kw key Oa.rs hle;generalize jb key (es.filter P)=gr at Vt⊢;repeat' first|refine ga ?_|refine al λ_=>?_|refine yj C.enc ?_|refine Vf (An.enc ⟨0,false,ya.z,C⟩) ?_|refine cq Vt ?_|refine nh An.z.enc (An.enc ⟨0,false,ya.z,C⟩) ?_
    rename_i nj;refine WX.Yc (vs:=(gr.getD ya.z).enc) (b:=nj) (i:=2) (cs:=An.enc ⟨0,false,ya.z,C⟩) rfl rfl rfl (ya.Xo _) (ya.one _) rfl ?_;rw[An.Lw];try refine ga ?_
    refine Wh (An.enc ⟨0,false,gr.getD ya.z,C⟩) (An.enc ⟨0,gr.isSome,gr.getD ya.z,C⟩) ?_;repeat' first|refine ga ?_|refine yj (An.enc ⟨0,gr.isSome,gr.getD ya.z,C⟩) ?_|refine nh An.z.enc (An.enc ⟨0,gr.isSome,gr.getD ya.z,C⟩) ?_
    exact D.Dc [h] _ rfl (.Ua rfl rfl .nil) ⟨rfl,rfl⟩
  .rw[gj k1] at hc1;rw[if_pos (.inl k1)];repeat' first|refine ga ?_|refine Xm b4 1 (Qy.enc ⟨key,Rj,_,av,mr⟩) Rj.enc ?_|refine Xm b7 0 C.enc C.enc ?_|refine cq hpc ?_|refine cq hc1 ?_
   repeat' first|refine ga ?_|refine Vf (An.enc {An.z with code:=91}) ?_|refine nh An.z.enc (An.enc {An.z with code:=91}) ?_
   exact D.Dc [h] _ rfl (.Ua rfl rfl .nil) ⟨rfl,rfl⟩
end Go.Proofs.YthebagfahkebiaaGreat
