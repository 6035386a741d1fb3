/- Texts of one road. -/
import Derived.Test.YthebagfahkebiaaGreatRAZ
set_option linter.all false
set_option maxHeartbeats 8000000
set_option maxRecDepth 20000
namespace Go.Proofs.YthebagfahkebiaaGreat
open Go Go.Sl Go.Proofs.Tryz List
def Ck{α:Type}(f:Nat->α){i m:Nat}(h:i<m):(List.range (i+1)).map f=(List.range i).map f++[f i]:=by
 rw[range_succ,He];rfl
def Da.KJ(k:Int)(fr to:Ki)(ep ix ct op tr:Int)(cf:Wa)(en:ya)(has:Bool)(key val:ByteArray)(dead snap:Bool)(dp av:V9)(c0 c1 c2 code:Int)(c:V3):
  setAt (Da.enc ⟨k,fr,to,ep,ix,ct,op,tr,cf,en,has,key,val,dead,snap,dp,av,c0,c1,c2,code⟩) 70 c.enc=Da.enc ⟨k,fr,to,ep,ix,ct,op,tr,cf,en,has,key,val,dead,snap,dp,av,c.a,c.b,c.c,code⟩:=by
 have h1:Da.enc ⟨k,fr,to,ep,ix,ct,op,tr,cf,en,has,key,val,dead,snap,dp,av,c0,c1,c2,code⟩=((.int .i64 k::(fr.enc++(to.enc++([.int .i64 ep,.int .i64 ix,.int .i64 ct,.int .i64 op,.int .i64 tr]++(cf.enc++(en.enc++([.bool has,.string key,.string val,.bool dead,.bool snap]++(dp.enc++av.enc))))))))++V3.enc ⟨c0,c1,c2⟩)++[.int .i64 code]:=rfl;rw[h1,yc _ _ _ _ (Nat.le_refl 73),Vf c.enc (V3.enc ⟨c0,c1,c2⟩) 70 _ rfl rfl];rfl
def Da.bY(m:Da)(c:V3):setAt m.enc 70 c.enc=Da.enc {m with c0:=c.a,c1:=c.b,c2:=c.c}:=by
 cases m;exact Da.KJ ..
def Da.aY(m:Da)(e:ya):setAt m.enc 27 e.enc=Da.enc {m with en:=e}:=by
 cases m;exact Da.fM ..
section
variable(n:ua)(b lb hb sb cb d w:Nat)(vw v:Value)(Ko:0<=n.nn/\n.nn<=100)
include Ko
theorem LJ(kind x r:Int)(c:V3):Ct prog 79 [b,kind,x,r,.agg (List.toArray c.enc)] [za b n lb hb sb vw] (λu H'=>∃h',ia 52 (n.Ri kind x r c) u h'/\H'=[h',za b n lb hb sb vw]):=by
 obtain⟨N,hN⟩:∃N:Nat,n.nn=(N:Int):=⟨n.nn.toNat,by omega⟩;have hN1:N<=100:=by omega
 unfold ua.Ri;rw[hN,Int.toNat_natCast];generalize hf:(λ(i:Nat)=>({n.out kind ⟨1,x,r,(i:Int)⟩ with c0:=c.a,c1:=c.b,c2:=c.c}:Da))=f;have qV:∀i:Nat,f i={n.out kind ⟨1,x,r,(i:Int)⟩ with c0:=c.a,c1:=c.b,c2:=c.c}:=λi=>by rw[<-hf]
 have Cj:=λi:Nat=>wH x r (i:Int);have J3:=λi:Nat=>Vj n b lb hb sb vw kind ⟨1,x,r,(i:Int)⟩;refine ce func79 λg R=>?_;repeat' first|refine Za ?_|refine Uc λ_=>?_
 rename_i b9;rw[hN]
 refine W.lo (α:=Nat×Value×Hp) (λy=>y.1<=N/\ia 52 ((List.range y.1).map f) y.2.1 y.2.2)
  (λy=>[(0,b),(1,kind),(2,x),(3,r),(9,b9),(11,y.2.1),(18,.int .i64 (N:Int)),(19,.int .i64 (y.1:Int))])
  (λy=>[y.2.2,Mc b9 c,za b n lb hb sb vw,R]) (λy=>N - y.1) (0,.slice none 0 0,[]) ⟨di _,ia.nil _⟩ ?_
 rintro⟨i,v2,h2⟩ ⟨hk,Sa⟩;simp only[] at hk Sa⊢;have hle2:((List.range i).map f).length<=100:=by rw[bf,length_range];omega
 by_cases hlt:i<N
 .have hn:=Ck f hlt;generalize(List.range i).map f=ms at Sa hn hle2;repeat' first|refine ga ?_|refine al λ_=>?_|refine cq (Cj i) ?_|refine cq (J3 i) ?_|refine xg Da.z.enc (n.out kind ⟨1,x,r,(i:Int)⟩).enc ?_
  rename_i b13;repeat' first|refine ga ?_|refine Pg c.enc ?_
  refine WX.qd (vs:=c.enc) (b:=b13) (i:=70) (cs:=Da.enc (n.out kind ⟨1,x,r,(i:Int)⟩)) rfl rfl rfl rfl rfl rfl ?_;rw[Da.bY,<-qV i];repeat' first|refine ga ?_|refine Xf (f i).enc (f i).enc ?_
  refine Up [f i] (λv4 h4 hs4=>?_);refine Jt (zb:=by simp only[Ib,td];omega) Sa hs4.rs (λv5 h5 hs5=>?_);rw[<-hn] at hs5;try refine ga ?_
  exact D.rd (i+1,v5,h5) ⟨by simp only[];omega,hs5⟩ (by simp only[];omega)
 .obtain rfl:i=N:=by omega
  try refine ga ?_
  exact Xa [h2,za b n lb hb sb vw] rfl rfl ⟨_,Sa,rfl⟩
variable(xb:Ob n.c)(Ft:Ke n.c){hv:Hp}(hs:Rs n.c.lg v hv)
include xb Ft hs
theorem cG(x:Int):Ct prog 71 [b,x] [za b n lb hb sb vw,Pa n lb cb d w,ja cb n.c v,hv,Ja sb n.dc n.rc]
  (λu H'=>∃h',ia 52 (n.Df x) u h'/\H'=[h',za b n lb hb sb vw,Pa n lb cb d w,ja cb n.c v,hv,Ja sb n.dc n.rc]):=by
 have tg:=xb.len;obtain⟨N,hN⟩:∃N:Nat,n.nn=(N:Int):=⟨n.nn.toNat,by omega⟩;have hN1:N<=100:=by omega
 have Ue:n.Kb.length<=1000000:=by unfold ua.Kb;rw[Oe];omega
 have ZA:∀e∈n.Kb,ud e:=λe he=>xb.es e (mem_of_mem_take he);have hst:=No n b lb hb sb cb d w vw v xb Ft hs;have Qe:=λ{u:Value} {h:Hp} (hu:Rs n.Kb u h)=>YS sb n.dc x n.rc hu ZA Ue;unfold ua.Df;generalize Pw n.dc x n.rc n.Kb=o at Qe⊢
 have Qe:∀{u:Value} {h:Hp} (hu:Rs n.Kb u h),Ct prog 158 [sb,x,u] [Ja sb n.dc n.rc,h] (λu H'=>u= .tuple #[.agg (List.toArray (o.getD ya.z).enc),.bool o.isSome]/\H'=[Ja sb n.dc n.rc,h]):=λhu=>by
  have:=Qe hu;cases o<;>exact this
 refine ng func71 λg R=>?_;refine W.cj (α:=Nat) (λ_=>True) (λy=>[(0,b),(1,x),(5,y),(6,.bool o.isSome)]) (λy=>[Gb y (o.getD ya.z),za b n lb hb sb vw,Pa n lb cb d w,ja cb n.c v,hv,Ja sb n.dc n.rc,R]) ?_ ?_
 .refine U6 (ml [7,2,3,2]) [za b n lb hb sb vw] ?_;repeat' first|refine ga ?_|refine al λ_=>?_|refine WY.lf ?_|refine WY.back ?_|refine vn 0 ?_|refine vn 1 ?_|refine vn 2 ?_|refine vn 3 ?_|refine vn 4 ?_|refine vn 5 ?_|refine vn 6 ?_|refine vn 9 ?_|refine vn 10 ?_|refine vn 11 ?_|refine WY.Cv 7 12 (by decide+kernel) rfl rfl ?_ ?_|refine WY.Cv 8 12 (by decide+kernel) rfl rfl ?_ ?_|refine KM 7 ?_|refine KM 8 ?_|refine KM 12 ?_|refine KM 13 ?_|refine WY.fin (by kernel_rfl) ?_|(refine I.cl ?_;refine ck hst ?_;rintro _ _ ⟨h5,hs5,rfl⟩;simp only[ca,na])|refine cq (Qe (ia.rs ‹_›)) ?_|refine xg ya.z.enc (o.getD ya.z).enc ?_
  all_goals exact D.aQ _ trivial
 .rintro b5 -
  cases o with
  |none=>
   try refine ga ?_
   exact Xa [[],za b n lb hb sb vw,Pa n lb cb d w,ja cb n.c v,hv,Ja sb n.dc n.rc] rfl rfl ⟨_,ia.nil _,rfl⟩
  |some e=>
   generalize hf:(λ(i:Nat)=>({n.out 12 ⟨1,x,n.rg,(i:Int)⟩ with en:=e}:Da))=f;have qV:∀i:Nat,f i={n.out 12 ⟨1,x,n.rg,(i:Int)⟩ with en:=e}:=λi=>by rw[<-hf]
   have Cj:=λi:Nat=>wH x n.rg (i:Int);have J3:=λi:Nat=>Vj n b lb hb sb vw 12 ⟨1,x,n.rg,(i:Int)⟩;show W _ _ _ _ _ _ [Gb b5 e,za b n lb hb sb vw,Pa n lb cb d w,ja cb n.c v,hv,Ja sb n.dc n.rc,R];try refine ga ?_
   rw[hN]
   refine W.lo (α:=Nat×Value×Hp) (λy=>y.1<=N/\ia 52 ((List.range y.1).map f) y.2.1 y.2.2)
    (λy=>[(0,b),(1,x),(5,b5),(7,y.2.1),(28,.int .i64 (N:Int)),(29,.int .i64 (y.1:Int))])
    (λy=>[y.2.2,Gb b5 e,za b n lb hb sb vw,Pa n lb cb d w,ja cb n.c v,hv,Ja sb n.dc n.rc,R]) (λy=>N - y.1) (0,.slice none 0 0,[]) ⟨di _,ia.nil _⟩ ?_
   rintro⟨i,v2,h2⟩ ⟨hk,Sa⟩;simp only[] at hk Sa⊢;have hle2:((List.range i).map f).length<=100:=by rw[bf,length_range];omega
   by_cases hlt:i<N
   .have hn:=Ck f hlt;generalize(List.range i).map f=ms at Sa hn hle2;repeat' first|refine ga ?_|refine al λ_=>?_|refine cq (Cj i) ?_|refine cq (J3 i) ?_|refine xg Da.z.enc (n.out 12 ⟨1,x,n.rg,(i:Int)⟩).enc ?_
    rename_i b9;repeat' first|refine ga ?_|refine Pg e.enc ?_
    refine WX.qd (vs:=e.enc) (b:=b9) (i:=27) (cs:=Da.enc (n.out 12 ⟨1,x,n.rg,(i:Int)⟩)) rfl rfl rfl (ya.Cp _) (ya.one _) rfl ?_;rw[Da.aY,<-qV i];repeat' first|refine ga ?_|refine Xf (f i).enc (f i).enc ?_
    refine Up [f i] (λv4 h4 hs4=>?_);refine Jt (zb:=by simp only[Ib,td];omega) Sa hs4.rs (λv5 h5 hs5=>?_);rw[<-hn] at hs5;try refine ga ?_
    exact D.rd (i+1,v5,h5) ⟨by simp only[];omega,hs5⟩ (by simp only[];omega)
   .obtain rfl:i=N:=by omega
    try refine ga ?_
    exact Xa [h2,za b n lb hb sb vw,Pa n lb cb d w,ja cb n.c v,hv,Ja sb n.dc n.rc] rfl rfl ⟨_,by rw[hf];exact Sa,rfl⟩
end
variable{n:ua}{k:Nat}{x:Wt}
abbrev Fe(b:Nat)(du st ak:Int):Hp:=[(b,.cells (List.toArray [du,st,ak]) 123 (0,0))]
def ua.NO(n:ua)(k:Nat):List Da:=((n.ws.take k).filter λx=>decide (x.ix<=n.c.st)).map n.Jj
def ua.xR(n:ua)(k:Nat):List Wt:=(n.ws.take k).filter λx=> !decide (x.ix<=n.c.st)
def ua.FI(h:n.ws[k]? =some x):n.NO (k+1)=n.NO k++(if x.ix<=n.c.st then[n.Jj x] else[]):=by
 unfold ua.NO;rw[take_add_one,h,filter_append,He];by_cases c:x.ix<=n.c.st
 .rw[if_pos c,show(some x).toList=[x] from rfl,filter_cons_of_pos (by simpa using c)];rfl
 .rw[if_neg c,show(some x).toList=[x] from rfl,filter_cons_of_neg (by simpa using c)];rfl
def ua.GI(h:n.ws[k]? =some x):n.xR (k+1)=n.xR k++(if x.ix<=n.c.st then[] else[x]):=by
 unfold ua.xR;rw[take_add_one,h,filter_append];by_cases c:x.ix<=n.c.st
 .rw[if_pos c,show(some x).toList=[x] from rfl,filter_cons_of_neg (by simpa using c)];rfl
 .rw[if_neg c,show(some x).toList=[x] from rfl,filter_cons_of_pos (by simpa using c)];rfl
def ua.Ug(n:ua):n.Yd.length<=1:=by unfold ua.Yd;split<;>simp
def ua.Rj(n:ua):n.Qm.length<=1:=by unfold ua.Qm;split<;>simp
def ua.Jg(n:ua):n.Af.length<=1:=by unfold ua.Af;split<;>simp
def ua.VM(n:ua)(k:Nat):(n.NO k).length<=n.ws.length:=by
 unfold ua.NO;rw[bf];exact Nat.le_trans (length_filter_le _ _) (by rw[Oe];omega)
def ua.XM(n:ua)(k:Nat):(n.xR k).length<=n.ws.length:=by
 unfold ua.xR;exact Nat.le_trans (length_filter_le _ _) (by rw[Oe];omega)
section
variable(n:ua)(b lb hb sb cb d w:Nat)(xb:Ob n.c)(Ft:Ke n.c)
include xb Ft
theorem dG(hw1:n.ws.length<=16)(Qr:∀x∈n.ws,1<=x.ix/\x.ix<=1000000){vw v:Value}{hw hv:Hp}(hsw:ia 181 n.ws vw hw)(hs:Rs n.c.lg v hv)(du st ak:Int):
  Ct prog 73 [b,.agg (List.toArray [du,st,ak])] [hw,za b n lb hb sb vw,Pa n lb cb d w,ja cb n.c v,hv]
   (λr H'=>∃h' iy Oi,ia 52 (n.eg du st ak) r h'/\ia 181 n.Qa.ws iy Oi/\H'=[h',Oi,za b n.Qa lb hb sb iy,Pa n lb cb d w,ja cb n.c v,hv]):=by
 have hst:=Gg n.c cb v;have MK:=Bm n.c cb v;have V5:=Yv n.c cb v;have G8:=λ(vw:Value) (x:Wt) (hx:1<=x.ix/\x.ix<=1000000)=>JJ n b lb hb sb cb d w vw v xb hs x.to x.op x.tr x.ix ⟨by omega,by omega⟩;have BG:∀vw,Ct prog 76 [b] [za b n.Qa lb hb sb vw,Pa n lb cb d w,ja cb n.c v] (λr H'=>∃h',ia 52 n.Yd r h'/\H'=[h',za b n.Qa lb hb sb vw,Pa n lb cb d w,ja cb n.c v]):=λvw=>bG n.Qa b lb hb sb cb d w vw v xb;have K1:∀vw,Ct prog 77 [b] [za b n.Qa lb hb sb vw,Pa n lb cb d w,ja cb n.c v,hv] (λr H'=>∃h',ia 52 n.Qm r h'/\H'=[h',za b n.Qa lb hb sb vw,Pa n lb cb d w,ja cb n.c v,hv]):=λvw=>ax n.Qa b lb hb sb cb d w vw v xb Ft hs;obtain⟨pw,cw,rfl⟩:=hsw.len;have hrw:=hsw.rs;refine ce func73 λg R=>?_;repeat' first|refine Za ?_|refine Uc λ_=>?_
 rename_i b3
 refine W.lo (α:=Nat×(Value×Hp)×(Value×Hp)) (λy=>y.1<=n.ws.length/\ia 52 (n.NO y.1) y.2.1.1 y.2.1.2/\ia 181 (n.xR y.1) y.2.2.1 y.2.2.2)
  (λy=>[(0,b),(3,b3),(5,y.2.1.1),(6,y.2.2.1),(13,.slice pw n.ws.length cw),(14,.int .i64 (n.ws.length:Int)),(15,.int .i64 (y.1:Int))])
  (λy=>[y.2.2.2,y.2.1.2,Fe b3 du st ak,hw,za b n lb hb sb (.slice pw n.ws.length cw),Pa n lb cb d w,ja cb n.c v,hv,R]) (λy=>n.ws.length - y.1) (0,(.slice none 0 0,[]),(.slice none 0 0,[])) ⟨di _,ia.nil _,ia.nil _⟩ ?_
 rintro⟨k,⟨v1,h1⟩,⟨v2,h2⟩⟩ ⟨hk,hs1,Sa⟩;simp only[] at hk hs1 Sa⊢;have l1:=n.VM k;have l2:=n.XM k;by_cases hlt:k<n.ws.length
 .obtain⟨x,hx⟩:=Lh hlt;have e1:=ua.FI hx;have e2:=ua.GI hx;have l7:=Qr x (mem_of_getElem? hx);by_cases hc:x.ix<=n.c.st
  .rw[if_pos hc] at e1 e2;rw[append_nil] at e2;repeat' first|refine ga ?_|refine al λ_=>?_|refine Vx hrw hx ?_|refine xg (Wt.enc ⟨Ki.z,0,0,0⟩) x.enc ?_
   rename_i b8;refine wq ?_;repeat' first|refine ga ?_|refine cq hst ?_|refine cq (G8 (.slice pw n.ws.length cw) x l7) ?_|refine bn b8 0 x.enc x.to.enc ?_
   refine Up [n.Jj x] (λv4 h4 hs4=>?_);refine Jt (zb:=by simp only[Ib,td];omega) hs1 hs4.rs (λv5 h5 hs5=>?_);rw[<-e1] at hs5;rw[<-e2] at Sa;try refine ga ?_
   exact D.rd (k+1,(v5,h5),(v2,h2)) ⟨by simp only[];omega,hs5,Sa⟩ (by simp only[];omega)
  .rw[if_neg hc] at e1 e2;rw[append_nil] at e1;repeat' first|refine ga ?_|refine al λ_=>?_|refine Vx hrw hx ?_|refine xg (Wt.enc ⟨Ki.z,0,0,0⟩) x.enc ?_
   rename_i b8;refine wq ?_;repeat' first|refine ga ?_|refine cq hst ?_|refine Pg x.enc ?_
   refine Up [x] (λv4 h4 hs4=>?_);refine Jt (zb:=by simp only[Ib,td];omega) Sa hs4.rs (λv5 h5 hs5=>?_);rw[<-e2] at hs5;rw[<-e1] at hs1;try refine ga ?_
   exact D.rd (k+1,(v1,h1),(v5,h5)) ⟨by simp only[];omega,hs1,hs5⟩ (by simp only[];omega)
 .obtain rfl:k=n.ws.length:=by omega
  rw[show n.xR n.ws.length=n.Qa.ws by unfold ua.xR;rw[take_length];rfl] at Sa l2;rw[show n.NO n.ws.length=(n.ws.filter λx=>decide (x.ix<=n.c.st)).map n.Jj by unfold ua.NO;rw[take_length]] at hs1 l1;unfold ua.eg;generalize(n.ws.filter λx=>decide (x.ix<=n.c.st)).map n.Jj=ms at hs1 l1⊢;obtain⟨p2,q2,rfl⟩:=Sa.len;generalize n.Qa.ws.length=m2 at Sa;try refine ga ?_
  refine ei (n.cells lb hb sb (.slice pw n.ws.length cw)) (n.Qa.cells lb hb sb (.slice p2 m2 q2)) ?_;refine WX.nil ?_;refine D.seq ?_;refine W.seq ?_;refine W.h0 [h2,h1,Fe b3 du st ak,hw,za b n.Qa lb hb sb (.slice p2 m2 q2),Pa n lb cb d w,ja cb n.c v,hv,R] ?_;have la:=n.Ug;refine W.cj (α:=Value×Hp) (λy=>ia 52 (ms++(if du<n.c.du\/st<n.c.st then n.Yd else[])) y.1 y.2) (λy=>[(0,b),(3,b3),(5,y.1)]) (λy=>[y.2,h2,Fe b3 du st ak,za b n.Qa lb hb sb (.slice p2 m2 q2),Pa n lb cb d w,ja cb n.c v,hv,R]) ?_ ?_
  .obtain⟨A,hA⟩:∃A,(if du<n.c.du\/st<n.c.st then n.Yd else[])=A:=⟨_,rfl⟩;rw[hA];refine W.seq ?_;by_cases c1:du<n.c.du
   .refine wq ?_;obtain rfl:n.Yd=A:=(if_pos (.inl c1)).symm.trans hA;repeat' first|refine ga ?_|refine cq MK ?_
    refine ck (BG (.slice p2 m2 q2)) ?_;rintro _ _ ⟨h6,Nq,rfl⟩;simp only[can];refine Jt hs1 Nq.rs (λv7 h7 Gn=>?_);try refine ga ?_
    exact D.aQ (v7,h7) Gn
   by_cases c2:st<n.c.st
   .refine wq ?_;obtain rfl:n.Yd=A:=(if_pos (.inr c2)).symm.trans hA;repeat' first|refine ga ?_|refine cq MK ?_|refine cq hst ?_
    refine ck (BG (.slice p2 m2 q2)) ?_;rintro _ _ ⟨h6,Nq,rfl⟩;simp only[can];refine Jt hs1 Nq.rs (λv7 h7 Gn=>?_);try refine ga ?_
    exact D.aQ (v7,h7) Gn
   .obtain rfl:[]=A:=(if_neg (λh=>h.elim c1 c2)).symm.trans hA;refine wq ?_;repeat' first|refine ga ?_|refine cq MK ?_|refine cq hst ?_
    exact D.aQ (v1,h1) (by rw[append_nil];exact hs1)
  rintro⟨v8,h8⟩ ju;simp only[] at ju⊢;have l8:(ms++(if du<n.c.du\/st<n.c.st then n.Yd else[])).length<=17:=by rw[Eb];(split<;>try simp only[td])<;>omega
  rw[<-Sc];generalize ms++(if du<n.c.du\/st<n.c.st then n.Yd else[])=ms2 at ju l8⊢;refine W.seq ?_;refine W.cj (α:=Value×Hp) (λy=>ia 52 (ms2++(if du<n.c.du\/ak<n.c.ak then n.Qm else[])) y.1 y.2) (λy=>[(5,y.1)]) (λy=>[y.2,h2,za b n.Qa lb hb sb (.slice p2 m2 q2),Pa n lb cb d w,ja cb n.c v,hv,R]) ?_ ?_
  .obtain⟨A,hA⟩:∃A,(if du<n.c.du\/ak<n.c.ak then n.Qm else[])=A:=⟨_,rfl⟩;rw[hA];refine W.seq ?_;by_cases c1:du<n.c.du
   .refine wq ?_;obtain rfl:n.Qm=A:=(if_pos (.inl c1)).symm.trans hA;repeat' first|refine ga ?_|refine cq MK ?_
    refine ck (K1 (.slice p2 m2 q2)) ?_;rintro _ _ ⟨h6,Nq,rfl⟩;simp only[can];refine Jt (zb:=by have:=n.Rj;omega) ju Nq.rs (λv7 h7 Gn=>?_);try refine ga ?_
    exact D.aQ (v7,h7) Gn
   by_cases c2:ak<n.c.ak
   .refine wq ?_;obtain rfl:n.Qm=A:=(if_pos (.inr c2)).symm.trans hA;repeat' first|refine ga ?_|refine cq MK ?_|refine cq V5 ?_
    refine ck (K1 (.slice p2 m2 q2)) ?_;rintro _ _ ⟨h6,Nq,rfl⟩;simp only[can];refine Jt (zb:=by have:=n.Rj;omega) ju Nq.rs (λv7 h7 Gn=>?_);try refine ga ?_
    exact D.aQ (v7,h7) Gn
   .obtain rfl:[]=A:=(if_neg (λh=>h.elim c1 c2)).symm.trans hA;refine wq ?_;repeat' first|refine ga ?_|refine cq MK ?_|refine cq V5 ?_
    exact D.aQ (v8,h8) (by rw[append_nil];exact ju)
  rintro⟨v9,h9⟩ Bp;simp only[] at Bp⊢;try refine ga ?_
  exact Xa [h9,h2,za b n.Qa lb hb sb (.slice p2 m2 q2),Pa n lb cb d w,ja cb n.c v,hv] rfl rfl ⟨_,_,_,Bp,Sa,rfl⟩
end
def Ga.ok.ch{s:Ga}{N:Int}(h:s.ok N):Ob s.ch:=by
 cases s with
 |up l c t=>exact LI.ok h
 |dn l c q=>exact Ob.new _ _ _
def Ga.gq(s:Ga)(e:ya):(s.inj e).2.c0.dc=s.c0.dc/\(s.inj e).2.c0.rg=s.c0.rg/\(s.inj e).2.c0.nd=s.c0.nd:=by
 cases s with
 |up l c t=>have:=Go.Proofs.YthebagfahkebiaaGreat.gq l c e;exact⟨this.1,this.2.1,this.2.2⟩
 |dn l c q=>exact⟨rfl,rfl,rfl⟩
def yS(v:V9)(c:V3){d r:Int}(h:Tb d r):(Gj v r c).at (d.toNat*3+r.toNat)=mx (v.at (d.toNat*3+r.toNat)) (c.at d.toNat):=by
 obtain⟨h1,h2,h3,h4⟩:=h;have c0:Tb 0 r:=⟨by decide,by decide,h3,h4⟩;have c1:Tb 1 r:=⟨by decide,by decide,h3,h4⟩;have c2:Tb 2 r:=⟨by decide,by decide,h3,h4⟩;unfold Gj;rw[Ng _ _ _ _ (by omega),Ng _ _ _ _ (by omega),Ng _ _ _ _ (by omega)];obtain rfl|rfl|rfl:d=0\/d=1\/d=2:=by omega
 .rw[if_neg (λh=>by have:=h.2;omega),if_neg (λh=>by have:=h.2;omega),if_pos ⟨c0,rfl⟩];rfl
 .rw[if_neg (λh=>by have:=h.2;omega),if_pos ⟨c1,rfl⟩,if_neg (λh=>by have:=h.2;omega)];rfl
 .rw[if_pos ⟨c2,rfl⟩,if_neg (λh=>by have:=h.2;omega),if_neg (λh=>by have:=h.2;omega)];rfl
structure gi(n:ua)(N:Int):Prop where
 ok:n.s.ok N
 hl:n.hd.length<=16
 hd:∀e∈n.hd,ud e/\e.rg=n.rg
 kn:∀k,k<3->n.kn.at (k*3+n.rg.toNat)=0
section
variable{n:ua}{N:Int}
def gi.xb(h:gi n N):Ob n.c:=h.ok.ch
def gi.of(h:gi n N){e:ya}(he:e∈n.hd):cM n.Wb e:=by
 obtain⟨h1,h2⟩:=h.hd e he;obtain⟨c1,c2,c3,c4⟩:=id h1.ch;have hc:=Zi n.rg h.xb.es (k:=e.dc.toNat) (by omega);have hk:=h.kn e.dc.toNat (by omega);have hc2:(Bc n.rg n.c.lg).at e.dc.toNat<=1099511627776:=hc.2;refine⟨h1.ch,?_,h1.sq⟩;show -1<=n.Wb.at (e.dc.toNat*3+e.rg.toNat)/\n.Wb.at (e.dc.toNat*3+e.rg.toNat)<=_;unfold ua.Wb;rw[h2] at c3 c4⊢;rw[yS _ _ ⟨c1,c2,c3,c4⟩,hk];unfold mx;split<;>omega
def ua.iM(n:ua)(k:Nat)(lb hb sb:Nat)(vw:Value):(n.Ai k).cells lb hb sb vw=n.cells lb hb sb vw:=by
 obtain⟨h1,h2,h3⟩:=Ga.gq n.s (n.hd.getD k ya.z);unfold ua.cells ua.dc ua.rg ua.nd ua.Ai;simp only[];rw[h1,h2,h3]
def ua.ku(n:ua)(k:Nat):(n.Ai k).rg=n.rg:=(Ga.gq n.s (n.hd.getD k ya.z)).2.1
def gi.Ai(h:gi n N)(hN:N<1099511627776)(k:Nat):gi (n.Ai k) (N+1):=by
 refine⟨h.ok.inj hN _,Nat.le_trans (length_eraseIdx_le ..) h.hl,λe he=>?_,λi hi=>?_⟩
 .rw[ua.ku];exact h.hd e (mem_of_mem_eraseIdx he)
 .rw[ua.ku];exact h.kn i hi
def gi.Bf(h:gi n N):gi n.Bf N:=
 ⟨h.ok,Nat.le_trans (length_filter_le _ _) h.hl,λe he=>h.hd e (mem_filter.1 he).1,h.kn⟩
end
abbrev Nx(b1 b:Nat):Hp:=[(b1,.cells (List.toArray [b]) 27 (0,0))]
section
variable(n:ua)(b1 b lb hb sb cb d w:Nat)(vw v:Value)(hl:n.c.lg.length<=1000000){hv:Hp}(hs:Rs n.c.lg v hv)
include hl hs
theorem MJ:Ct prog 150 [b1] [Nx b1 b,za b n lb hb sb vw,Pa n lb cb d w,ja cb n.c v,hv] (λr H'=>r= .agg (List.toArray n.Wb.enc)/\H'=[Nx b1 b,za b n lb hb sb vw,Pa n lb cb d w,ja cb n.c v,hv]):=by
 have h1:=Fq n.c cb hs hl;have h3:=PS n.kn n.rg (Bc n.rg n.c.lg);unfold ua.Wb;refine ce func150 λg R=>?_;repeat' first|refine Za ?_|refine al λ_=>?_
 rename_i b2;refine Wp (ml [20,3]) [Nx b1 b,za b n lb hb sb vw,Pa n lb cb d w] ?_;repeat' first|refine ga ?_|(refine I.cl ?_;refine ck h1 ?_;rintro _ _ ⟨h5,hs5,rfl⟩;simp only[ca,na])|refine cq (Bn n.rg (ia.rs ‹_›) hl) ?_|refine cq h3 ?_|refine bn b 10 (n.cells lb hb sb vw) n.kn.enc ?_|refine xg V9.z.enc (Gj n.kn n.rg (Bc n.rg n.c.lg)).enc ?_
 exact D.Gc [Nx b1 b,za b n lb hb sb vw,Pa n lb cb d w,ja cb n.c v,hv] _ rfl (.Va rfl rfl .nil) ⟨rfl,rfl⟩
end
def ua.ej(h:Ce n.Wb n.hd<0)(k:Nat):ua.Ld k n=n:=by
 cases k with
 |zero=>rfl
 |succ k=>exact if_neg (by omega)
def ua.jy(n:ua): -1<=Ce n.Wb n.hd/\Ce n.Wb n.hd<(n.hd.length:Int):=Em _ _ _
def ua.pz(h:0<=Ce n.Wb n.hd):ua.Ld n.hd.length n=ua.Ld (n.Ai (Ce n.Wb n.hd).toNat).hd.length (n.Ai (Ce n.Wb n.hd).toNat)/\(n.Ai (Ce n.Wb n.hd).toNat).hd.length+1=n.hd.length:=by
 have h2:=n.jy.2
 have h3:(n.Ai (Ce n.Wb n.hd).toNat).hd.length+1=n.hd.length:=by
  show(n.hd.eraseIdx _).length+1=_;rw[length_eraseIdx_of_lt (by omega)];omega
 refine⟨?_,h3⟩;rw[<-h3];exact if_pos h
def gi.Ld{N:Int}:∀(k:Nat) {n:ua} {M:Int},gi n M->M+k<=N->N<=1099511627776->gi (ua.Ld k n) N
 |0,n,M,h,hM,_=>⟨h.ok.mono (by omega),h.hl,h.hd,h.kn⟩
 |k+1,n,M,h,hM,hN=>by
  unfold ua.Ld;split
  .exact gi.Ld k (h.Ai (by omega) _) (by omega) hN
  .exact⟨h.ok.mono (by omega),h.hl,h.hd,h.kn⟩
def gi.pull{n:ua}{N:Int}(h:gi n N)(hN:N+16<=1099511627776):gi n.pull (N+16):=by
 unfold ua.pull;split
 .have:=h.Bf.hl;exact h.Bf.Ld _ (by omega) hN
 .exact⟨h.ok.mono (by omega),h.hl,h.hd,h.kn⟩
def ua.Qv{b:Nat}{h:Hp}(hm:Dg n.s b h):∃cb d w v hv X,h=Pa n b cb d w++(ja cb n.c v++(hv++X))/\ia 49 n.c.lg v hv:=by
 obtain⟨cb,d,w,v,hv,seg,t,hd,rfl,at_⟩:=hm;exact⟨cb,d,w,v,hv,_,rfl,at_.sl⟩
section
variable(n:ua)(N:Int)(ok:gi n N)(hN:N+16<=1099511627776)(b lb hb sb:Nat)(vw:Value)
include ok hN
theorem Bu{hl:Hp}(hm:Dg n.s lb hl){v:Value}{hh:Hp}(hs:ia 49 n.hd v hh):Ct prog 67 [b] [za b n lb hb sb vw,hl,Fa hb n.rg v,hh]
  (λr H'=>r= .tuple #[]/\∃hl' v' zj,H'=[za b n.pull lb hb sb vw,hl',Fa hb n.pull.rg v',zj]/\Dg n.pull.s lb hl'/\ia 49 n.pull.hd v' zj):=by
 have hm0:=hm;obtain⟨cb,d,w,u,hv,X,e,Ue⟩:=ua.Qv hm;have hih:=jk ok.xb.co cb u;have tg:=ok.xb.len;unfold ua.pull;by_cases ch:n.c.head
 .rw[if_pos ch];rw[Mi ch] at hih;have ZX:=λb1=>MJ n b1 b lb hb sb cb d w vw u (by omega) Ue.rs;have m7:=IP hs hb n.rg ok.hl n.Wb (λe he=>(ok.hd e he).1);subst e;refine ce func67 λg R=>?_;simp only[can];refine W.f0 [za b n lb hb sb vw,Pa n lb cb d w,ja cb n.c u,hv,X,Fa hb n.rg v,hh,R] ?_;repeat' first|refine ga ?_|refine Uc λ_=>?_|refine cq hih ?_
  rename_i b1;refine WX.makeFunc (first:=[]) (captured:=[_]) rfl rfl rfl ?_;try refine ga ?_
  refine U6 (ml [6,1]) [Nx b1 b,za b n lb hb sb vw] ?_;repeat' first|refine ga ?_|refine WY.lf ?_|refine WY.back ?_|refine vn 0 ?_|refine vn 1 ?_|refine vn 2 ?_|refine vn 3 ?_|refine vn 4 ?_|refine vn 5 ?_|(refine WY.v1 6 (by decide+kernel) rfl (fT.Yp (args:=[]) (fs:=[]) rfl) ?_)|refine WY.fin (by kernel_rfl) ?_|(refine WX.Yp (args:=[]) (fs:=[]) rfl rfl (ZX b1) rfl ?_;rintro _ _ ⟨rfl,rfl⟩;simp only[ca,na])
  refine ck m7 ?_;rintro _ _ ⟨k0,v0,hh0,rfl,rfl,hs0⟩;refine Za ?_
  refine W.loop (α:=ua×Int×Value×Hp×Hp) (λy=>gi y.1 y.2.1/\y.2.1+y.1.hd.length<=N+16/\Dg y.1.s lb y.2.2.2.2/\ia 49 y.1.hd y.2.2.1 y.2.2.2.1/\ua.Ld y.1.hd.length y.1=ua.Ld n.Bf.hd.length n.Bf)
   (λy=>[(1,b1),(2,HY 150 [b1])])
   (λy=>[Nx b1 b,za b y.1 lb hb sb vw,y.2.2.2.2,Fa hb y.1.rg y.2.2.1,y.2.2.2.1,R]) (λy=>y.1.hd.length) (n.Bf,N,v0,hh0,_) ⟨ok.Bf,by have:=ok.Bf.hl;simp only[];omega,hm0,hs0,rfl⟩ (by repeat(first|exact Aa.nil|refine Aa.cons rfl ?_)) (by show Ia _ [Nx b1 b,za b n lb hb sb vw,Pa n lb cb d w++(ja cb n.c u++(hv++X)),Fa hb n.rg v0,hh0,R];exact(Ia.qa inferInstance)) ?_
  rintro⟨m,M,v1,h1,l1⟩ ⟨Eg,hM,xe,hs1,hp⟩;simp only[] at Eg hM xe hs1 hp⊢;have hm2:=xe;obtain⟨cb,d,w,u,hv,X,rfl,Ue⟩:=ua.Qv xe;have hml:=Eg.xb.len;have ZX:=MJ m b1 b lb hb sb cb d w vw u (by omega) Ue.rs;have Qe:=VS hs1 hb m.rg Eg.hl m.Wb (λe he=>Eg.of he);have xF:=m.jy;obtain⟨o,Jd,QO⟩:∃o Jd,Ar m.Wb m.hd=(o,Jd):=⟨_,_,rfl⟩;rw[QO] at Qe
  have Qe:Ct prog 152 [hb,.agg (List.toArray m.Wb.enc)] [Fa hb m.rg v1,h1] (λr H'=>∃v' zj,r= .tuple #[.agg (List.toArray (o.getD ya.z).enc),.bool o.isSome]/\H'=[Fa hb m.rg v',zj]/\ia 49 Jd v' zj):=by
   cases o<;>exact Qe
  refine W.f0 [Nx b1 b,za b m lb hb sb vw,Pa m lb cb d w,ja cb m.c u,hv,X,Fa hb m.rg v1,h1,R] ?_;refine W.block ?_;refine W.seq ?_;refine W.cj (α:=Nat×Value×Hp) (λy=>ia 49 Jd y.2.1 y.2.2) (λy=>[(1,b1),(2,HY 150 [b1]),(3,.pointer (some ⟨y.1,0,none⟩)),(4,.bool o.isSome)]) (λy=>[Gb y.1 (o.getD ya.z),Nx b1 b,za b m lb hb sb vw,Pa m lb cb d w,ja cb m.c u,hv,X,Fa hb m.rg y.2.1,y.2.2,R]) ?_ ?_
  .refine U6 (ml [6,2,3,2]) [Nx b1 b,za b m lb hb sb vw] ?_;repeat' first|refine ga ?_|refine al λ_=>?_|refine WY.lf ?_|refine WY.back ?_|refine vn 0 ?_|refine vn 1 ?_|refine vn 2 ?_|refine vn 3 ?_|refine vn 4 ?_|refine vn 5 ?_|refine vn 8 ?_|refine vn 9 ?_|refine vn 10 ?_|(refine WY.v2 6 11 (by decide+kernel) rfl rfl (fT.Yp (args:=[]) (fs:=[]) rfl) ?_ ?_)|(refine WY.v1 6 (by decide+kernel) rfl (fT.Yp (args:=[]) (fs:=[]) rfl) ?_)|refine WY.Cv 7 11 (by decide+kernel) rfl rfl ?_ ?_|refine KM 7 ?_|refine KM 11 ?_|refine KM 12 ?_|refine WY.fin (by kernel_rfl) ?_|(refine WX.Yp (args:=[]) (fs:=[]) rfl rfl ZX rfl ?_;rintro _ _ ⟨rfl,rfl⟩;simp only[ca,na])|(refine I.cl ?_;refine ck Qe ?_;rintro _ _ ⟨v2,h2,rfl,rfl,Sa⟩;simp only[ca,na])|refine xg ya.z.enc (o.getD ya.z).enc ?_
   all_goals exact D.aQ (_,v2,h2) Sa
  .rintro⟨b3,v2,h2⟩ Sa;simp only[] at Sa⊢;unfold Ar at QO;by_cases ay:Ce m.Wb m.hd<0
   .rw[if_pos ay] at QO;obtain⟨rfl,rfl⟩:=Prod.mk.inj QO;have hst:=ua.ej ay m.hd.length;rw[hst] at hp;rw[<-hp];try refine ga ?_
    exact D.ri [za b m lb hb sb vw,Pa m lb cb d w++(ja cb m.c u++(hv++X)),Fa hb m.rg v2,h2] _ rfl ⟨rfl,_,_,_,rfl,hm2,Sa⟩
   .rw[if_neg ay] at QO;obtain⟨rfl,rfl⟩:=Prod.mk.inj QO;obtain⟨e1,e2⟩:=ua.pz (n:=m) (by omega);rw[e1] at hp;obtain⟨k,hk⟩:∃k,(Ce m.Wb m.hd).toNat=k:=⟨_,rfl⟩;rw[hk] at hp e2 Sa⊢;have hin:=cS Eg.ok hm2 (m.hd.getD k ya.z);have L1:=Eg.Ai (by omega) k;have nr:=ua.ku m k;have hce:za b (m.Ai k) lb hb sb vw=za b m lb hb sb vw:=by unfold za;rw[ua.iM m k lb hb sb vw]
    try refine ga ?_
    refine W.h0 [Gb b3 (m.hd.getD k ya.z),Nx b1 b,za b m lb hb sb vw,Pa m lb cb d w,ja cb m.c u,hv,X,Fa hb m.rg v2,h2,R] ?_;refine Wp (ml [5]) [Gb b3 (m.hd.getD k ya.z),Nx b1 b,za b m lb hb sb vw] ?_;repeat' first|refine ga ?_|refine Xf (m.hd.getD k ya.z).enc (m.hd.getD k ya.z).enc ?_
    refine ck hin ?_;rintro _ _ ⟨rfl,l2,rfl,ny⟩;refine Za ?_;exact D.round (m.Ai k,M+1,v2,h2,l2) ⟨L1,by simp only[];omega,ny,Sa,hp⟩ (by simp only[];omega) (by repeat(first|exact Aa.nil|refine Aa.cons rfl ?_)) (by simp only[];rw[hce,nr];exact(Ia.qa inferInstance))
 .rw[if_neg ch];rw[rj ch] at hih;subst e;refine ce func67 λg R=>?_;simp only[can];refine W.f0 [za b n lb hb sb vw,Pa n lb cb d w,ja cb n.c u,hv,X,Fa hb n.rg v,hh,R] ?_;repeat' first|refine ga ?_|refine Uc λ_=>?_|refine cq hih ?_
  exact D.ri [za b n lb hb sb vw,Pa n lb cb d w++(ja cb n.c u++(hv++X)),Fa hb n.rg v,hh] _ rfl ⟨rfl,_,_,_,rfl,hm0,hs⟩
end
end Go.Proofs.YthebagfahkebiaaGreat
