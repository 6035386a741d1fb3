/- Texts of one road. -/
import Derived.Test.YthebagfahkebiaaGreatQAZ
set_option linter.all false
set_option maxHeartbeats 8000000
set_option maxRecDepth 20000
namespace Go.Proofs.YthebagfahkebiaaGreat
open Go Go.Sl Go.Proofs.Tryz List
def Ak{α:Type}(f:Nat->α){i m:Nat}(h:i<m):(List.range (i+1)).map f=(List.range i).map f++[f i]:=by
 rw[range_succ,Ae];rfl
def Da.tJ(k:Int)(fr to:Bl)(ep ix ct op tr:Int)(cf:Va)(en:ya)(has:Bool)(key val:ByteArray)(dead snap:Bool)(dp av:V9)(c0 c1 c2 code:Int)(c:V3):
  setAt (Da.enc ⟨k,fr,to,ep,ix,ct,op,tr,cf,en,has,key,val,dead,snap,dp,av,c0,c1,c2,code⟩) 70 c.enc=Da.enc ⟨k,fr,to,ep,ix,ct,op,tr,cf,en,has,key,val,dead,snap,dp,av,c.a,c.b,c.c,code⟩:=by
 have h1:Da.enc ⟨k,fr,to,ep,ix,ct,op,tr,cf,en,has,key,val,dead,snap,dp,av,c0,c1,c2,code⟩=((.int .i64 k::(fr.enc++(to.enc++([.int .i64 ep,.int .i64 ix,.int .i64 ct,.int .i64 op,.int .i64 tr]++(cf.enc++(en.enc++([.bool has,.string key,.string val,.bool dead,.bool snap]++(dp.enc++av.enc))))))))++V3.enc ⟨c0,c1,c2⟩)++[.int .i64 code]:=rfl;rw[h1,tc _ _ _ _ (Nat.le_refl 73),Sf c.enc (V3.enc ⟨c0,c1,c2⟩) 70 _ rfl rfl];rfl
def Da.YX(m:Da)(c:V3):setAt m.enc 70 c.enc=Da.enc {m with c0:=c.a,c1:=c.b,c2:=c.c}:=by
 cases m;exact Da.tJ ..
def Da.XX(m:Da)(e:ya):setAt m.enc 27 e.enc=Da.enc {m with en:=e}:=by
 cases m;exact Da.WL ..
section
variable(n:va)(b lb hb sb cb d w:Nat)(vw v:Value)(Sr:0<=n.nn/\n.nn<=100)
include Sr
theorem uJ(kind x r:Int)(c:V3):Ct prog 79 [b,kind,x,r,.agg (List.toArray c.enc)] [za b n lb hb sb vw] (λu H'=>∃h',ia 52 (n.Jh kind x r c) u h'/\H'=[h',za b n lb hb sb vw]):=by
 obtain⟨N,hN⟩:∃N:Nat,n.nn=(N:Int):=⟨n.nn.toNat,by omega⟩;have hN1:N<=100:=by omega
 unfold va.Jh;rw[hN,Int.toNat_natCast];generalize hf:(λ(i:Nat)=>({n.out kind ⟨1,x,r,(i:Int)⟩ with c0:=c.a,c1:=c.b,c2:=c.c}:Da))=f;have gV:∀i:Nat,f i={n.out kind ⟨1,x,r,(i:Int)⟩ with c0:=c.a,c1:=c.b,c2:=c.c}:=λi=>by rw[<-hf]
 have zj:=λi:Nat=>qH x r (i:Int);have Q3:=λi:Nat=>Sj n b lb hb sb vw kind ⟨1,x,r,(i:Int)⟩;refine ce func79 λg R=>?_;repeat' first|refine vb ?_|refine Ud λ_=>?_
 rename_i b9;rw[hN]
 refine W.lo (α:=Nat×Value×Hp) (λy=>y.1<=N/\ia 52 ((List.range y.1).map f) y.2.1 y.2.2)
  (λy=>[(0,b),(1,kind),(2,x),(3,r),(9,b9),(11,y.2.1),(18,.int .i64 (N:Int)),(19,.int .i64 (y.1:Int))])
  (λy=>[y.2.2,Ac b9 c,za b n lb hb sb vw,R]) (λy=>N - y.1) (0,.slice none 0 0,[]) ⟨Gi _,ia.nil _⟩ ?_
 rintro⟨i,v2,h2⟩ ⟨hk,Oa⟩;simp only[] at hk Oa⊢;have hle2:((List.range i).map f).length<=100:=by rw[We,length_range];omega
 by_cases hlt:i<N
 .have hn:=Ak f hlt;generalize(List.range i).map f=ms at Oa hn hle2;repeat' first|refine ga ?_|refine al λ_=>?_|refine cq (zj i) ?_|refine cq (Q3 i) ?_|refine nh Da.z.enc (n.out kind ⟨1,x,r,(i:Int)⟩).enc ?_
  rename_i b13;repeat' first|refine ga ?_|refine yj c.enc ?_
  refine WX.Yc (vs:=c.enc) (b:=b13) (i:=70) (cs:=Da.enc (n.out kind ⟨1,x,r,(i:Int)⟩)) rfl rfl rfl rfl rfl rfl ?_;rw[Da.YX,<-gV i];repeat' first|refine ga ?_|refine Of (f i).enc (f i).enc ?_
  refine Kp [f i] (λv4 h4 hs4=>?_);refine Ys (zb:=by simp only[Gb,jd];omega) Oa hs4.rs (λv5 h5 hs5=>?_);rw[<-hn] at hs5;try refine ga ?_
  exact D.rd (i+1,v5,h5) ⟨by simp only[];omega,hs5⟩ (by simp only[];omega)
 .obtain rfl:i=N:=by omega
  try refine ga ?_
  exact Wa [h2,za b n lb hb sb vw] rfl rfl ⟨_,Oa,rfl⟩
variable(ob:Lb n.c)(Us:Je n.c){hv:Hp}(hs:Rs n.c.lg v hv)
include ob Us hs
theorem YF(x:Int):Ct prog 71 [.pointer (some ⟨b,0,none⟩),.int .i64 x] [za b n lb hb sb vw,xb n lb cb d w,oa cb n.c v,hv,Ma sb n.dc n.rc]
  (λu H'=>∃h',ia 52 (n.Qf x) u h'/\H'=[h',za b n lb hb sb vw,xb n lb cb d w,oa cb n.c v,hv,Ma sb n.dc n.rc]):=by
 have jg:=ob.len;obtain⟨N,hN⟩:∃N:Nat,n.nn=(N:Int):=⟨n.nn.toNat,by omega⟩;have hN1:N<=100:=by omega
 have Mf:n.Ab.length<=1000000:=by unfold va.Ab;rw[length_take];omega
 have ZA:∀e∈n.Ab,Xc e:=λe he=>ob.es e (mem_of_mem_take he);have hst:=Co n b lb hb sb cb d w vw v ob Us hs;have Le:=λ{u:Value} {h:Hp} (hu:Rs n.Ab u h)=>RS sb n.dc x n.rc hu ZA Mf;unfold va.Qf;generalize Bw n.dc x n.rc n.Ab=o at Le⊢
 have Le:∀{u:Value} {h:Hp} (hu:Rs n.Ab u h),Ct prog 158 [.pointer (some ⟨sb,0,none⟩),.int .i64 x,u] [Ma sb n.dc n.rc,h] (λu H'=>u= .tuple #[.agg (List.toArray (o.getD ya.z).enc),.bool o.isSome]/\H'=[Ma sb n.dc n.rc,h]):=λhu=>by
  have:=Le hu;cases o<;>exact this
 refine Ct.mk' func71 rfl rfl rfl (λg R=>?_);try simp only[ca]
 simp only[na];try refine ga ?_
 refine W.gi (α:=Nat) (λ_=>True) (λy=>[(0,.pointer (some ⟨b,0,none⟩)),(1,.int .i64 x),(5,.pointer (some ⟨y,0,none⟩)),(6,.bool o.isSome)]) (λy=>[Fb y (o.getD ya.z),za b n lb hb sb vw,xb n lb cb d w,oa cb n.c v,hv,Ma sb n.dc n.rc,R]) ?_ ?_
 .refine W.YE [true,true,true,true,true,true,true,false,false,true,true,true,false,false] [za b n lb hb sb vw] Tryz.mix (by kernel_rfl) ?_;repeat'(first|refine ga ?_|refine al (λ_=>?_)|refine WY.Se ?_|refine WY.back ?_|refine WY.Ye 0 (by decide+kernel) rfl (by kernel_rfl) ?_|refine WY.Ye 1 (by decide+kernel) rfl (by kernel_rfl) ?_|refine WY.Ye 2 (by decide+kernel) rfl (by kernel_rfl) ?_|refine WY.Ye 3 (by decide+kernel) rfl (by kernel_rfl) ?_|refine WY.Ye 4 (by decide+kernel) rfl (by kernel_rfl) ?_|refine WY.Ye 5 (by decide+kernel) rfl (by kernel_rfl) ?_|refine WY.Ye 6 (by decide+kernel) rfl (by kernel_rfl) ?_|refine WY.Ye 9 (by decide+kernel) rfl (by kernel_rfl) ?_|refine WY.Ye 10 (by decide+kernel) rfl (by kernel_rfl) ?_|refine WY.Ye 11 (by decide+kernel) rfl (by kernel_rfl) ?_|refine WY.Ts 7 12 (by decide+kernel) rfl rfl ?_ ?_|refine WY.Ts 8 12 (by decide+kernel) rfl rfl ?_ ?_|refine WY.nq 7 (by decide+kernel) rfl ?_|refine WY.nq 8 (by decide+kernel) rfl ?_|refine WY.nq 12 (by decide+kernel) rfl ?_|refine WY.nq 13 (by decide+kernel) rfl ?_|refine WY.fin (by kernel_rfl) ?_|(refine I.cl ?_;refine WX.call rfl hst rfl ?_;rintro _ _ ⟨h5,hs5,rfl⟩;simp only[ca,na])|refine WX.ja rfl (Le (ia.rs ‹_›)) rfl ?_|refine ud ya.z.enc (o.getD ya.z).enc rfl rfl ?_|fail)
  all_goals exact D.Hu _ trivial (by repeat(first|exact Ca.nil|refine Ca.cons rfl ?_)) (Ga.qa inferInstance)
 .rintro b5 -
  cases o with
  |none=>
   try refine ga ?_
   exact D.Ia [[],za b n lb hb sb vw,xb n lb cb d w,oa cb n.c v,hv,Ma sb n.dc n.rc] _ rfl rfl ⟨_,ia.nil _,rfl⟩
  |some e=>
   generalize hf:(λ(i:Nat)=>({n.out 12 ⟨1,x,n.rg,(i:Int)⟩ with en:=e}:Da))=f;have gV:∀i:Nat,f i={n.out 12 ⟨1,x,n.rg,(i:Int)⟩ with en:=e}:=λi=>by rw[<-hf]
   have zj:=λi:Nat=>qH x n.rg (i:Int);have Q3:=λi:Nat=>Sj n b lb hb sb vw 12 ⟨1,x,n.rg,(i:Int)⟩;show W _ _ _ _ _ _ [Fb b5 e,za b n lb hb sb vw,xb n lb cb d w,oa cb n.c v,hv,Ma sb n.dc n.rc,R];try refine ga ?_
   rw[hN]
   refine W.loop (α:=Nat×Value×Hp) (λy=>y.1<=N/\ia 52 ((List.range y.1).map f) y.2.1 y.2.2)
    (λy=>[(0,.pointer (some ⟨b,0,none⟩)),(1,.int .i64 x),(5,.pointer (some ⟨b5,0,none⟩)),(7,y.2.1),(28,.int .i64 (N:Int)),(29,.int .i64 (y.1:Int))])
    (λy=>[y.2.2,Fb b5 e,za b n lb hb sb vw,xb n lb cb d w,oa cb n.c v,hv,Ma sb n.dc n.rc,R]) (λy=>N - y.1) (0,.slice none 0 0,[]) ⟨Nat.zero_le _,ia.nil _⟩ (by repeat(first|exact Ca.nil|refine Ca.cons rfl ?_)) (Ga.qa inferInstance) ?_
   rintro⟨i,v2,h2⟩ ⟨hk,Oa⟩;simp only[] at hk Oa⊢;have hle2:((List.range i).map f).length<=100:=by rw[length_map,length_range];omega
   by_cases hlt:i<N
   .have hn:=Ak f hlt;generalize(List.range i).map f=ms at Oa hn hle2;repeat'(first|refine ga ?_|refine al (λ_=>?_)|refine WX.ja rfl (zj i) rfl ?_|refine WX.ja rfl (Q3 i) rfl ?_|refine ud Da.z.enc (n.out 12 ⟨1,x,n.rg,(i:Int)⟩).enc rfl rfl ?_|fail)
    rename_i b9;repeat'(first|refine ga ?_|refine Pa e.enc e.enc rfl ?_|fail)
    refine I.st ?_;refine WX.Yc (vs:=e.enc) (b:=b9) (i:=27) (cs:=Da.enc (n.out 12 ⟨1,x,n.rg,(i:Int)⟩)) rfl rfl rfl (ya.Xo _) (ya.one _) rfl ?_;rw[Da.XX,<-gV i];repeat'(first|refine ga ?_|refine Pa (f i).enc (f i).enc rfl ?_|fail)
    refine I.bs ?_;refine WX.lit (ys:=[f i]) rfl rfl rfl rfl rfl rfl (by decide) rfl (λv4 h4 hs4=>?_);refine WX.app rfl rfl Oa hs4.rs rfl rfl (by decide) (by simp only[length_cons,length_nil];omega) rfl (λv5 h5 hs5=>?_);rw[<-hn] at hs5;try refine ga ?_
    exact D.rd (i+1,v5,h5) ⟨by simp only[];omega,hs5⟩ (by simp only[];omega)
   .obtain rfl:i=N:=by omega
    try refine ga ?_
    exact D.Ia [h2,za b n lb hb sb vw,xb n lb cb d w,oa cb n.c v,hv,Ma sb n.dc n.rc] _ rfl rfl ⟨_,by rw[hf];exact Oa,rfl⟩
end
variable{n:va}{k:Nat}{x:Wt}
abbrev De(b:Nat)(du st ak:Int):Hp:=[(b,.cells (List.toArray [du,st,ak]) 123 (0,0))]
def va.xO(n:va)(k:Nat):List Da:=((n.ws.take k).filter λx=>decide (x.ix<=n.c.st)).map n.wk
def va.nR(n:va)(k:Nat):List Wt:=(n.ws.take k).filter λx=> !decide (x.ix<=n.c.st)
def va.wI(h:n.ws[k]? =some x):n.xO (k+1)=n.xO k++(if x.ix<=n.c.st then[n.wk x] else[]):=by
 unfold va.xO;rw[take_add_one,h,filter_append,Ae];by_cases c:x.ix<=n.c.st
 .rw[if_pos c,show(some x).toList=[x] from rfl,filter_cons_of_pos (by simpa using c)];rfl
 .rw[if_neg c,show(some x).toList=[x] from rfl,filter_cons_of_neg (by simpa using c)];rfl
def va.xI(h:n.ws[k]? =some x):n.nR (k+1)=n.nR k++(if x.ix<=n.c.st then[] else[x]):=by
 unfold va.nR;rw[take_add_one,h,filter_append];by_cases c:x.ix<=n.c.st
 .rw[if_pos c,show(some x).toList=[x] from rfl,filter_cons_of_neg (by simpa using c)];rfl
 .rw[if_neg c,show(some x).toList=[x] from rfl,filter_cons_of_pos (by simpa using c)];rfl
def va.Kg(n:va):n.Jd.length<=1:=by unfold va.Jd;split<;>simp
def va.Pj(n:va):n.Cj.length<=1:=by unfold va.Cj;split<;>simp
def va.Cg(n:va):n.ve.length<=1:=by unfold va.ve;split<;>simp
def va.KM(n:va)(k:Nat):(n.xO k).length<=n.ws.length:=by
 unfold va.xO;rw[We];exact Nat.le_trans (length_filter_le _ _) (by rw[Fe];omega)
def va.LM(n:va)(k:Nat):(n.nR k).length<=n.ws.length:=by
 unfold va.nR;exact Nat.le_trans (length_filter_le _ _) (by rw[Fe];omega)
section
variable(n:va)(b lb hb sb cb d w:Nat)(ob:Lb n.c)(Us:Je n.c)
include ob Us
theorem ZF(hw1:n.ws.length<=16)(Gu:∀x∈n.ws,1<=x.ix/\x.ix<=1000000){vw v:Value}{hw hv:Hp}(hsw:ia 181 n.ws vw hw)(hs:Rs n.c.lg v hv)(du st ak:Int):
  Ct prog 73 [b,.agg (List.toArray [du,st,ak])] [hw,za b n lb hb sb vw,xb n lb cb d w,oa cb n.c v,hv]
   (λr H'=>∃h' Vs Uh,ia 52 (n.Gh du st ak) r h'/\ia 181 n.Ra.ws Vs Uh/\H'=[h',Uh,za b n.Ra lb hb sb Vs,xb n lb cb d w,oa cb n.c v,hv]):=by
 have hst:=Ag n.c cb v;have vL:=Vn n.c cb v;have x6:=UF n.c cb v;have R8:=λ(vw:Value) (x:Wt) (hx:1<=x.ix/\x.ix<=1000000)=>sJ n b lb hb sb cb d w vw v ob hs x.to x.op x.tr x.ix ⟨by omega,by omega⟩;have xG:∀vw,Ct prog 76 [b] [za b n.Ra lb hb sb vw,xb n lb cb d w,oa cb n.c v] (λr H'=>∃h',ia 52 n.Jd r h'/\H'=[h',za b n.Ra lb hb sb vw,xb n lb cb d w,oa cb n.c v]):=λvw=>XF n.Ra b lb hb sb cb d w vw v ob;have S1:∀vw,Ct prog 77 [b] [za b n.Ra lb hb sb vw,xb n lb cb d w,oa cb n.c v,hv] (λr H'=>∃h',ia 52 n.Cj r h'/\H'=[h',za b n.Ra lb hb sb vw,xb n lb cb d w,oa cb n.c v,hv]):=λvw=>Mw n.Ra b lb hb sb cb d w vw v ob Us hs;obtain⟨pw,cw,rfl⟩:=hsw.len;have hrw:=hsw.rs;refine ce func73 λg R=>?_;repeat' first|refine vb ?_|refine Ud λ_=>?_
 rename_i b3
 refine W.lo (α:=Nat×(Value×Hp)×(Value×Hp)) (λy=>y.1<=n.ws.length/\ia 52 (n.xO y.1) y.2.1.1 y.2.1.2/\ia 181 (n.nR y.1) y.2.2.1 y.2.2.2)
  (λy=>[(0,b),(3,b3),(5,y.2.1.1),(6,y.2.2.1),(13,.slice pw n.ws.length cw),(14,.int .i64 (n.ws.length:Int)),(15,.int .i64 (y.1:Int))])
  (λy=>[y.2.2.2,y.2.1.2,De b3 du st ak,hw,za b n lb hb sb (.slice pw n.ws.length cw),xb n lb cb d w,oa cb n.c v,hv,R]) (λy=>n.ws.length - y.1) (0,(.slice none 0 0,[]),(.slice none 0 0,[])) ⟨Gi _,ia.nil _,ia.nil _⟩ ?_
 rintro⟨k,⟨v1,h1⟩,⟨v2,h2⟩⟩ ⟨hk,hs1,Oa⟩;simp only[] at hk hs1 Oa⊢;have l1:=n.KM k;have l2:=n.LM k;by_cases hlt:k<n.ws.length
 .obtain⟨x,hx⟩:=Sh hlt;have e1:=va.wI hx;have e2:=va.xI hx;have B7:=Gu x (mem_of_getElem? hx);by_cases hc:x.ix<=n.c.st
  .rw[if_pos hc] at e1 e2;rw[append_nil] at e2;repeat' first|refine ga ?_|refine al λ_=>?_|refine rG hrw hx ?_|refine nh (Wt.enc ⟨Bl.z,0,0,0⟩) x.enc ?_
   rename_i b8;refine wq ?_;repeat' first|refine ga ?_|refine cq hst ?_|refine cq (R8 (.slice pw n.ws.length cw) x B7) ?_|refine Xm b8 0 x.enc x.to.enc ?_
   refine Kp [n.wk x] (λv4 h4 hs4=>?_);refine Ys (zb:=by simp only[Gb,jd];omega) hs1 hs4.rs (λv5 h5 hs5=>?_);rw[<-e1] at hs5;rw[<-e2] at Oa;try refine ga ?_
   exact D.rd (k+1,(v5,h5),(v2,h2)) ⟨by simp only[];omega,hs5,Oa⟩ (by simp only[];omega)
  .rw[if_neg hc] at e1 e2;rw[append_nil] at e1;repeat' first|refine ga ?_|refine al λ_=>?_|refine rG hrw hx ?_|refine nh (Wt.enc ⟨Bl.z,0,0,0⟩) x.enc ?_
   rename_i b8;refine wq ?_;repeat' first|refine ga ?_|refine cq hst ?_|refine yj x.enc ?_
   refine Kp [x] (λv4 h4 hs4=>?_);refine Ys (zb:=by simp only[Gb,jd];omega) Oa hs4.rs (λv5 h5 hs5=>?_);rw[<-e2] at hs5;rw[<-e1] at hs1;try refine ga ?_
   exact D.rd (k+1,(v1,h1),(v5,h5)) ⟨by simp only[];omega,hs1,hs5⟩ (by simp only[];omega)
 .obtain rfl:k=n.ws.length:=by omega
  rw[show n.nR n.ws.length=n.Ra.ws by unfold va.nR;rw[take_length];rfl] at Oa l2;rw[show n.xO n.ws.length=(n.ws.filter λx=>decide (x.ix<=n.c.st)).map n.wk by unfold va.xO;rw[take_length]] at hs1 l1;unfold va.Gh;generalize(n.ws.filter λx=>decide (x.ix<=n.c.st)).map n.wk=ms at hs1 l1⊢;obtain⟨p2,q2,rfl⟩:=Oa.len;generalize n.Ra.ws.length=m2 at Oa;try refine ga ?_
  refine Wh (n.cells lb hb sb (.slice pw n.ws.length cw)) (n.Ra.cells lb hb sb (.slice p2 m2 q2)) ?_;refine WX.nil ?_;refine D.seq ?_;refine W.seq ?_;refine W.h0 [h2,h1,De b3 du st ak,hw,za b n.Ra lb hb sb (.slice p2 m2 q2),xb n lb cb d w,oa cb n.c v,hv,R] ?_;have la:=n.Kg;refine W.gi (α:=Value×Hp) (λy=>ia 52 (ms++(if du<n.c.du\/st<n.c.st then n.Jd else[])) y.1 y.2) (λy=>[(0,b),(3,b3),(5,y.1)]) (λy=>[y.2,h2,De b3 du st ak,za b n.Ra lb hb sb (.slice p2 m2 q2),xb n lb cb d w,oa cb n.c v,hv,R]) ?_ ?_
  .obtain⟨A,hA⟩:∃A,(if du<n.c.du\/st<n.c.st then n.Jd else[])=A:=⟨_,rfl⟩;rw[hA];refine W.seq ?_;by_cases c1:du<n.c.du
   .refine wq ?_;obtain rfl:n.Jd=A:=(if_pos (.inl c1)).symm.trans hA;repeat' first|refine ga ?_|refine cq vL ?_
    refine ck (xG (.slice p2 m2 q2)) ?_;rintro _ _ ⟨h6,Zo,rfl⟩;simp only[can];refine Ys hs1 Zo.rs (λv7 h7 Cn=>?_);try refine ga ?_
    exact D.aQ (v7,h7) Cn
   by_cases c2:st<n.c.st
   .refine wq ?_;obtain rfl:n.Jd=A:=(if_pos (.inr c2)).symm.trans hA;repeat' first|refine ga ?_|refine cq vL ?_|refine cq hst ?_
    refine ck (xG (.slice p2 m2 q2)) ?_;rintro _ _ ⟨h6,Zo,rfl⟩;simp only[can];refine Ys hs1 Zo.rs (λv7 h7 Cn=>?_);try refine ga ?_
    exact D.aQ (v7,h7) Cn
   .obtain rfl:[]=A:=(if_neg (λh=>h.elim c1 c2)).symm.trans hA;refine wq ?_;repeat' first|refine ga ?_|refine cq vL ?_|refine cq hst ?_
    exact D.aQ (v1,h1) (by rw[append_nil];exact hs1)
  rintro⟨v8,h8⟩ Mq;simp only[] at Mq⊢;have l8:(ms++(if du<n.c.du\/st<n.c.st then n.Jd else[])).length<=17:=by rw[Cb];(split<;>try simp only[jd])<;>omega
  rw[<-Oc];generalize ms++(if du<n.c.du\/st<n.c.st then n.Jd else[])=ms2 at Mq l8⊢;refine W.seq ?_;refine W.gi (α:=Value×Hp) (λy=>ia 52 (ms2++(if du<n.c.du\/ak<n.c.ak then n.Cj else[])) y.1 y.2) (λy=>[(5,y.1)]) (λy=>[y.2,h2,za b n.Ra lb hb sb (.slice p2 m2 q2),xb n lb cb d w,oa cb n.c v,hv,R]) ?_ ?_
  .obtain⟨A,hA⟩:∃A,(if du<n.c.du\/ak<n.c.ak then n.Cj else[])=A:=⟨_,rfl⟩;rw[hA];refine W.seq ?_;by_cases c1:du<n.c.du
   .refine wq ?_;obtain rfl:n.Cj=A:=(if_pos (.inl c1)).symm.trans hA;repeat' first|refine ga ?_|refine cq vL ?_
    refine ck (S1 (.slice p2 m2 q2)) ?_;rintro _ _ ⟨h6,Zo,rfl⟩;simp only[can];refine Ys (zb:=by have:=n.Pj;omega) Mq Zo.rs (λv7 h7 Cn=>?_);try refine ga ?_
    exact D.aQ (v7,h7) Cn
   by_cases c2:ak<n.c.ak
   .refine wq ?_;obtain rfl:n.Cj=A:=(if_pos (.inr c2)).symm.trans hA;repeat' first|refine ga ?_|refine cq vL ?_|refine cq x6 ?_
    refine ck (S1 (.slice p2 m2 q2)) ?_;rintro _ _ ⟨h6,Zo,rfl⟩;simp only[can];refine Ys (zb:=by have:=n.Pj;omega) Mq Zo.rs (λv7 h7 Cn=>?_);try refine ga ?_
    exact D.aQ (v7,h7) Cn
   .obtain rfl:[]=A:=(if_neg (λh=>h.elim c1 c2)).symm.trans hA;refine wq ?_;repeat' first|refine ga ?_|refine cq vL ?_|refine cq x6 ?_
    exact D.aQ (v8,h8) (by rw[append_nil];exact Mq)
  rintro⟨v9,h9⟩ Wo;simp only[] at Wo⊢;try refine ga ?_
  exact Wa [h9,h2,za b n.Ra lb hb sb (.slice p2 m2 q2),xb n lb cb d w,oa cb n.c v,hv] rfl rfl ⟨_,_,_,Wo,Oa,rfl⟩
end
def Ea.ok.ch{s:Ea}{N:Int}(h:s.ok N):Lb s.ch:=by
 cases s with
 |up l c t=>exact LI.ok h
 |dn l c q=>exact Lb.new _ _ _
def Ea.Rp(s:Ea)(e:ya):(s.inj e).2.c0.dc=s.c0.dc/\(s.inj e).2.c0.rg=s.c0.rg/\(s.inj e).2.c0.nd=s.c0.nd:=by
 cases s with
 |up l c t=>have:=Go.Proofs.YthebagfahkebiaaGreat.Rp l c e;exact⟨this.1,this.2.1,this.2.2⟩
 |dn l c q=>exact⟨rfl,rfl,rfl⟩
theorem sS (v : V9) (c : V3) {d r : Int} (h : Qb d r) : (Ej v r c).at (d.toNat * 3 + r.toNat) = mx (v.at (d.toNat * 3 + r.toNat)) (c.at d.toNat) := by
 obtain ⟨h1, h2, h3, h4⟩ := h
 have c0 : Qb 0 r := ⟨by decide, by decide, h3, h4⟩
 have c1 : Qb 1 r := ⟨by decide, by decide, h3, h4⟩
 have c2 : Qb 2 r := ⟨by decide, by decide, h3, h4⟩
 unfold Ej
 rw [Gg _ _ _ _ (by omega), Gg _ _ _ _ (by omega), Gg _ _ _ _ (by omega)]
 obtain rfl | rfl | rfl : d = 0 ∨ d = 1 ∨ d = 2 := by omega
 ·rw [if_neg (fun h => by have := h.2; omega), if_neg (fun h => by have := h.2; omega), if_pos ⟨c0, rfl⟩]; rfl
 ·rw [if_neg (fun h => by have := h.2; omega), if_pos ⟨c1, rfl⟩, if_neg (fun h => by have := h.2; omega)]; rfl
 ·rw [if_pos ⟨c2, rfl⟩, if_neg (fun h => by have := h.2; omega), if_neg (fun h => by have := h.2; omega)]; rfl
structure Vh(n:va)(N:Int):Prop where
 ok:n.s.ok N
 hl:n.hd.length<=16
 hd:∀e∈n.hd,Xc e/\e.rg=n.rg
 kn:∀k,k<3->n.kn.at (k*3+n.rg.toNat)=0
section
variable{n:va}{N:Int}
def Vh.ob(h:Vh n N):Lb n.c:=h.ok.ch
theorem Vh.of (h : Vh n N) {e : ya} (he : e ∈ n.hd) : SL n.Wb e := by
 obtain ⟨h1, h2⟩ := h.hd e he
 obtain ⟨c1, c2, c3, c4⟩ := id h1.ch
 have hc := Ui n.rg h.ob.es (k := e.dc.toNat) (by omega)
 have hk := h.kn e.dc.toNat (by omega)
 have hc2 : (ic n.rg n.c.lg).at e.dc.toNat ≤ 1099511627776 := hc.2
 refine ⟨h1.ch, ?_, h1.sq⟩
 show -1 ≤ n.Wb.at (e.dc.toNat * 3 + e.rg.toNat) ∧ n.Wb.at (e.dc.toNat * 3 + e.rg.toNat) ≤ _
 unfold va.Wb
 rw [h2] at c3 c4 ⊢
 rw [sS _ _ ⟨c1, c2, c3, c4⟩, hk]
 unfold mx
 split <;> omega
def va.YL(n:va)(k:Nat)(lb hb sb:Nat)(vw:Value):(n.ji k).cells lb hb sb vw=n.cells lb hb sb vw:=by
 obtain⟨h1,h2,h3⟩:=Ea.Rp n.s (n.hd.getD k ya.z);unfold va.cells va.dc va.rg va.nd va.ji;simp only[];rw[h1,h2,h3]
def va.Rt(n:va)(k:Nat):(n.ji k).rg=n.rg:=(Ea.Rp n.s (n.hd.getD k ya.z)).2.1
def Vh.ji(h:Vh n N)(hN:N<1099511627776)(k:Nat):Vh (n.ji k) (N+1):=by
 refine⟨h.ok.inj hN _,Nat.le_trans (length_eraseIdx_le ..) h.hl,λe he=>?_,λi hi=>?_⟩
 .rw[va.Rt];exact h.hd e (mem_of_mem_eraseIdx he)
 .rw[va.Rt];exact h.kn i hi
def Vh.uf(h:Vh n N):Vh n.uf N:=
 ⟨h.ok,Nat.le_trans (length_filter_le _ _) h.hl,λe he=>h.hd e (mem_filter.1 he).1,h.kn⟩
end
abbrev Ax(b1 b:Nat):Hp:=[(b1,.cells (List.toArray [b]) 27 (0,0))]
section
variable(n:va)(b1 b lb hb sb cb d w:Nat)(vw v:Value)(hl:n.c.lg.length<=1000000){hv:Hp}(hs:Rs n.c.lg v hv)
include hl hs
theorem vJ:Ct prog 150 [b1] [Ax b1 b,za b n lb hb sb vw,xb n lb cb d w,oa cb n.c v,hv] (λr H'=>r= .agg (List.toArray n.Wb.enc)/\H'=[Ax b1 b,za b n lb hb sb vw,xb n lb cb d w,oa cb n.c v,hv]):=by
 have h1:=ym n.c cb hs hl;have h3:=IS n.kn n.rg (ic n.rg n.c.lg);unfold va.Wb;refine ce func150 λg R=>?_;repeat' first|refine vb ?_|refine al λ_=>?_
 rename_i b2;refine Ns (ml [20,3]) [Ax b1 b,za b n lb hb sb vw,xb n lb cb d w] ?_;repeat' first|refine ga ?_|(refine I.cl ?_;refine ck h1 ?_;rintro _ _ ⟨h5,hs5,rfl⟩;simp only[ca,na])|refine cq (Yj n.rg (ia.rs ‹_›) hl) ?_|refine cq h3 ?_|refine Xm b 10 (n.cells lb hb sb vw) n.kn.enc ?_|refine nh V9.z.enc (Ej n.kn n.rg (ic n.rg n.c.lg)).enc ?_
 exact D.Dc [Ax b1 b,za b n lb hb sb vw,xb n lb cb d w,oa cb n.c v,hv] _ rfl (.Ua rfl rfl .nil) ⟨rfl,rfl⟩
end
def va.Vi(h:Be n.Wb n.hd<0)(k:Nat):va.Md k n=n:=by
 cases k with
 |zero=>rfl
 |succ k=>exact if_neg (by omega)
def va.Px(n:va): -1<=Be n.Wb n.hd/\Be n.Wb n.hd<(n.hd.length:Int):=Cm _ _ _
def va.Ty(h:0<=Be n.Wb n.hd):va.Md n.hd.length n=va.Md (n.ji (Be n.Wb n.hd).toNat).hd.length (n.ji (Be n.Wb n.hd).toNat)/\(n.ji (Be n.Wb n.hd).toNat).hd.length+1=n.hd.length:=by
 have h2:=n.Px.2
 have h3:(n.ji (Be n.Wb n.hd).toNat).hd.length+1=n.hd.length:=by
  show(n.hd.eraseIdx _).length+1=_;rw[length_eraseIdx_of_lt (by omega)];omega
 refine⟨?_,h3⟩;rw[<-h3];exact if_pos h
def Vh.Md{N:Int}:∀(k:Nat) {n:va} {M:Int},Vh n M->M+k<=N->N<=1099511627776->Vh (va.Md k n) N
 |0,n,M,h,hM,_=>⟨h.ok.mono (by omega),h.hl,h.hd,h.kn⟩
 |k+1,n,M,h,hM,hN=>by
  unfold va.Md;split
  .exact Vh.Md k (h.ji (by omega) _) (by omega) hN
  .exact⟨h.ok.mono (by omega),h.hl,h.hd,h.kn⟩
def Vh.pull{n:va}{N:Int}(h:Vh n N)(hN:N+16<=1099511627776):Vh n.pull (N+16):=by
 unfold va.pull;split
 .have:=h.uf.hl;exact h.uf.Md _ (by omega) hN
 .exact⟨h.ok.mono (by omega),h.hl,h.hd,h.kn⟩
def va.FF{b:Nat}{h:Hp}(hm:og n.s b h):∃cb d w v hv X,h=xb n b cb d w++(oa cb n.c v++(hv++X))/\ia 49 n.c.lg v hv:=by
 obtain⟨cb,d,w,v,hv,seg,t,hd,rfl,at_⟩:=hm;exact⟨cb,d,w,v,hv,_,rfl,at_.sl⟩
section
variable(n:va)(N:Int)(ok:Vh n N)(hN:N+16<=1099511627776)(b lb hb sb:Nat)(vw:Value)
include ok hN
theorem ku{hl:Hp}(hm:og n.s lb hl){v:Value}{hh:Hp}(hs:ia 49 n.hd v hh):Ct prog 67 [b] [za b n lb hb sb vw,hl,La hb n.rg v,hh]
  (λr H'=>r= .tuple #[]/\∃hl' v' Ni,H'=[za b n.pull lb hb sb vw,hl',La hb n.pull.rg v',Ni]/\og n.pull.s lb hl'/\ia 49 n.pull.hd v' Ni):=by
 have hm0:=hm;obtain⟨cb,d,w,u,hv,X,e,Mf⟩:=va.FF hm;have hih:=bn ok.ob.co cb u;have jg:=ok.ob.len;unfold va.pull;by_cases ch:n.c.head
 .rw[if_pos ch];rw[Fi ch] at hih;have VX:=λb1=>vJ n b1 b lb hb sb cb d w vw u (by omega) Mf.rs;have C7:=uP hs hb n.rg ok.hl n.Wb (λe he=>(ok.hd e he).1);subst e;refine ce func67 λg R=>?_;simp only[can];refine W.f0 [za b n lb hb sb vw,xb n lb cb d w,oa cb n.c u,hv,X,La hb n.rg v,hh,R] ?_;repeat' first|refine ga ?_|refine Ud λ_=>?_|refine cq hih ?_
  rename_i b1;refine WX.makeFunc (first:=[]) (captured:=[_]) rfl rfl rfl ?_;try refine ga ?_
  refine w6 (ml [6,1]) [Ax b1 b,za b n lb hb sb vw] ?_;repeat' first|refine ga ?_|refine WY.Se ?_|refine WY.back ?_|refine Uk 0 ?_|refine Uk 1 ?_|refine Uk 2 ?_|refine Uk 3 ?_|refine Uk 4 ?_|refine Uk 5 ?_|(refine WY.v1 6 (by decide+kernel) rfl (WS.Np (args:=[]) (fs:=[]) rfl) ?_)|refine WY.fin (by kernel_rfl) ?_|(refine WX.Np (args:=[]) (fs:=[]) rfl rfl (VX b1) rfl ?_;rintro _ _ ⟨rfl,rfl⟩;simp only[ca,na])
  refine ck C7 ?_;rintro _ _ ⟨k0,v0,hh0,rfl,rfl,hs0⟩;refine vb ?_
  refine W.loop (α:=va×Int×Value×Hp×Hp) (λy=>Vh y.1 y.2.1/\y.2.1+y.1.hd.length<=N+16/\og y.1.s lb y.2.2.2.2/\ia 49 y.1.hd y.2.2.1 y.2.2.2.1/\va.Md y.1.hd.length y.1=va.Md n.uf.hd.length n.uf)
   (λy=>[(1,b1),(2,FY 150 [b1])])
   (λy=>[Ax b1 b,za b y.1 lb hb sb vw,y.2.2.2.2,La hb y.1.rg y.2.2.1,y.2.2.2.1,R]) (λy=>y.1.hd.length) (n.uf,N,v0,hh0,_) ⟨ok.uf,by have:=ok.uf.hl;simp only[];omega,hm0,hs0,rfl⟩ (by repeat(first|exact Ca.nil|refine Ca.cons rfl ?_)) (by show Ga _ [Ax b1 b,za b n lb hb sb vw,xb n lb cb d w++(oa cb n.c u++(hv++X)),La hb n.rg v0,hh0,R];exact(Ga.qa inferInstance)) ?_
  rintro⟨m,M,v1,h1,l1⟩ ⟨bg,hM,Ji,hs1,hp⟩;simp only[] at bg hM Ji hs1 hp⊢;have hm2:=Ji;obtain⟨cb,d,w,u,hv,X,rfl,Mf⟩:=va.FF Ji;have hml:=bg.ob.len;have VX:=vJ m b1 b lb hb sb cb d w vw u (by omega) Mf.rs;have Le:=OS hs1 hb m.rg bg.hl m.Wb (λe he=>bg.of he);have sF:=m.Px;obtain⟨o,Hj,AO⟩:∃o Hj,Wq m.Wb m.hd=(o,Hj):=⟨_,_,rfl⟩;rw[AO] at Le
  have Le:Ct prog 152 [hb,.agg (List.toArray m.Wb.enc)] [La hb m.rg v1,h1] (λr H'=>∃v' Ni,r= .tuple #[.agg (List.toArray (o.getD ya.z).enc),.bool o.isSome]/\H'=[La hb m.rg v',Ni]/\ia 49 Hj v' Ni):=by
   cases o<;>exact Le
  refine W.f0 [Ax b1 b,za b m lb hb sb vw,xb m lb cb d w,oa cb m.c u,hv,X,La hb m.rg v1,h1,R] ?_;refine W.block ?_;refine W.seq ?_;refine W.gi (α:=Nat×Value×Hp) (λy=>ia 49 Hj y.2.1 y.2.2) (λy=>[(1,b1),(2,FY 150 [b1]),(3,.pointer (some ⟨y.1,0,none⟩)),(4,.bool o.isSome)]) (λy=>[Fb y.1 (o.getD ya.z),Ax b1 b,za b m lb hb sb vw,xb m lb cb d w,oa cb m.c u,hv,X,La hb m.rg y.2.1,y.2.2,R]) ?_ ?_
  .refine w6 (ml [6,2,3,2]) [Ax b1 b,za b m lb hb sb vw] ?_;repeat' first|refine ga ?_|refine al λ_=>?_|refine WY.Se ?_|refine WY.back ?_|refine Uk 0 ?_|refine Uk 1 ?_|refine Uk 2 ?_|refine Uk 3 ?_|refine Uk 4 ?_|refine Uk 5 ?_|refine Uk 8 ?_|refine Uk 9 ?_|refine Uk 10 ?_|(refine WY.v2 6 11 (by decide+kernel) rfl rfl (WS.Np (args:=[]) (fs:=[]) rfl) ?_ ?_)|(refine WY.v1 6 (by decide+kernel) rfl (WS.Np (args:=[]) (fs:=[]) rfl) ?_)|refine WY.Ts 7 11 (by decide+kernel) rfl rfl ?_ ?_|refine uK 7 ?_|refine uK 11 ?_|refine uK 12 ?_|refine WY.fin (by kernel_rfl) ?_|(refine WX.Np (args:=[]) (fs:=[]) rfl rfl VX rfl ?_;rintro _ _ ⟨rfl,rfl⟩;simp only[ca,na])|(refine I.cl ?_;refine ck Le ?_;rintro _ _ ⟨v2,h2,rfl,rfl,Oa⟩;simp only[ca,na])|refine nh ya.z.enc (o.getD ya.z).enc ?_
   all_goals exact D.aQ (_,v2,h2) Oa
  .rintro⟨b3,v2,h2⟩ Oa;simp only[] at Oa⊢;unfold Wq at AO;by_cases Lx:Be m.Wb m.hd<0
   .rw[if_pos Lx] at AO;obtain⟨rfl,rfl⟩:=Prod.mk.inj AO;have hst:=va.Vi Lx m.hd.length;rw[hst] at hp;rw[<-hp];try refine ga ?_
    exact D.ai [za b m lb hb sb vw,xb m lb cb d w++(oa cb m.c u++(hv++X)),La hb m.rg v2,h2] _ rfl ⟨rfl,_,_,_,rfl,hm2,Oa⟩
   .rw[if_neg Lx] at AO;obtain⟨rfl,rfl⟩:=Prod.mk.inj AO;obtain⟨e1,e2⟩:=va.Ty (n:=m) (by omega);rw[e1] at hp;obtain⟨k,hk⟩:∃k,(Be m.Wb m.hd).toNat=k:=⟨_,rfl⟩;rw[hk] at hp e2 Oa⊢;have hin:=RR bg.ok hm2 (m.hd.getD k ya.z);have U1:=bg.ji (by omega) k;have Tq:=va.Rt m k;have hce:za b (m.ji k) lb hb sb vw=za b m lb hb sb vw:=by unfold za;rw[va.YL m k lb hb sb vw]
    try refine ga ?_
    refine W.h0 [Fb b3 (m.hd.getD k ya.z),Ax b1 b,za b m lb hb sb vw,xb m lb cb d w,oa cb m.c u,hv,X,La hb m.rg v2,h2,R] ?_;refine Ns (ml [5]) [Fb b3 (m.hd.getD k ya.z),Ax b1 b,za b m lb hb sb vw] ?_;repeat' first|refine ga ?_|refine Of (m.hd.getD k ya.z).enc (m.hd.getD k ya.z).enc ?_
    refine ck hin ?_;rintro _ _ ⟨rfl,l2,rfl,Vy⟩;refine vb ?_;exact D.round (m.ji k,M+1,v2,h2,l2) ⟨U1,by simp only[];omega,Vy,Oa,hp⟩ (by simp only[];omega) (by repeat(first|exact Ca.nil|refine Ca.cons rfl ?_)) (by simp only[];rw[hce,Tq];exact(Ga.qa inferInstance))
 .rw[if_neg ch];rw[gj ch] at hih;subst e;refine ce func67 λg R=>?_;simp only[can];refine W.f0 [za b n lb hb sb vw,xb n lb cb d w,oa cb n.c u,hv,X,La hb n.rg v,hh,R] ?_;repeat' first|refine ga ?_|refine Ud λ_=>?_|refine cq hih ?_
  exact D.ai [za b n lb hb sb vw,xb n lb cb d w++(oa cb n.c u++(hv++X)),La hb n.rg v,hh] _ rfl ⟨rfl,_,_,_,rfl,hm0,hs⟩
end
end Go.Proofs.YthebagfahkebiaaGreat
