/- Texts of one road. -/
import Derived.Test.YthebagfahkebiaaGreatRBB
set_option linter.all false
set_option maxHeartbeats 8000000
set_option maxRecDepth 20000
namespace Go.Proofs.YthebagfahkebiaaGreat
open Go Go.Sl Go.Proofs.Tryz List
def ua.mc(n:ua)(gb hb sb:Nat)(vw vo:Value):List Value:=
 [.int .i64 n.Ec,.int .i64 n.rn,.int .i64 n.nn,.int .i64 n.cl,.int .i64 1,.int .i64 n.dc,.int .i64 n.rg,.int .i64 n.nd,.pointer (some ⟨gb,0,none⟩),vw,.pointer (some ⟨hb,0,none⟩),.pointer (some ⟨sb,0,none⟩)]++(n.kn.enc++(n.mr.enc++[vo]))
abbrev Ca(b:Nat)(n:ua)(gb hb sb:Nat)(vw vo:Value):Hp:=[(b,.cells (List.toArray (n.mc gb hb sb vw vo)) 112 (0,0))]
abbrev vb(n:ua)(gb cb d w:Nat)(tn:Int):Hp:=Bb gb cb d w n.s.jb tn
abbrev jz(b:Nat)(n:ua)(gb hb sb:Nat)(vw:Value)(ms:List Da)(F:HH)(r:Value)(H':HH):Prop:=
 r= .tuple #[]/\∃vo ho,ia 52 ms vo ho/\H'=Ca b n gb hb sb vw vo::ho::F
theorem Da.nL(m:Da)(a:Ki):setAt m.enc 1 a.enc=Da.enc {m with fr:=a}:=rfl
section
variable(n:ua)(b gb hb sb:Nat)(vw:Value)
def DI(vo:Value)(k:Int):Ct prog 182 [b,k] [Ca b n gb hb sb vw vo] (λr H'=>r= .agg (List.toArray (n.at_ k).enc)/\H'=[Ca b n gb hb sb vw vo]):=by
 refine ce func182 λg R=>?_;repeat' first|refine Za ?_|refine al λ_=>?_|refine bn b 4 (n.mc gb hb sb vw vo) ((n.at_ n.nd).enc) ?_|refine xg Ki.z.enc (n.at_ n.nd).enc ?_
 refine ei (n.at_ n.nd).enc (n.at_ k).enc ?_;repeat' first|refine ga ?_|refine Xf (n.at_ k).enc (n.at_ k).enc ?_|refine xg Ki.z.enc (n.at_ k).enc ?_
 exact D.Gc [Ca b n gb hb sb vw vo] _ rfl (.Va rfl rfl .nil) ⟨rfl,rfl⟩
def Wr(vo:Value):Ct prog 90 [b] [Ca b n gb hb sb vw vo] (λr H'=>r= .agg (List.toArray n.Fc.enc)/\H'=[Ca b n gb hb sb vw vo]):=by
 refine ce func90 λg R=>?_;repeat' first|refine Za ?_|refine al λ_=>?_|refine jf n.Fc.enc ?_|refine xg Ki.z.enc n.Fc.enc ?_
 exact D.Gc [Ca b n gb hb sb vw vo] _ rfl (.Va rfl rfl .nil) ⟨rfl,rfl⟩
variable{outs:List Da}{vo:Value}{ho:Hp}(Tn:ia 52 outs vo ho)(kz:outs.length<=1000000)
include Tn kz
theorem Gh(m:Da):Ct prog 174 [b,.agg (List.toArray m.enc)] [Ca b n gb hb sb vw vo,ho] (jz b n gb hb sb vw (outs++[{m with fr:=n.self}]) []):=by
 obtain⟨m1,xe⟩:∃m1:Da,{m with fr:=n.self}=m1:=⟨_,rfl⟩;rw[xe];refine ce func174 λg R=>?_;repeat' first|refine Za ?_|refine Uc λ_=>?_|refine bn b 4 (n.mc gb hb sb vw vo) n.self.enc ?_
 rename_i b3;refine WX.qd (vs:=n.self.enc) (b:=b3) (i:=1) (cs:=m.enc) rfl rfl rfl rfl rfl rfl ?_;rw[Da.nL,xe];try refine ga ?_
 refine Wp (ml [6,2]) [Yb b3 m1,Ca b n gb hb sb vw vo] ?_;repeat' first|refine ga ?_|refine Pg m1.enc ?_
 refine Up [m1] (λv4 h4 hs4=>?_);try refine ga ?_
 refine Jt (zb:=by simp only[Ib,td];omega) Tn hs4.rs (λv5 h5 hs5=>?_);obtain⟨p5,q5,rfl⟩:=hs5.len;generalize(outs++[m1]).length=n5 at hs5⊢;try refine ga ?_
 refine ei (n.mc gb hb sb vw vo) (n.mc gb hb sb vw (.slice p5 n5 q5)) ?_;try refine ga ?_
 exact D.fc [Ca b n gb hb sb vw (.slice p5 n5 q5),h5] _ rfl ⟨rfl,_,_,hs5,rfl⟩
variable{cb d w:Nat}{tn:Int}{v:Value}(xb:Ob n.c)
include xb
theorem Bv:Ct prog 88 [b] [Ca b n gb hb sb vw vo,ho,vb n gb cb d w tn,ta cb n.c v] (jz b n gb hb sb vw (outs++n.Yd) [vb n gb cb d w tn,ta cb n.c v]):=by
 have h1:=Hq xb.co n.nd;unfold ua.Yd;obtain⟨k,hk⟩:∃k,Nd n.c.co n.nd=k:=⟨_,rfl⟩;rw[hk] at h1⊢;have h2:=DI n b gb hb sb vw vo k;have h3:=Gh n b gb hb sb vw Tn kz {Da.z with kind:=8,to:=n.at_ k,ep:=n.ep,ct:=n.c.du,ix:=n.c.st};have Ix:n.c.nd=n.nd:=(Ga.ur n.s).1;rw[<-Ix] at h1;refine ng func88 λg R=>?_;refine Wp (ml [8,1]) [ta cb n.c v] ?_;repeat' first|refine ga ?_|refine Xf (n.c.cells v) (jc n.c.co).enc ?_|refine cq h1 ?_
 by_cases c1:0<=k
 .rw[if_pos c1];try refine ga ?_
  refine Wp (ml [3,1,14]) [Ca b n gb hb sb vw vo,vb n gb cb d w tn,ta cb n.c v] ?_;repeat' first|refine ga ?_|refine cq h2 ?_|refine jf (Da.enc {Da.z with kind:=8,to:=n.at_ k,ep:=n.ep,ct:=n.c.du,ix:=n.c.st}) ?_
  refine ck h3 ?_;rintro _ _ ⟨rfl,Np,ho',hs',rfl⟩;refine Za ?_;exact D.fc [Ca b n gb hb sb vw Np,ho',vb n gb cb d w tn,ta cb n.c v] _ rfl ⟨rfl,_,_,hs',rfl⟩
 .rw[if_neg c1,append_nil];try refine ga ?_
  exact D.fc [Ca b n gb hb sb vw vo,ho,vb n gb cb d w tn,ta cb n.c v] _ rfl ⟨rfl,_,_,Tn,rfl⟩
theorem iu:Ct prog 99 [b] [Ca b n gb hb sb vw vo,ho,vb n gb cb d w tn,ta cb n.c v] (jz b n gb hb sb vw (outs++n.Af) [vb n gb cb d w tn,ta cb n.c v]):=by
 have h1:=CI xb cb v;have h2:=Wr n b gb hb sb vw vo;have h3:=Gh n b gb hb sb vw Tn kz {Da.z with kind:=11,to:=n.Fc,ep:=n.ep};unfold ua.Af
 cases hg:n.c.XX with
 |false=>
  rw[hg] at h1;rw[if_neg (by decide),append_nil];refine ce func99 λg R=>?_;repeat' first|refine Za ?_|refine cq h1 ?_
  exact D.fc [Ca b n gb hb sb vw vo,ho,vb n gb cb d w tn,ta cb n.c v] _ rfl ⟨rfl,_,_,Tn,rfl⟩
 |true=>
  rw[hg] at h1;rw[if_pos rfl];refine ce func99 λg R=>?_;repeat' first|refine Za ?_|refine cq h1 ?_
  refine Wp (ml [2,1,12]) [Ca b n gb hb sb vw vo,vb n gb cb d w tn,ta cb n.c v] ?_;repeat' first|refine ga ?_|refine cq h2 ?_|refine jf (Da.enc {Da.z with kind:=11,to:=n.Fc,ep:=n.ep}) ?_
  refine ck h3 ?_;rintro _ _ ⟨rfl,Np,ho',hs',rfl⟩;refine Za ?_;exact D.fc [Ca b n gb hb sb vw Np,ho',vb n gb cb d w tn,ta cb n.c v] _ rfl ⟨rfl,_,_,hs',rfl⟩
variable{hv:Hp}(hs:Rs n.c.lg v hv)
include hs
theorem EI(x:Wt)(hi:1<=x.ix/\x.ix<=1000000):Ct prog 176 [b,.agg (List.toArray x.enc)] [Ca b n gb hb sb vw vo,ho,vb n gb cb d w tn,ta cb n.c v,hv] (jz b n gb hb sb vw (outs++[n.Jj x]) [vb n gb cb d w tn,ta cb n.c v,hv]):=by
 have tg:=xb.len;have h1:=UM n.c cb hs (by omega) x.ix (by omega);have h3:=Gh n b gb hb sb vw Tn kz {Da.z with kind:=4,to:=x.to,op:=x.op,tr:=x.tr,has:=true,en:=n.Qg x.ix};refine ce func176 λg R=>?_;repeat' first|refine Za ?_|refine Uc λ_=>?_
 rename_i b3;refine W.cj (α:=Nat) (λ_=>True) (λy=>[(0,b),(3,b3),(4,y)]) (λy=>[Gb y (n.Qg x.ix),[(b3,.cells (List.toArray x.enc) 212 (0,0))],Ca b n gb hb sb vw vo,ho,vb n gb cb d w tn,ta cb n.c v,hv,R]) ?_ ?_
 .refine U6 (ml [9,1,3,2]) [[(b3,.cells (List.toArray x.enc) 212 (0,0))],Ca b n gb hb sb vw vo,vb n gb cb d w tn,ta cb n.c v] ?_;repeat' first|refine ga ?_|refine al λ_=>?_|refine WY.lf ?_|refine WY.back ?_|refine vn 0 ?_|refine vn 1 ?_|refine vn 2 ?_|refine vn 3 ?_|refine vn 4 ?_|refine vn 5 ?_|refine vn 6 ?_|refine vn 7 ?_|refine vn 8 ?_|refine vn 10 ?_|refine vn 11 ?_|refine vn 12 ?_|refine WY.Cv 9 13 (by decide+kernel) rfl rfl ?_ ?_|refine KM 9 ?_|refine KM 13 ?_|refine KM 14 ?_|refine WY.fin (by kernel_rfl) ?_|refine cq h1 ?_|refine xg ya.z.enc (n.Qg x.ix).enc ?_
  all_goals exact D.aQ _ trivial
 rintro b4 -;try simp only[]
 repeat' first|refine ga ?_|refine Xf (n.Qg x.ix).enc (n.Qg x.ix).enc ?_|refine bn b3 0 x.enc x.to.enc ?_|refine jf (Da.enc {Da.z with kind:=4,to:=x.to,op:=x.op,tr:=x.tr,has:=true,en:=n.Qg x.ix}) ?_
 refine ck h3 ?_;rintro _ _ ⟨rfl,Np,ho',hs',rfl⟩;refine Za ?_;exact D.fc [Ca b n gb hb sb vw Np,ho',vb n gb cb d w tn,ta cb n.c v,hv] _ rfl ⟨rfl,_,_,hs',rfl⟩
variable(Ft:Ke n.c)
include Ft
theorem Ow:Ct prog 194 [b] [Ca b n gb hb sb vw vo,ho,vb n gb cb d w tn,ta cb n.c v,hv] (jz b n gb hb sb vw (outs++n.Qm) [vb n gb cb d w tn,ta cb n.c v,hv]):=by
 have tg:=xb.len;have h1:=MO xb Ft.ak.1 cb v;have h2:=yo xb.co n.nd;have Ix:n.c.nd=n.nd:=(Ga.ur n.s).1;have hr:=CS.wF Ft xb;unfold ua.Qm;obtain⟨k,hk⟩:∃k,Vc n.c.co n.nd=k:=⟨_,rfl⟩;rw[hk] at h2⊢;rw[<-Ix] at h2;have h4:=DI n b gb hb sb vw vo k;obtain⟨⟨i,o⟩,j7⟩:∃x:Int×Bool,n.c.IG=x:=⟨_,rfl⟩;rw[j7] at h1 hr⊢;simp only[] at h1 hr⊢;have h5:=UM n.c cb hs (by omega) i (by omega)
 cases o with
 |false=>
  rw[if_neg (by decide),append_nil];refine ce func194 λg R=>?_;repeat' first|refine Za ?_|refine cq h1 ?_
  exact D.fc [Ca b n gb hb sb vw vo,ho,vb n gb cb d w tn,ta cb n.c v,hv] _ rfl ⟨rfl,_,_,Tn,rfl⟩
 |true=>
  rw[if_pos rfl];have h3:=Gh n b gb hb sb vw Tn kz {Da.z with kind:=7,to:=n.at_ k,ep:=n.ep,ix:=i,en:=n.Qg i};refine ce func194 λg R=>?_;repeat' first|refine Za ?_|refine al λ_=>?_|refine cq h1 ?_|refine cq h5 ?_|refine xg ya.z.enc (n.Qg i).enc ?_
  rename_i b5;refine W.h0 [Gb b5 (n.Qg i),Ca b n gb hb sb vw vo,ho,vb n gb cb d w tn,ta cb n.c v,hv,R] ?_;refine Wp (ml [10,2,8]) [Gb b5 (n.Qg i),Ca b n gb hb sb vw vo,vb n gb cb d w tn,ta cb n.c v] ?_;repeat' first|refine ga ?_|refine Xf (n.c.cells v) (jc n.c.co).enc ?_|refine Xf (n.Qg i).enc (n.Qg i).enc ?_|refine cq h2 ?_|refine cq h4 ?_|refine jf (Da.enc {Da.z with kind:=7,to:=n.at_ k,ep:=n.ep,ix:=i,en:=n.Qg i}) ?_
  refine ck h3 ?_;rintro _ _ ⟨rfl,Np,ho',hs',rfl⟩;refine Za ?_;exact D.fc [Ca b n gb hb sb vw Np,ho',vb n gb cb d w tn,ta cb n.c v,hv] _ rfl ⟨rfl,_,_,hs',rfl⟩
end
section
variable(n:ua)(b gb hb sb:Nat){outs:List Da}{vo:Value}{ho:Hp}(Tn:ia 52 outs vo ho)(kz:outs.length<=100000)
 {cb d w:Nat}{tn:Int}{v:Value}(xb:Ob n.c)(Ft:Ke n.c){hv:Hp}(hs:Rs n.c.lg v hv)
include Tn kz xb Ft hs
theorem wR(hw1:n.ws.length<=16)(Qr:∀x∈n.ws,1<=x.ix/\x.ix<=1000000){vw:Value}{hw:Hp}(hsw:ia 212 n.ws vw hw)(du st ak:Int):
  Ct prog 98 [b,du,st,ak] [hw,Ca b n gb hb sb vw vo,ho,vb n gb cb d w tn,ta cb n.c v,hv]
   (λr H'=>r= .tuple #[]/\∃Np ho' iy Oi,ia 52 (outs++n.eg du st ak) Np ho'/\ia 212 n.Qa.ws iy Oi/\H'=[Oi,Ca b n.Qa gb hb sb iy Np,ho',vb n gb cb d w tn,ta cb n.c v,hv]):=by
 have hto:=λ{o:List Da} {vo:Value} {ho:Hp} (Tn:ia 52 o vo ho) (kz:o.length<=1000000) (x:Wt) (hx:1<=x.ix/\x.ix<=1000000)=>EI n b gb hb sb vw Tn kz (cb:=cb) (d:=d) (w:=w) (tn:=tn) xb hs x hx;obtain⟨pw,cw,rfl⟩:=hsw.len;have hrw:=hsw.rs;refine ng func98 λg R=>?_
 refine W.lo (α:=Nat×(Value×Hp)×(Value×Hp)) (λy=>y.1<=n.ws.length/\ia 52 (outs++n.NO y.1) y.2.1.1 y.2.1.2/\ia 212 (n.xR y.1) y.2.2.1 y.2.2.2)
  (λy=>[(0,b),(1,du),(2,st),(3,ak),(8,cb),(9,y.2.2.1),(10,.int .i64 (y.1:Int))])
  (λy=>[y.2.2.2,y.2.1.2,hw,Ca b n gb hb sb (.slice pw n.ws.length cw) y.2.1.1,vb n gb cb d w tn,ta cb n.c v,hv,R]) (λy=>n.ws.length - y.1) (0,(vo,ho),(.slice none 0 0,[])) ⟨di _,by simp only[ua.NO,take_zero,filter_nil,map_nil,append_nil];exact Tn,ia.nil _⟩ ?_
 rintro⟨k,⟨v1,h1⟩,⟨v2,h2⟩⟩ ⟨hk,hs1,Sa⟩;simp only[] at hk hs1 Sa⊢;have l1:=n.VM k;have l2:=n.XM k;have l3:(outs++n.NO k).length<=1000000:=by rw[Eb];omega
 by_cases hlt:k<n.ws.length
 .obtain⟨x,hx⟩:=Lh hlt;have e1:=ua.FI hx;have e2:=ua.GI hx;have l7:=Qr x (mem_of_getElem? hx);by_cases hc:x.ix<=n.c.st
  .rw[if_pos hc] at e1 e2;rw[append_nil] at e2;try refine ga ?_
   refine wq ?_;repeat' first|refine ga ?_|refine Vx hrw hx ?_
   refine ck (hto hs1 l3 x l7) ?_;rintro _ _ ⟨rfl,v5,h5,hs5,rfl⟩;rw[Sc,<-e1] at hs5;rw[<-e2] at Sa;refine Za ?_;exact D.rd (k+1,(v5,h5),(v2,h2)) ⟨by simp only[];omega,hs5,Sa⟩ (by simp only[];omega)
  .rw[if_neg hc] at e1 e2;rw[append_nil] at e1;try refine ga ?_
   refine wq ?_;repeat' first|refine ga ?_|refine Vx hrw hx ?_
   refine Up [x] (λv4 h4 hs4=>?_);refine Jt (zb:=by simp only[Ib,td];omega) Sa hs4.rs (λv5 h5 hs5=>?_);rw[<-e2] at hs5;rw[<-e1] at hs1;try refine ga ?_
   exact D.rd (k+1,(v1,h1),(v5,h5)) ⟨by simp only[];omega,hs1,hs5⟩ (by simp only[];omega)
 .obtain rfl:k=n.ws.length:=by omega
  rw[show n.xR n.ws.length=n.Qa.ws by unfold ua.xR;rw[take_length];rfl] at Sa l2;rw[show n.NO n.ws.length=(n.ws.filter λx=>decide (x.ix<=n.c.st)).map n.Jj by unfold ua.NO;rw[take_length]] at hs1 l1 l3;unfold ua.eg;generalize(n.ws.filter λx=>decide (x.ix<=n.c.st)).map n.Jj=ms at hs1 l1 l3⊢;obtain⟨p2,q2,rfl⟩:=Sa.len;generalize n.Qa.ws.length=m2 at Sa;try refine ga ?_
  refine ei (n.mc gb hb sb (.slice pw n.ws.length cw) v1) (n.Qa.mc gb hb sb (.slice p2 m2 q2) v1) ?_;refine WX.nil ?_;refine D.seq ?_;refine W.seq ?_;have l4:(outs++ms).length<=100016:=by rw[Eb];omega
  rw[<-Sc outs];generalize outs++ms=o1 at hs1 l4⊢;refine W.h0 [h2,h1,hw,Ca b n.Qa gb hb sb (.slice p2 m2 q2) v1,vb n gb cb d w tn,ta cb n.c v,hv,R] ?_;refine W.cj (α:=Value×Hp) (λy=>ia 52 (o1++(if du<n.c.du\/st<n.c.st then n.Yd else[])) y.1 y.2) (λy=>[(0,b),(1,du),(3,ak),(8,cb)]) (λy=>[y.2,h2,Ca b n.Qa gb hb sb (.slice p2 m2 q2) y.1,vb n gb cb d w tn,ta cb n.c v,hv,R]) ?_ ?_
  .have BG:Ct prog 88 [b] [Ca b n.Qa gb hb sb (.slice p2 m2 q2) v1,h1,vb n gb cb d w tn,ta cb n.c v] (jz b n.Qa gb hb sb (.slice p2 m2 q2) (o1++n.Yd) [vb n gb cb d w tn,ta cb n.c v]):=Bv n.Qa b gb hb sb (.slice p2 m2 q2) hs1 (by omega) (cb:=cb) (d:=d) (w:=w) (tn:=tn) (v:=v) xb;by_cases c1:du<n.c.du
   .rw[if_pos (.inl c1)];try refine ga ?_
    refine ck BG ?_;rintro _ _ ⟨rfl,v7,h7,Gn,rfl⟩;refine Za ?_;exact D.aQ (v7,h7) Gn
   by_cases c2:st<n.c.st
   .rw[if_pos (.inr c2)];try refine ga ?_
    refine ck BG ?_;rintro _ _ ⟨rfl,v7,h7,Gn,rfl⟩;refine Za ?_;exact D.aQ (v7,h7) Gn
   .rw[if_neg (λh=>h.elim c1 c2)];try refine ga ?_
    exact D.aQ (v1,h1) (by rw[append_nil];exact hs1)
  rintro⟨v8,h8⟩ ju;simp only[] at ju⊢;have l8:(o1++(if du<n.c.du\/st<n.c.st then n.Yd else[])).length<=100017:=by have:=n.Ug;rw[Eb];(split<;>try simp only[td])<;>omega
  rw[<-Sc o1];generalize o1++(if du<n.c.du\/st<n.c.st then n.Yd else[])=o2 at ju l8⊢;have K1:Ct prog 194 [b] [Ca b n.Qa gb hb sb (.slice p2 m2 q2) v8,h8,vb n gb cb d w tn,ta cb n.c v,hv] (jz b n.Qa gb hb sb (.slice p2 m2 q2) (o2++n.Qm) [vb n gb cb d w tn,ta cb n.c v,hv]):=Ow n.Qa b gb hb sb (.slice p2 m2 q2) ju (by omega) (cb:=cb) (d:=d) (w:=w) (tn:=tn) (v:=v) xb hs Ft;by_cases c1:du<n.c.du
  .rw[if_pos (.inl c1)];try refine ga ?_
   refine ck K1 ?_;rintro _ _ ⟨rfl,v7,h7,Gn,rfl⟩;refine Za ?_;exact D.fc [h2,Ca b n.Qa gb hb sb (.slice p2 m2 q2) v7,h7,vb n gb cb d w tn,ta cb n.c v,hv] _ rfl ⟨rfl,_,_,_,_,Gn,Sa,rfl⟩
  by_cases c2:ak<n.c.ak
  .rw[if_pos (.inr c2)];try refine ga ?_
   refine ck K1 ?_;rintro _ _ ⟨rfl,v7,h7,Gn,rfl⟩;refine Za ?_;exact D.fc [h2,Ca b n.Qa gb hb sb (.slice p2 m2 q2) v7,h7,vb n gb cb d w tn,ta cb n.c v,hv] _ rfl ⟨rfl,_,_,_,_,Gn,Sa,rfl⟩
  .rw[if_neg (λh=>h.elim c1 c2),append_nil];try refine ga ?_
   exact D.fc [h2,Ca b n.Qa gb hb sb (.slice p2 m2 q2) v8,h8,vb n gb cb d w tn,ta cb n.c v,hv] _ rfl ⟨rfl,_,_,_,_,ju,Sa,rfl⟩
end
section
variable(n:ua)(b gb hb sb cb d w:Nat)(tn:Int)(vw vo v:Value)(xb:Ob n.c)(Ft:Ke n.c){hv:Hp}(hs:Rs n.c.lg v hv)
include xb Ft hs
theorem Co:Rs n.Kb (Ao v n.c.st.toNat) hv:=by
 have h4:n.c.len=(n.c.lg.length:Int):=rfl;have h1:=Ft.st;have h2:=xb.du;exact hs.take (by omega)
theorem Eo:Ct prog 179 [b] [Ca b n gb hb sb vw vo,vb n gb cb d w tn,ta cb n.c v,hv] (λr H'=>r=Ao v n.c.st.toNat/\H'=[Ca b n gb hb sb vw vo,vb n gb cb d w tn,ta cb n.c v,hv]):=by
 have h4:n.c.len=(n.c.lg.length:Int):=rfl;have h1:=Ft.st;have h2:=xb.du;obtain⟨K,hK⟩:∃K:Nat,n.c.st=(K:Int):=⟨n.c.st.toNat,by omega⟩;have hle:K<=n.c.lg.length:=by omega
 refine ng func179 λg R=>?_;refine sj ?_;refine WX.as 22 (.int .i64 (K:Int)) rfl (by rw[<-hK]) ?_;refine sl rfl rfl hs ?_ hle;try refine ga ?_
 exact Xa [Ca b n gb hb sb vw vo,vb n gb cb d w tn,ta cb n.c v,hv] rfl rfl ⟨by rw[hK];rfl,rfl⟩
variable(VA:0<=n.nn/\n.nn<=100){outs:List Da}{ho:Hp}(Tn:ia 52 outs vo ho)(kz:outs.length<=100000)
include VA Tn kz
theorem yF(x:Int):Ct prog 96 [b,x] [Ca b n gb hb sb vw vo,ho,vb n gb cb d w tn,ta cb n.c v,hv,Ta sb n.dc n.rc] (jz b n gb hb sb vw (outs++n.Df x) [vb n gb cb d w tn,ta cb n.c v,hv,Ta sb n.dc n.rc]):=by
 have tg:=xb.len;obtain⟨N,hN⟩:∃N:Nat,n.nn=(N:Int):=⟨n.nn.toNat,by omega⟩;have hN1:N<=100:=by omega
 have Ue:n.Kb.length<=1000000:=by unfold ua.Kb;rw[Oe];omega
 have ZA:∀e∈n.Kb,ud e:=λe he=>xb.es e (mem_of_mem_take he);have hst:=Eo n b gb hb sb cb d w tn vw vo v xb Ft hs;have Qe:=RO sb n.dc x n.rc (Co n v xb Ft hs) ZA Ue;unfold ua.Df;generalize Pw n.dc x n.rc n.Kb=o at Qe⊢
 have Qe:Ct prog 193 [sb,x,Ao v n.c.st.toNat] [Ta sb n.dc n.rc,hv] (λu H'=>u= .tuple #[.agg (List.toArray (o.getD ya.z).enc),.bool o.isSome]/\H'=[Ta sb n.dc n.rc,hv]):=by
  cases o<;>exact Qe
 refine ng func96 λg R=>?_;refine W.cj (α:=Nat) (λ_=>True) (λy=>[(0,b),(1,x),(4,y),(5,.bool o.isSome)]) (λy=>[Gb y (o.getD ya.z),Ca b n gb hb sb vw vo,ho,vb n gb cb d w tn,ta cb n.c v,hv,Ta sb n.dc n.rc,R]) ?_ ?_
 .refine U6 (ml [6,2,3,2]) [Ca b n gb hb sb vw vo] ?_;repeat' first|refine ga ?_|refine al λ_=>?_|refine WY.lf ?_|refine WY.back ?_|refine vn 0 ?_|refine vn 1 ?_|refine vn 2 ?_|refine vn 3 ?_|refine vn 4 ?_|refine vn 5 ?_|refine vn 8 ?_|refine vn 9 ?_|refine vn 10 ?_|refine WY.Cv 6 11 (by decide+kernel) rfl rfl ?_ ?_|refine WY.Cv 7 11 (by decide+kernel) rfl rfl ?_ ?_|refine KM 6 ?_|refine KM 7 ?_|refine KM 11 ?_|refine KM 12 ?_|refine WY.fin (by kernel_rfl) ?_|refine cq hst ?_|refine cq Qe ?_|refine xg ya.z.enc (o.getD ya.z).enc ?_
  all_goals exact D.aQ _ trivial
 .rintro b4 -
  cases o with
  |none=>
   try refine ga ?_
   refine W.lo (α:=Nat) (λk=>k=0) (λk=>[(0,b),(1,x),(4,b4),(5,.bool false),(6,.int .i64 0)])
    (λ_=>[Ca b n gb hb sb vw vo,ho,vb n gb cb d w tn,ta cb n.c v,hv,Ta sb n.dc n.rc,R]) (λk=>1 - k) 0 rfl ?_
   rintro k rfl;rw[append_nil];by_cases hlt:0<n.nn
   all_goals
    try refine ga ?_
    exact D.fc [Ca b n gb hb sb vw vo,ho,vb n gb cb d w tn,ta cb n.c v,hv,Ta sb n.dc n.rc] _ rfl ⟨rfl,_,_,Tn,rfl⟩
  |some e=>
   show W _ _ _ _ _ _ [Gb b4 e,Ca b n gb hb sb vw vo,ho,vb n gb cb d w tn,ta cb n.c v,hv,Ta sb n.dc n.rc,R];simp only[];generalize hf:(λ(i:Nat)=>({n.out 12 ⟨1,x,n.rg,(i:Int)⟩ with en:=e}:Da))=f;have qV:∀i:Nat,f i={({Da.z with kind:=12,to:=⟨1,x,n.rg,(i:Int)⟩,en:=e}:Da) with fr:=n.self}:=λi=>by rw[<-hf];rfl
   try refine ga ?_
   refine W.lo (α:=Nat×Value×Hp) (λy=>y.1<=N/\ia 52 (outs++(List.range y.1).map f) y.2.1 y.2.2)
    (λy=>[(0,b),(1,x),(4,b4),(5,.bool true),(6,.int .i64 (y.1:Int))])
    (λy=>[Gb b4 e,Ca b n gb hb sb vw y.2.1,y.2.2,vb n gb cb d w tn,ta cb n.c v,hv,Ta sb n.dc n.rc,R]) (λy=>N - y.1) (0,vo,ho) ⟨di _,by simp only[range_zero,map_nil,append_nil];exact Tn⟩ ?_
   rintro⟨i,v2,h2⟩ ⟨hk,Sa⟩;simp only[] at hk Sa⊢;have hle2:(outs++(List.range i).map f).length<=1000000:=by rw[Eb,bf,length_range];omega
   by_cases hlt:i<N
   .have hn:=Ck f hlt;have ZA:=Gh n b gb hb sb vw Sa hle2 {Da.z with kind:=12,to:=⟨1,x,n.rg,(i:Int)⟩,en:=e};rw[<-qV,Sc,<-hn] at ZA;have hlt':(i:Int)<n.nn:=by omega
    try refine ga ?_
    refine Wp (ml [11]) [Gb b4 e,Ca b n gb hb sb vw v2] ?_;repeat' first|refine ga ?_|refine Pg e.enc ?_|refine jf (t:=35) (Ki.enc ⟨1,x,n.rg,(i:Int)⟩) ?_|refine jf (t:=52) (Da.enc {Da.z with kind:=12,to:=⟨1,x,n.rg,(i:Int)⟩,en:=e}) ?_
    refine ck ZA ?_;rintro _ _ ⟨rfl,v5,h5,hs5,rfl⟩;refine Za ?_;exact D.rd (i+1,v5,h5) ⟨by simp only[];omega,hs5⟩ (by simp only[];omega)
   .obtain rfl:i=N:=by omega
    have hlt': ¬(i:Int)<n.nn:=by omega
    try refine ga ?_
    rw[hN,Int.toNat_natCast];exact D.fc [Ca b n gb hb sb vw v2,h2,vb n gb cb d w tn,ta cb n.c v,hv,Ta sb n.dc n.rc] _ rfl ⟨rfl,_,_,Sa,rfl⟩
end
variable{s:Ga}{T:Int}{b cb:Nat}{h:Hp}{n:ua}
def Ga.mV(h:Ke s.ch)(e:ya):s.nV e=s.inj e:=by
 cases s with
 |up l c t=>
  have h:Ke c:=h;unfold Ga.nV Ga.inj Ak dg
  simp only[h.Jc]
 |dn l c q=>rfl
def Ga.yR(h:Ke s.ch)(fr ep ix:Int)(e:ya):s.zg fr ep ix e=s.take fr ep ix e:=by
 cases s with
 |up l c t=>
  have h:Ke c:=h;unfold Ga.zg Ga.take Pj Gd
  simp only[h.zg]
 |dn l c q=>rfl
def Ga.oV(h:Ke s.ch)(key val:ByteArray)(dead:Bool)(deps:V9)(clock cl op:Int):s.zk key val dead deps clock cl op=s.put key val dead deps clock cl op:=by
 cases s with
 |up l c t=>
  have h:Ke c:=h;unfold Ga.zk Ga.put Fj jd
  simp only[h.zk]
 |dn l c q=>rfl
def Ga.Kq(s:Ga)(x:Wa):(s.Dv x).2=(s.enter x).2/\(s.Dv x).1.2=(s.enter x).1.2:=by
 cases s with
 |up l c t=>
  refine⟨rfl,?_⟩;show(Bk l c x).1.2=(Lc l c x).1.2;unfold Bk Lc;repeat' split
  all_goals rfl
 |dn l c q=>exact⟨rfl,rfl⟩
def vr(s:Ga)(b cb:Nat)(T:Int)(h:Hp):Prop:=∃d w v hv seg t tn hd,h=Bb b cb d w s.jb tn++(ta cb s.ch v++(hv++(uf w d seg t++hd)))/\YX s cb d w v hv seg hd T
def vr.mono{s:Ga}{b cb:Nat}{T T':Int}{h:Hp}(hm:vr s b cb T h)(hT:T<=T'):vr s b cb T' h:=by
 obtain⟨d,w,v,hv,seg,t,tn,hd,e,at_⟩:=hm;exact⟨d,w,v,hv,seg,t,tn,hd,e,⟨at_.sl,at_.dk.mono hT,at_.sg,at_.nv⟩⟩
def pV{N:Int}(ok:s.ok N)(hm:vr s b cb T h)(Qh:0<=T)(hT:T<=68719476736)(e:ya):Ct prog 189 [b,.agg (List.toArray e.enc)] [h] (λr H'=>r= .int .i64 (s.nV e).1/\∃h',H'=[h']/\vr (s.nV e).2 b cb (T+243) h'):=by
 cases s with
 |up l c t=>
  obtain⟨d,w,v,hv,seg,t',tn,hd,rfl,at_⟩:=hm;obtain rfl:=at_.sg rfl;have mz:Ie l:=ok.lg.ok;have xb:Ob c:=ok.ok;have Ue:ia 49 c.lg v hv:=at_.sl;have hdk:RD l d hd T:=at_.dk;refine(zR (w:=w) (Ba:=t') (tn:=tn) mz b cb hdk Qh (by omega) xb Ue e).pack (by simp[Ga.c0,Ga.ch,Ga.jb,Ga.l0]) λr H' ⟨h1,h2⟩=>?_;obtain⟨v',Rc,hd',rfl,hs',hk'⟩:=h2
  exact⟨[Bb b cb d w true tn++(ta cb (Ak l c e).2.1 v'++(Rc++(uf w d (va (Ak l c e).2.2) t'++hd')))],by simp,h1,_,rfl,d,w,v',Rc,_,t',tn,hd',rfl,⟨hs',hk',λ_=>rfl,λe=>(by cases e)⟩⟩
 |dn l c q=>
  have xe:=hm;obtain⟨d,w,v,hv,seg,t',tn,hd,rfl,at_⟩:=hm;exact(Ct.ext (OO b cb d w tn e)).mono λr H' ⟨h1,h2⟩=>⟨h1,_,h2,xe.mono (by omega)⟩
def ua.YM(hm:vr n.s b cb T h):∃d w tn v hv X,h=vb n b cb d w tn++(ta cb n.c v++(hv++X))/\ia 49 n.c.lg v hv:=by
 obtain⟨d,w,v,hv,seg,t,tn,hd,rfl,at_⟩:=hm;exact⟨d,w,tn,v,hv,_,rfl,at_.sl⟩
def ua.HI(hm:Tf n.s b T h):∃cb d w tn v hv X,h=vb n b cb d w tn++(ta cb n.c v++(hv++X))/\ia 49 n.c.lg v hv:=by
 obtain⟨cb,d,w,v,hv,seg,t,tn,hd,rfl,at_⟩:=hm;exact⟨cb,d,w,tn,v,hv,_,rfl,at_.sl⟩
def ua.II(n:ua)(k:Nat)(lb hb sb:Nat)(vw vo:Value):(n.Ai k).mc lb hb sb vw vo=n.mc lb hb sb vw vo:=by
 obtain⟨h1,h2,h3⟩:=Ga.gq n.s (n.hd.getD k ya.z);unfold ua.mc ua.dc ua.rg ua.nd ua.Ai;simp only[];rw[h1,h2,h3]
section
variable(n:ua)(b gb hb sb:Nat)(vw vo:Value)
def JI(cb d w:Nat)(tn:Int)(v:Value){hv:Hp}(hl:n.c.lg.length<=1000000)(hs:Rs n.c.lg v hv):Ct prog 187 [b] [Ca b n gb hb sb vw vo,vb n gb cb d w tn,ta cb n.c v,hv] (λr H'=>r= .agg (List.toArray n.Wb.enc)/\H'=[Ca b n gb hb sb vw vo,vb n gb cb d w tn,ta cb n.c v,hv]):=by
 have h1:=bq n.c cb hs hl;have h2:=ZM n.kn n.rg (Bc n.rg n.c.lg);have nr:n.c.rg=n.rg:=(Ga.ur n.s).2.2;rw[nr] at h1;unfold ua.Wb;generalize Bc n.rg n.c.lg=C at*;refine ce func187 λg R=>?_;repeat' first|refine Za ?_|refine al λ_=>?_
 refine Wp (ml [16,2]) [Ca b n gb hb sb vw vo,vb n gb cb d w tn] ?_;repeat' first|refine ga ?_|refine bn b 12 (n.mc gb hb sb vw vo) n.kn.enc ?_|refine cq h1 ?_|refine cq h2 ?_|refine xg V9.z.enc (Gj n.kn n.rg C).enc ?_
 exact D.Gc [Ca b n gb hb sb vw vo,vb n gb cb d w tn,ta cb n.c v,hv] _ rfl (.Va rfl rfl .nil) ⟨rfl,rfl⟩
variable(N T:Int)(ok:gi n N)(cs:Ke n.c)(hN:N+16<=1099511627776)(Qh:0<=T)(hT:T+3888<=68719476736)
include ok cs hN Qh hT
theorem aN{cb:Nat}{hl:Hp}(hm:vr n.s gb cb T hl){v:Value}{hh:Hp}(hs:ia 49 n.hd v hh):Ct prog 92 [b] [Ca b n gb hb sb vw vo,hl,Oa hb n.rg v,hh]
  (λr H'=>r= .tuple #[]/\∃hl' v' zj,H'=[Ca b n.pull gb hb sb vw vo,hl',Oa hb n.pull.rg v',zj]/\vr n.pull.s gb cb (T+3888) hl'/\ia 49 n.pull.hd v' zj):=by
 have hm0:=hm;obtain⟨d,w,tn,u,hv,X,e,Ue⟩:=ua.YM hm;have hih:=xk ok.xb.co cb u;have tg:=ok.xb.len;unfold ua.pull;by_cases ch:n.c.head
 .rw[if_pos ch];rw[Mi ch] at hih;have ZX:=JI n b gb hb sb vw vo cb d w tn u (by omega) Ue.rs;have m7:=oL hs hb n.rg ok.hl n.Wb (λe he=>ok.of he);subst e;refine ce func92 λg R=>?_;simp only[can];refine W.f0 [Ca b n gb hb sb vw vo,vb n gb cb d w tn,ta cb n.c u,hv,X,Oa hb n.rg v,hh,R] ?_;repeat' first|refine ga ?_|refine cq hih ?_
  refine Wp (ml [5,2]) [Ca b n gb hb sb vw vo] ?_;repeat' first|refine ga ?_|refine cq ZX ?_
  refine ck m7 ?_;rintro _ _ ⟨k0,v0,hh0,rfl,rfl,hs0⟩;refine Za ?_
  refine W.loop (α:=ua×Int×Value×Hp×Hp×Int) (λy=>gi y.1 y.2.1/\Ke y.1.c/\y.2.1+y.1.hd.length<=N+16/\0<=y.2.2.2.2.2/\y.2.2.2.2.2+243*y.1.hd.length<=T+3888/\vr y.1.s gb cb y.2.2.2.2.2 y.2.2.2.2.1/\ia 49 y.1.hd y.2.2.1 y.2.2.2.1/\ua.Ld y.1.hd.length y.1=ua.Ld n.Bf.hd.length n.Bf)
   (λy=>[(0,b)])
   (λy=>[Ca b y.1 gb hb sb vw vo,y.2.2.2.2.1,Oa hb y.1.rg y.2.2.1,y.2.2.2.1,R]) (λy=>y.1.hd.length) (n.Bf,N,v0,hh0,_,T) ⟨ok.Bf,cs,by have:=ok.Bf.hl;simp only[];omega,Qh,by have:=ok.Bf.hl;simp only[];omega,hm0,hs0,rfl⟩ (by repeat(first|exact Aa.nil|refine Aa.cons rfl ?_)) (by show Ia _ [Ca b n gb hb sb vw vo,vb n gb cb d w tn++(ta cb n.c u++(hv++X)),Oa hb n.rg v0,hh0,R];exact(Ia.qa inferInstance)) ?_
  rintro⟨m,M,v1,h1,l1,T1⟩ ⟨Eg,n7,hM,hT2,hT3,xe,hs1,hp⟩;simp only[] at Eg n7 hM hT2 hT3 xe hs1 hp⊢;have hm2:=xe;obtain⟨d,w,tn,u,hv,X,rfl,Ue⟩:=ua.YM xe;have hml:=Eg.xb.len;have ZX:=JI m b gb hb sb vw vo cb d w tn u (by omega) Ue.rs;have Qe:=PO hs1 hb m.rg Eg.hl m.Wb (λe he=>Eg.of he);have xF:=m.jy;obtain⟨o,Jd,QO⟩:∃o Jd,Ar m.Wb m.hd=(o,Jd):=⟨_,_,rfl⟩;rw[QO] at Qe
  have Qe:Ct prog 188 [hb,.agg (List.toArray m.Wb.enc)] [Oa hb m.rg v1,h1] (λr H'=>∃v' zj,r= .tuple #[.agg (List.toArray (o.getD ya.z).enc),.bool o.isSome]/\H'=[Oa hb m.rg v',zj]/\ia 49 Jd v' zj):=by
   cases o<;>exact Qe
  refine W.f0 [Ca b m gb hb sb vw vo,vb m gb cb d w tn,ta cb m.c u,hv,X,Oa hb m.rg v1,h1,R] ?_;refine W.block ?_;refine W.seq ?_;refine W.cj (α:=Nat×Value×Hp) (λy=>ia 49 Jd y.2.1 y.2.2) (λy=>[(0,b),(2,.pointer (some ⟨y.1,0,none⟩)),(3,.bool o.isSome)]) (λy=>[Gb y.1 (o.getD ya.z),Ca b m gb hb sb vw vo,vb m gb cb d w tn,ta cb m.c u,hv,X,Oa hb m.rg y.2.1,y.2.2,R]) ?_ ?_
  .refine U6 (ml [5,2,3,2]) [Ca b m gb hb sb vw vo] ?_;repeat' first|refine ga ?_|refine al λ_=>?_|refine WY.lf ?_|refine WY.back ?_|refine vn 0 ?_|refine vn 1 ?_|refine vn 2 ?_|refine vn 3 ?_|refine vn 4 ?_|refine vn 7 ?_|refine vn 8 ?_|refine vn 9 ?_|refine WY.Cv 5 10 (by decide+kernel) rfl rfl ?_ ?_|refine WY.Cv 6 10 (by decide+kernel) rfl rfl ?_ ?_|refine KM 5 ?_|refine KM 6 ?_|refine KM 10 ?_|refine KM 11 ?_|refine WY.fin (by kernel_rfl) ?_|refine cq ZX ?_|(refine I.cl ?_;refine ck Qe ?_;rintro _ _ ⟨v2,h2,rfl,rfl,Sa⟩;simp only[ca,na])|refine xg ya.z.enc (o.getD ya.z).enc ?_
   all_goals exact D.aQ (_,v2,h2) Sa
  .rintro⟨b3,v2,h2⟩ Sa;simp only[] at Sa⊢;unfold Ar at QO;by_cases ay:Ce m.Wb m.hd<0
   .rw[if_pos ay] at QO;obtain⟨rfl,rfl⟩:=Prod.mk.inj QO;have hst:=ua.ej ay m.hd.length;rw[hst] at hp;rw[<-hp];try refine ga ?_
    refine D.Vd [Ca b m gb hb sb vw vo,vb m gb cb d w tn,ta cb m.c u,hv,X,Oa hb m.rg v2,h2,R] (H2:=[Ca b m gb hb sb vw vo,vb m gb cb d w tn++(ta cb m.c u++(hv++X)),Oa hb m.rg v2,h2,R]) (by simp) ?_;exact D.ri [Ca b m gb hb sb vw vo,vb m gb cb d w tn++(ta cb m.c u++(hv++X)),Oa hb m.rg v2,h2] _ rfl ⟨rfl,_,_,_,rfl,hm2.mono (by omega),Sa⟩
   .rw[if_neg ay] at QO;obtain⟨rfl,rfl⟩:=Prod.mk.inj QO;obtain⟨e1,e2⟩:=ua.pz (n:=m) (by omega);rw[e1] at hp;obtain⟨k,hk⟩:∃k,(Ce m.Wb m.hd).toNat=k:=⟨_,rfl⟩;rw[hk] at hp e2 Sa⊢;have hin:=pV Eg.ok hm2 hT2 (by omega) (m.hd.getD k ya.z);rw[Ga.mV n7] at hin;have L1:=Eg.Ai (by omega) k;have o7:Ke (m.Ai k).c:=Ga.qz Eg.ok n7 _;have nr:=ua.ku m k;have hce:Ca b (m.Ai k) gb hb sb vw vo=Ca b m gb hb sb vw vo:=by unfold Ca;rw[ua.II m k gb hb sb vw vo]
    try refine ga ?_
    refine W.h0 [Gb b3 (m.hd.getD k ya.z),Ca b m gb hb sb vw vo,vb m gb cb d w tn,ta cb m.c u,hv,X,Oa hb m.rg v2,h2,R] ?_;refine Wp (ml [5]) [Gb b3 (m.hd.getD k ya.z),Ca b m gb hb sb vw vo] ?_;repeat' first|refine ga ?_|refine Xf (m.hd.getD k ya.z).enc (m.hd.getD k ya.z).enc ?_
    refine ck hin ?_;rintro _ _ ⟨rfl,l2,rfl,ny⟩;refine Za ?_;exact D.round (m.Ai k,M+1,v2,h2,l2,T1+243) ⟨L1,o7,by simp only[];omega,by simp only[];omega,by simp only[];omega,ny,Sa,hp⟩ (by simp only[];omega) (by repeat(first|exact Aa.nil|refine Aa.cons rfl ?_)) (by simp only[];rw[hce,nr];exact(Ia.qa inferInstance))
 .rw[if_neg ch];rw[rj ch] at hih;subst e;refine ce func92 λg R=>?_;simp only[can];refine W.f0 [Ca b n gb hb sb vw vo,vb n gb cb d w tn,ta cb n.c u,hv,X,Oa hb n.rg v,hh,R] ?_;repeat' first|refine ga ?_|refine cq hih ?_
  refine D.Vd [Ca b n gb hb sb vw vo,vb n gb cb d w tn,ta cb n.c u,hv,X,Oa hb n.rg v,hh,R] (H2:=[Ca b n gb hb sb vw vo,vb n gb cb d w tn++(ta cb n.c u++(hv++X)),Oa hb n.rg v,hh,R]) (by simp) ?_;exact D.ri [Ca b n gb hb sb vw vo,vb n gb cb d w tn++(ta cb n.c u++(hv++X)),Oa hb n.rg v,hh] _ rfl ⟨rfl,_,_,_,rfl,hm0.mono (by omega),hs⟩
theorem rz{hl:Hp}(hm:Tf n.s gb T hl){v:Value}{hh:Hp}(hs:ia 49 n.hd v hh):Ct prog 92 [b] [Ca b n gb hb sb vw vo,hl,Oa hb n.rg v,hh]
  (λr H'=>r= .tuple #[]/\∃hl' v' zj,H'=[Ca b n.pull gb hb sb vw vo,hl',Oa hb n.pull.rg v',zj]/\Tf n.pull.s gb (T+3888) hl'/\ia 49 n.pull.hd v' zj):=by
 obtain⟨cb,hm⟩:=hm;exact(aN n b gb hb sb vw vo N T ok cs hN Qh hT (cb:=cb) hm hs).mono λr H' ⟨h1,hl',v',zj,h2,h3,h4⟩=>⟨h1,hl',v',zj,h2,⟨cb,h3⟩,h4⟩
end
end Go.Proofs.YthebagfahkebiaaGreat
