/- Texts of one road. -/
import Derived.Test.YthebagfahkebiaaGreatRAY
set_option linter.all false
set_option maxHeartbeats 8000000
set_option maxRecDepth 20000
namespace Go.Proofs.YthebagfahkebiaaGreat
open Go Go.Sl Go.Proofs.Tryz List
def ua.cells(n:ua)(lb hb sb:Nat)(vw:Value):List Value:=
 [.pointer (some ⟨lb,0,none⟩),.int .i64 n.Ec,.int .i64 n.rn,.int .i64 n.nn,.int .i64 n.cl,.int .i64 n.dc,.int .i64 n.rg,.int .i64 n.nd,vw,.pointer (some ⟨hb,0,none⟩)]++(n.kn.enc++(.pointer (some ⟨sb,0,none⟩)::n.mr.enc))
abbrev za(b:Nat)(n:ua)(lb hb sb:Nat)(vw:Value):Hp:=[(b,.cells (List.toArray (n.cells lb hb sb vw)) 67 (0,0))]
abbrev Pa(n:ua)(lb cb d w:Nat):Hp:=Mb lb cb n.s.c0.dc n.s.c0.rg n.s.c0.nd d w n.s.jb
abbrev Rp(b:Nat)(a:Ki):Hp:=[(b,.cells (List.toArray a.enc) 35 (0,0))]
abbrev Yb(b:Nat)(m:Da):Hp:=[(b,.cells (List.toArray m.enc) 52 (0,0))]
def Da.fM(k:Int)(fr to:Ki)(ep ix ct op tr:Int)(cf:Wa)(en F8:ya)(has:Bool)(key val:ByteArray)(dead snap:Bool)(dp av:V9)(c0 c1 c2 code:Int):
  setAt (Da.enc ⟨k,fr,to,ep,ix,ct,op,tr,cf,en,has,key,val,dead,snap,dp,av,c0,c1,c2,code⟩) 27 F8.enc=Da.enc ⟨k,fr,to,ep,ix,ct,op,tr,cf,F8,has,key,val,dead,snap,dp,av,c0,c1,c2,code⟩:=by
 have h1:Da.enc ⟨k,fr,to,ep,ix,ct,op,tr,cf,en,has,key,val,dead,snap,dp,av,c0,c1,c2,code⟩=((.int .i64 k::(fr.enc++(to.enc++([.int .i64 ep,.int .i64 ix,.int .i64 ct,.int .i64 op,.int .i64 tr]++cf.enc))))++en.enc)++([.bool has,.string key,.string val,.bool dead,.bool snap]++(dp.enc++(av.enc++[.int .i64 c0,.int .i64 c1,.int .i64 c2,.int .i64 code]))):=rfl;rw[h1,yc _ _ _ _ (Nat.le_refl 47),Vf F8.enc en.enc 27 _ rfl rfl];rfl
def wH(dc rg k:Int):Ct prog 159 [dc,rg,k] [] (λr H'=>r= .agg (List.toArray (Ki.enc ⟨1,dc,rg,k⟩))/\H'=[]):=by
 refine ce func159 λg R=>?_;repeat' first|refine Za ?_|refine al λ_=>?_|refine jf (Ki.enc ⟨1,dc,rg,k⟩) ?_|refine xg Ki.z.enc (Ki.enc ⟨1,dc,rg,k⟩) ?_
 exact D.Gc [] _ rfl (.Va rfl rfl .nil) ⟨rfl,rfl⟩
section
variable(n:ua)(b lb hb sb cb d w:Nat)(vw v:Value)
def Vj(kind:Int)(to:Ki):Ct prog 75 [b,kind,.agg (List.toArray to.enc)] [za b n lb hb sb vw] (λr H'=>r= .agg (List.toArray (n.out kind to).enc)/\H'=[za b n lb hb sb vw]):=by
 have ha:=wH n.dc n.rg n.nd;refine ce func75 λg R=>?_;repeat' first|refine Za ?_|refine Uc λ_=>?_|refine al λ_=>?_
 rename_i b5 b6;refine W.h0 [Yb b6 Da.z,Rp b5 to,za b n lb hb sb vw,R] ?_;refine Wp (ml [13,1,2]) [za b n lb hb sb vw,Rp b5 to] ?_;repeat' first|refine ga ?_|refine Pg to.enc ?_|refine cq ha ?_|refine jf (Da.enc (n.out kind to)) ?_|refine xg Da.z.enc (n.out kind to).enc ?_
 exact D.Gc [za b n lb hb sb vw] _ rfl (.Va rfl rfl .nil) ⟨rfl,rfl⟩
def HJ(k:Int):Ct prog 161 [b,k] [za b n lb hb sb vw] (λr H'=>r= .agg (List.toArray (n.at_ k).enc)/\H'=[za b n lb hb sb vw]):=by
 have ha:=wH n.dc n.rg k;refine ce func161 λg R=>?_;repeat' first|refine Za ?_|refine al λ_=>?_
 refine Wp (ml [9,1]) [za b n lb hb sb vw] ?_;repeat' first|refine ga ?_|refine cq ha ?_|refine xg Ki.z.enc (n.at_ k).enc ?_
 exact D.Gc [za b n lb hb sb vw] _ rfl (.Va rfl rfl .nil) ⟨rfl,rfl⟩
def Ns:Ct prog 66 [b] [za b n lb hb sb vw] (λr H'=>r= .agg (List.toArray n.Fc.enc)/\H'=[za b n lb hb sb vw]):=by
 refine ce func66 λg R=>?_;repeat' first|refine Za ?_|refine al λ_=>?_|refine jf n.Fc.enc ?_|refine xg Ki.z.enc n.Fc.enc ?_
 exact D.Gc [za b n lb hb sb vw] _ rfl (.Va rfl rfl .nil) ⟨rfl,rfl⟩
def ZF(to:Ki):Ct prog 64 [b,.agg (List.toArray to.enc)] [za b n lb hb sb vw,Pa n lb cb d w,ja cb n.c v] (λr H'=>r= .agg (List.toArray (n.Jx to).enc)/\H'=[za b n lb hb sb vw,Pa n lb cb d w,ja cb n.c v]):=by
 have ho:=Vj n b lb hb sb vw 8 to;have h1:=Sg n.c cb v;have h2:=Bm n.c cb v;have h3:=Gg n.c cb v;refine ce func64 λg R=>?_;repeat' first|refine Za ?_|refine Uc λ_=>?_|refine al λ_=>?_|refine Pg to.enc ?_|refine cq ho ?_|refine xg Da.z.enc (n.out 8 to).enc ?_
 refine Wp (ml [7,1,7,1,7,1,1,1,1,1,1,1]) [za b n lb hb sb vw,Pa n lb cb d w] ?_;repeat' first|refine ga ?_|refine cq h1 ?_|refine cq h2 ?_|refine cq h3 ?_
 refine ei (Da.enc (n.out 8 to)) (Da.enc {n.out 8 to with ep:=n.ep}) ?_;try refine ga ?_
 refine ei (Da.enc {n.out 8 to with ep:=n.ep}) (Da.enc {n.out 8 to with ep:=n.ep,ct:=n.c.du}) ?_;try refine ga ?_
 refine ei (Da.enc {n.out 8 to with ep:=n.ep,ct:=n.c.du}) (Da.enc (n.Jx to)) ?_;repeat' first|refine ga ?_|refine Xf (n.Jx to).enc (n.Jx to).enc ?_|refine xg Da.z.enc (n.Jx to).enc ?_
 exact D.Gc [za b n lb hb sb vw,Pa n lb cb d w,ja cb n.c v] _ rfl (.Va rfl rfl .nil) ⟨rfl,rfl⟩
end
def aA(s:CS)(b:Nat)(v:Value):Ct prog 33 [b] [ja b s v] (λr H'=>r= .bool s.su/\H'=[ja b s v]):=by
 refine ng func33 λg R=>?_;exact Wi [ja b s v]
def Yv(s:CS)(b:Nat)(v:Value):Ct prog 120 [b] [ja b s v] (λr H'=>r= .int .i64 s.ak/\H'=[ja b s v]):=by
 refine ng func120 λg R=>?_;exact Wi [ja b s v]
def RF{s:CS}(ok:Ni s.co)(b:Nat)(v:Value):Ct prog 31 [b] [ja b s v] (λr H'=>r= .bool (sk s.co s.nd)/\H'=[ja b s v]):=by
 have hf:=cI ok s.nd;refine ng func31 λg R=>?_;refine wq ?_;repeat' first|refine ga ?_|refine Xf (s.cells v) (jc s.co).enc ?_|refine cq hf ?_
 exact Wi [ja b s v]
def Ga.ur(s:Ga):s.ch.nd=s.c0.nd/\s.ch.dc=s.c0.dc/\s.ch.rg=s.c0.rg:=by cases s<;>exact⟨rfl,rfl,rfl⟩
section
variable(n:ua)(b lb hb sb cb d w:Nat)(vw v:Value)(xb:Ob n.c)
def aG:Ct prog 60 [b] [za b n lb hb sb vw,Pa n lb cb d w,ja cb n.c v] (λr H'=>r= .agg (List.toArray [n.c.du,n.c.st,n.c.ak])/\H'=[za b n lb hb sb vw,Pa n lb cb d w,ja cb n.c v]):=by
 have h1:=Bm n.c cb v;have h2:=Gg n.c cb v;have h3:=Yv n.c cb v;refine ce func60 λg R=>?_;repeat' first|refine Za ?_|refine al λ_=>?_
 refine Wp (ml [7,1,7,1,7,1,1]) [za b n lb hb sb vw,Pa n lb cb d w] ?_;repeat' first|refine ga ?_|refine cq h1 ?_|refine cq h2 ?_|refine cq h3 ?_|refine jf [n.c.du,n.c.st,n.c.ak] ?_|refine xg [.int .i64 0,.int .i64 0,.int .i64 0] [n.c.du,n.c.st,n.c.ak] ?_
 exact D.Gc [za b n lb hb sb vw,Pa n lb cb d w,ja cb n.c v] _ rfl (.Va rfl rfl .nil) ⟨rfl,rfl⟩
include xb
theorem IJ:Ct prog 70 [b] [za b n lb hb sb vw,Pa n lb cb d w,ja cb n.c v] (λr H'=>r= .bool n.sure/\H'=[za b n lb hb sb vw,Pa n lb cb d w,ja cb n.c v]):=by
 have h1:=Dq xb.co cb v;have h2:=aA n.c cb v;unfold ua.sure;refine ce func70 λg R=>?_;simp only[can];by_cases hl:n.c.last
 .rw[Mi hl] at h1⊢;repeat' first|refine ga ?_|refine cq h1 ?_|refine cq h2 ?_
  exact Xa [za b n lb hb sb vw,Pa n lb cb d w,ja cb n.c v] rfl rfl ⟨by rw[Bool.true_and],rfl⟩
 .rw[rj hl] at h1⊢;repeat' first|refine ga ?_|refine cq h1 ?_
  exact Xa [za b n lb hb sb vw,Pa n lb cb d w,ja cb n.c v] rfl rfl ⟨by rw[Bool.false_and],rfl⟩
theorem bG:Ct prog 76 [b] [za b n lb hb sb vw,Pa n lb cb d w,ja cb n.c v] (λr H'=>∃h',ia 52 n.Yd r h'/\H'=[h',za b n lb hb sb vw,Pa n lb cb d w,ja cb n.c v]):=by
 have h1:=eo n.c cb v;have h2:=Ny xb.co n.nd;unfold ua.Yd;obtain⟨k,hk⟩:∃k,Nd n.c.co n.nd=k:=⟨_,rfl⟩;rw[hk] at h2⊢;have h3:=HJ n b lb hb sb vw k;have h4:=ZF n b lb hb sb cb d w vw v (n.at_ k);refine ng func76 λg R=>?_;refine Wp (ml [7,1,4,1]) [za b n lb hb sb vw,Pa n lb cb d w] ?_;by_cases c1:0<=k
 .rw[if_pos c1];repeat' first|refine ga ?_|refine cq h1 ?_|refine cq h2 ?_|refine cq h3 ?_|refine cq h4 ?_
  refine Up [n.Jx (n.at_ k)] (λv4 h4 hs4=>?_);try refine ga ?_
  exact Xa [h4,za b n lb hb sb vw,Pa n lb cb d w,ja cb n.c v] rfl rfl ⟨_,hs4,rfl⟩
 .rw[if_neg c1];repeat' first|refine ga ?_|refine cq h1 ?_|refine cq h2 ?_
  exact Xa [[],za b n lb hb sb vw,Pa n lb cb d w,ja cb n.c v] rfl rfl ⟨_,ia.nil _,rfl⟩
theorem fA:Ct prog 74 [b] [za b n lb hb sb vw,Pa n lb cb d w,ja cb n.c v] (λr H'=>∃h',ia 52 n.Af r h'/\H'=[h',za b n lb hb sb vw,Pa n lb cb d w,ja cb n.c v]):=by
 have h1:=gM xb cb v;have h2:=Ns n b lb hb sb vw;have h3:=Vj n b lb hb sb vw 11 n.Fc;have h4:=Sg n.c cb v;unfold ua.Af
 cases hg:n.c.XX with
 |false=>
  rw[hg] at h1;refine ce func74 λg R=>?_;repeat' first|refine Za ?_|refine cq h1 ?_
  exact Xa [[],za b n lb hb sb vw,Pa n lb cb d w,ja cb n.c v] rfl rfl ⟨_,ia.nil _,rfl⟩
 |true=>
  rw[hg] at h1;refine ce func74 λg R=>?_;repeat' first|refine Za ?_|refine al λ_=>?_|refine cq h1 ?_|refine cq h2 ?_|refine cq h3 ?_|refine cq h4 ?_|refine xg Da.z.enc (n.out 11 n.Fc).enc ?_
  refine ei (Da.enc (n.out 11 n.Fc)) (Da.enc {n.out 11 n.Fc with ep:=n.ep}) ?_;repeat' first|refine ga ?_|refine Pg (Da.enc {n.out 11 n.Fc with ep:=n.ep}) ?_
  refine Up [({n.out 11 n.Fc with ep:=n.ep}:Da)] (λv4 h4 hs4=>?_);try refine ga ?_
  exact Xa [h4,za b n lb hb sb vw,Pa n lb cb d w,ja cb n.c v] rfl rfl ⟨_,hs4,rfl⟩
variable{hv:Hp}(hs:Rs n.c.lg v hv)
include hs
theorem JJ(to:Ki)(op tr ix:Int)(hi: -4611686018427387904<=ix/\ix<=4611686018427387904):Ct prog 143 [b,.agg (List.toArray to.enc),op,tr,ix] [za b n lb hb sb vw,Pa n lb cb d w,ja cb n.c v,hv] (λr H'=>r= .agg (List.toArray (n.Jj ⟨to,op,tr,ix⟩).enc)/\H'=[za b n lb hb sb vw,Pa n lb cb d w,ja cb n.c v,hv]):=by
 have tg:=xb.len;have h1:=Vj n b lb hb sb vw 4 to;have h2:=XK n.c cb hs (by omega) ix hi;refine ce func143 λg R=>?_;repeat' first|refine Za ?_|refine Uc λ_=>?_|refine al λ_=>?_|refine Pg to.enc ?_|refine cq h1 ?_|refine xg Da.z.enc (n.out 4 to).enc ?_
 rename_i I3;refine ei (Da.enc (n.out 4 to)) (Da.enc {n.out 4 to with op:=op}) ?_;try refine ga ?_
 refine ei (Da.enc {n.out 4 to with op:=op}) (Da.enc {n.out 4 to with op:=op,tr:=tr}) ?_;try refine ga ?_
 refine ei (Da.enc {n.out 4 to with op:=op,tr:=tr}) (Da.enc {n.out 4 to with op:=op,tr:=tr,has:=true}) ?_;repeat' first|refine ga ?_|refine cq h2 ?_
 refine WX.qd (vs:=(n.Qg ix).enc) (b:=I3) (i:=27) (cs:=Da.enc {n.out 4 to with op:=op,tr:=tr,has:=true}) rfl rfl rfl (ya.Cp _) (ya.one _) rfl ?_;rw[Da.fM];repeat' first|refine ga ?_|refine Xf (n.Jj ⟨to,op,tr,ix⟩).enc (n.Jj ⟨to,op,tr,ix⟩).enc ?_|refine xg Da.z.enc (n.Jj ⟨to,op,tr,ix⟩).enc ?_
 exact D.Gc [za b n lb hb sb vw,Pa n lb cb d w,ja cb n.c v,hv] _ rfl (.Va rfl rfl .nil) ⟨rfl,rfl⟩
end
def CS.wF{s:CS}(h:Ke s)(ok:Ob s):0<=s.IG.1/\s.IG.1<=1000000:=by
 have h1:=h.ak;have h2:=ok.du;have h3:=ok.len;have h4:s.len=(s.lg.length:Int):=rfl;unfold CS.IG;split
 .exact⟨by decide,by decide⟩
 .split
  .simp only[];omega
  .split
   .simp only[];omega
   .exact⟨by decide,by decide⟩
section
variable(n:ua)(b lb hb sb cb d w:Nat)(vw v:Value)(xb:Ob n.c)(Ft:Ke n.c){hv:Hp}(hs:Rs n.c.lg v hv)
include xb Ft hs
theorem ax:Ct prog 77 [b] [za b n lb hb sb vw,Pa n lb cb d w,ja cb n.c v,hv] (λr H'=>∃h',ia 52 n.Qm r h'/\H'=[h',za b n lb hb sb vw,Pa n lb cb d w,ja cb n.c v,hv]):=by
 have tg:=xb.len;have Qe:=eT xb Ft.ak.1 cb v;have hcf:=eo n.c cb v;have Bt:=gv xb.co n.nd;have EU:=Sg n.c cb v;have hr:=CS.wF Ft xb;unfold ua.Qm;obtain⟨k,hk⟩:∃k,Vc n.c.co n.nd=k:=⟨_,rfl⟩;rw[hk] at Bt⊢;have hpe:=HJ n b lb hb sb vw k;have J3:=Vj n b lb hb sb vw 7 (n.at_ k);obtain⟨⟨i,o⟩,j7⟩:∃x:Int×Bool,n.c.IG=x:=⟨_,rfl⟩;rw[j7] at Qe hr⊢;simp only[] at Qe hr⊢;have Cj:=XK n.c cb hs (by omega) i (by omega)
 cases o with
 |false=>
  refine ce func77 λg R=>?_;repeat' first|refine Za ?_|refine cq Qe ?_
  exact Xa [[],za b n lb hb sb vw,Pa n lb cb d w,ja cb n.c v,hv] rfl rfl ⟨_,ia.nil _,rfl⟩
 |true=>
  refine ce func77 λg R=>?_;repeat' first|refine Za ?_|refine cq Qe ?_
  refine W.cj (α:=Nat) (λ_=>True) (λb5=>[(0,b),(3,i),(5,b5)]) (λb5=>[Yb b5 (n.out 7 (n.at_ k)),za b n lb hb sb vw,Pa n lb cb d w,ja cb n.c v,hv,R]) ?_ ?_
  .refine U6 (ml [9,1,4,4]) [za b n lb hb sb vw,Pa n lb cb d w] ?_;repeat' first|refine ga ?_|refine al λ_=>?_|refine WY.lf ?_|refine WY.back ?_|refine vn 0 ?_|refine vn 1 ?_|refine vn 2 ?_|refine vn 3 ?_|refine vn 4 ?_|refine vn 5 ?_|refine vn 6 ?_|refine vn 7 ?_|refine vn 8 ?_|refine vn 10 ?_|refine vn 11 ?_|refine vn 12 ?_|refine vn 13 ?_|refine WY.Cv 9 17 (by decide+kernel) rfl rfl ?_ ?_|refine WY.Cv 14 17 (by decide+kernel) rfl rfl ?_ ?_|refine WY.Cv 15 17 (by decide+kernel) rfl rfl ?_ ?_|refine WY.Cv 16 17 (by decide+kernel) rfl rfl ?_ ?_|refine KM 9 ?_|refine KM 14 ?_|refine KM 15 ?_|refine KM 16 ?_|refine KM 17 ?_|refine WY.fin (by kernel_rfl) ?_|refine cq hcf ?_|refine cq Bt ?_|refine cq hpe ?_|refine cq J3 ?_
   all_goals
    refine xg Da.z.enc (n.out 7 (n.at_ k)).enc ?_;refine WX.nil ?_;exact D.aQ _ trivial
  .rintro b5 -;repeat' first|refine ga ?_|refine cq EU ?_
   refine ei (Da.enc (n.out 7 (n.at_ k))) (Da.enc {n.out 7 (n.at_ k) with ep:=n.ep}) ?_;try refine ga ?_
   refine ei (Da.enc {n.out 7 (n.at_ k) with ep:=n.ep}) (Da.enc {n.out 7 (n.at_ k) with ep:=n.ep,ix:=i}) ?_;repeat' first|refine ga ?_|refine cq Cj ?_
   refine WX.qd (vs:=(n.Qg i).enc) (b:=b5) (i:=27) (cs:=Da.enc {n.out 7 (n.at_ k) with ep:=n.ep,ix:=i}) rfl rfl rfl (ya.Cp _) (ya.one _) rfl ?_;rw[Da.fM];repeat' first|refine ga ?_|refine Pg (Da.enc {n.out 7 (n.at_ k) with ep:=n.ep,ix:=i,en:=n.Qg i}) ?_
   refine Up [({n.out 7 (n.at_ k) with ep:=n.ep,ix:=i,en:=n.Qg i}:Da)] (λv4 h4 hs4=>?_);try refine ga ?_
   exact Xa [h4,za b n lb hb sb vw,Pa n lb cb d w,ja cb n.c v,hv] rfl rfl ⟨_,hs4,rfl⟩
theorem No:Ct prog 78 [b] [za b n lb hb sb vw,Pa n lb cb d w,ja cb n.c v,hv] (λr H'=>∃h',ia 49 n.Kb r h'/\H'=[h',za b n lb hb sb vw,Pa n lb cb d w,ja cb n.c v,hv]):=by
 have tg:=xb.len;have h4:n.c.len=(n.c.lg.length:Int):=rfl;have h1:=Ft.st;have h2:=xb.du;obtain⟨K,hK⟩:∃K:Nat,n.c.st=(K:Int):=⟨n.c.st.toNat,by omega⟩;have hle:K<=n.c.lg.length:=by omega
 have hst:=Gg n.c cb v;unfold ua.Kb;rw[hK] at hst⊢;refine ng func78 λg R=>?_;refine Wp (ml [7,1,7,1]) [za b n lb hb sb vw,Pa n lb cb d w] ?_;try refine ga ?_
 refine ck (Fq n.c cb hs (by omega)) ?_;rintro _ _ ⟨h5,hs5,rfl⟩;repeat' first|refine Za ?_|refine cq hst ?_
 refine sl rfl rfl hs5.rs ?_ hle;obtain⟨p,l,c,e1,e2⟩:=hs5.take K hle;subst e1;try refine ga ?_
 exact Xa [h5,za b n lb hb sb vw,Pa n lb cb d w,ja cb n.c v,hv] rfl rfl ⟨_,e2,rfl⟩
end
end Go.Proofs.YthebagfahkebiaaGreat
