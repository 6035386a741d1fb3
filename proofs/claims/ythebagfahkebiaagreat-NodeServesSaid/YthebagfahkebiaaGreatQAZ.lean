/- Texts of one road. -/
import Derived.Test.YthebagfahkebiaaGreatQAY
set_option linter.all false
set_option maxHeartbeats 8000000
set_option maxRecDepth 20000
namespace Go.Proofs.YthebagfahkebiaaGreat
open Go Go.Sl Go.Proofs.Tryz List
def va.cells(n:va)(lb hb sb:Nat)(vw:Value):List Value:=
 [.pointer (some ⟨lb,0,none⟩),.int .i64 n.fc,.int .i64 n.rn,.int .i64 n.nn,.int .i64 n.cl,.int .i64 n.dc,.int .i64 n.rg,.int .i64 n.nd,vw,.pointer (some ⟨hb,0,none⟩)]++(n.kn.enc++(.pointer (some ⟨sb,0,none⟩)::n.mr.enc))
abbrev za(b:Nat)(n:va)(lb hb sb:Nat)(vw:Value):Hp:=[(b,.cells (List.toArray (n.cells lb hb sb vw)) 67 (0,0))]
abbrev xb(n:va)(lb cb d w:Nat):Hp:=Jb lb cb n.s.c0.dc n.s.c0.rg n.s.c0.nd d w n.s.Xa
abbrev Fp(b:Nat)(a:Bl):Hp:=[(b,.cells (List.toArray a.enc) 35 (0,0))]
abbrev Jc(b:Nat)(m:Da):Hp:=[(b,.cells (List.toArray m.enc) 52 (0,0))]
def Da.WL(k:Int)(fr to:Bl)(ep ix ct op tr:Int)(cf:Va)(en Q8:ya)(has:Bool)(key val:ByteArray)(dead snap:Bool)(dp av:V9)(c0 c1 c2 code:Int):
  setAt (Da.enc ⟨k,fr,to,ep,ix,ct,op,tr,cf,en,has,key,val,dead,snap,dp,av,c0,c1,c2,code⟩) 27 Q8.enc=Da.enc ⟨k,fr,to,ep,ix,ct,op,tr,cf,Q8,has,key,val,dead,snap,dp,av,c0,c1,c2,code⟩:=by
 have h1:Da.enc ⟨k,fr,to,ep,ix,ct,op,tr,cf,en,has,key,val,dead,snap,dp,av,c0,c1,c2,code⟩=((.int .i64 k::(fr.enc++(to.enc++([.int .i64 ep,.int .i64 ix,.int .i64 ct,.int .i64 op,.int .i64 tr]++cf.enc))))++en.enc)++([.bool has,.string key,.string val,.bool dead,.bool snap]++(dp.enc++(av.enc++[.int .i64 c0,.int .i64 c1,.int .i64 c2,.int .i64 code]))):=rfl;rw[h1,tc _ _ _ _ (Nat.le_refl 47),Sf Q8.enc en.enc 27 _ rfl rfl];rfl
def qH(dc rg k:Int):Ct prog 159 [dc,rg,k] [] (λr H'=>r= .agg (List.toArray (Bl.enc ⟨1,dc,rg,k⟩))/\H'=[]):=by
 refine ce func159 λg R=>?_;repeat' first|refine vb ?_|refine al λ_=>?_|refine Vf (Bl.enc ⟨1,dc,rg,k⟩) ?_|refine nh Bl.z.enc (Bl.enc ⟨1,dc,rg,k⟩) ?_
 exact D.Dc [] _ rfl (.Ua rfl rfl .nil) ⟨rfl,rfl⟩
section
variable(n:va)(b lb hb sb cb d w:Nat)(vw v:Value)
def Sj(kind:Int)(to:Bl):Ct prog 75 [.pointer (some ⟨b,0,none⟩),.int .i64 kind,.agg (List.toArray to.enc)] [za b n lb hb sb vw] (λr H'=>r= .agg (List.toArray (n.out kind to).enc)/\H'=[za b n lb hb sb vw]):=by
 have ha:=qH n.dc n.rg n.nd;refine ce func75 λg R=>?_;repeat' first|refine vb ?_|refine bx rfl λ_=>?_|refine al λ_=>?_
 rename_i b5 b6;refine W.hp (H':=[Jc b6 Da.z,Fp b5 to,za b n lb hb sb vw,R]) rfl ?_;refine W.od (List.replicate 13 true++[false,true,true]) [za b n lb hb sb vw,Fp b5 to] Tryz.mix (by kernel_rfl) ?_;repeat' first|refine ga ?_|refine Pa to.enc to.enc rfl ?_|refine cq ha ?_|refine Vf (Da.enc (n.out kind to)) ?_|refine ud Da.z.enc (n.out kind to).enc rfl rfl ?_
 exact D.Dc [za b n lb hb sb vw] _ rfl (.Ua rfl rfl .nil) ⟨rfl,rfl⟩
def qJ(k:Int):Ct prog 161 [.pointer (some ⟨b,0,none⟩),.int .i64 k] [za b n lb hb sb vw] (λr H'=>r= .agg (List.toArray (n.at_ k).enc)/\H'=[za b n lb hb sb vw]):=by
 have ha:=qH n.dc n.rg k;refine ce func161 λg R=>?_;repeat' first|refine vb ?_|refine al λ_=>?_
 refine W.od (List.replicate 9 true++[false]) [za b n lb hb sb vw] Tryz.mix (by kernel_rfl) ?_;repeat' first|refine ga ?_|refine cq ha ?_|refine ud Bl.z.enc (n.at_ k).enc rfl rfl ?_
 exact D.Dc [za b n lb hb sb vw] _ rfl (.Ua rfl rfl .nil) ⟨rfl,rfl⟩
def As:Ct prog 66 [.pointer (some ⟨b,0,none⟩)] [za b n lb hb sb vw] (λr H'=>r= .agg (List.toArray n.Cc.enc)/\H'=[za b n lb hb sb vw]):=by
 refine ce func66 λg R=>?_;repeat' first|refine vb ?_|refine al λ_=>?_|refine Vf n.Cc.enc ?_|refine ud Bl.z.enc n.Cc.enc rfl rfl ?_
 exact D.Dc [za b n lb hb sb vw] _ rfl (.Ua rfl rfl .nil) ⟨rfl,rfl⟩
def SF(to:Bl):Ct prog 64 [.pointer (some ⟨b,0,none⟩),.agg (List.toArray to.enc)] [za b n lb hb sb vw,xb n lb cb d w,oa cb n.c v] (λr H'=>r= .agg (List.toArray (n.Zy to).enc)/\H'=[za b n lb hb sb vw,xb n lb cb d w,oa cb n.c v]):=by
 have ho:=Sj n b lb hb sb vw 8 to;have h1:=Si n.c cb v;have h2:=Vn n.c cb v;have h3:=Ag n.c cb v;refine ce func64 λg R=>?_;repeat' first|refine vb ?_|refine bx rfl λ_=>?_|refine al λ_=>?_|refine Pa to.enc to.enc rfl ?_|refine cq ho ?_|refine ud Da.z.enc (n.out 8 to).enc rfl rfl ?_
 refine W.od (List.replicate 7 true++[false]++List.replicate 7 true++[false]++List.replicate 7 true++[false,true,false,true,false,true,false]) [za b n lb hb sb vw,xb n lb cb d w] Tryz.mix (by kernel_rfl) ?_;repeat' first|refine ga ?_|refine cq h1 ?_|refine cq h2 ?_|refine cq h3 ?_
 refine Td (Da.enc (n.out 8 to)) (Da.enc {n.out 8 to with ep:=n.ep}) rfl rfl ?_;try refine ga ?_
 refine Td (Da.enc {n.out 8 to with ep:=n.ep}) (Da.enc {n.out 8 to with ep:=n.ep,ct:=n.c.du}) rfl rfl ?_;try refine ga ?_
 refine Td (Da.enc {n.out 8 to with ep:=n.ep,ct:=n.c.du}) (Da.enc (n.Zy to)) rfl rfl ?_;repeat' first|refine ga ?_|refine Pa (n.Zy to).enc (n.Zy to).enc rfl ?_|refine ud Da.z.enc (n.Zy to).enc rfl rfl ?_
 exact D.Dc [za b n lb hb sb vw,xb n lb cb d w,oa cb n.c v] _ rfl (.Ua rfl rfl .nil) ⟨rfl,rfl⟩
end
def Nz(s:CS)(b:Nat)(v:Value):Ct prog 33 [.pointer (some ⟨b,0,none⟩)] [oa b s v] (λr H'=>r= .bool s.su/\H'=[oa b s v]):=by
 refine Ct.mk' func33 rfl rfl rfl (λg R=>?_);try simp only[ca]
 simp only[na];try refine ga ?_
 exact D.Ia [oa b s v] _ rfl rfl ⟨rfl,rfl⟩
def UF(s:CS)(b:Nat)(v:Value):Ct prog 120 [.pointer (some ⟨b,0,none⟩)] [oa b s v] (λr H'=>r= .int .i64 s.ak/\H'=[oa b s v]):=by
 refine Ct.mk' func120 rfl rfl rfl (λg R=>?_);try simp only[ca]
 simp only[na];try refine ga ?_
 exact D.Ia [oa b s v] _ rfl rfl ⟨rfl,rfl⟩
def wP{s:CS}(ok:Ii s.co)(b:Nat)(v:Value):Ct prog 31 [.pointer (some ⟨b,0,none⟩)] [oa b s v] (λr H'=>r= .bool (xm s.co s.nd)/\H'=[oa b s v]):=by
 have hf:=UH ok s.nd;refine Ct.mk' func31 rfl rfl rfl (λg R=>?_);try simp only[ca]
 simp only[na];try refine ga ?_
 refine W.quiet Tryz.mix (by kernel_rfl) ?_;repeat'(first|refine ga ?_|refine Pa (s.cells v) (Yb s.co).enc rfl ?_|refine WX.ja rfl hf rfl ?_|fail)
 exact D.Ia [oa b s v] _ rfl rfl ⟨rfl,rfl⟩
def Ea.Uq(s:Ea):s.ch.nd=s.c0.nd/\s.ch.dc=s.c0.dc/\s.ch.rg=s.c0.rg:=by cases s<;>exact⟨rfl,rfl,rfl⟩
section
variable(n:va)(b lb hb sb cb d w:Nat)(vw v:Value)(ob:Lb n.c)
def VF:Ct prog 60 [.pointer (some ⟨b,0,none⟩)] [za b n lb hb sb vw,xb n lb cb d w,oa cb n.c v] (λr H'=>r= .agg (List.toArray [.int .i64 n.c.du,.int .i64 n.c.st,.int .i64 n.c.ak])/\H'=[za b n lb hb sb vw,xb n lb cb d w,oa cb n.c v]):=by
 have h1:=Vn n.c cb v;have h2:=Ag n.c cb v;have h3:=UF n.c cb v;refine ce func60 λg R=>?_;repeat' first|refine vb ?_|refine al λ_=>?_
 refine W.od (List.replicate 7 true++[false]++List.replicate 7 true++[false]++List.replicate 7 true++[false,true]) [za b n lb hb sb vw,xb n lb cb d w] Tryz.mix (by kernel_rfl) ?_;repeat' first|refine ga ?_|refine cq h1 ?_|refine cq h2 ?_|refine cq h3 ?_|refine Vf [.int .i64 n.c.du,.int .i64 n.c.st,.int .i64 n.c.ak] ?_|refine ud [.int .i64 0,.int .i64 0,.int .i64 0] [.int .i64 n.c.du,.int .i64 n.c.st,.int .i64 n.c.ak] rfl rfl ?_
 exact D.Dc [za b n lb hb sb vw,xb n lb cb d w,oa cb n.c v] _ rfl (.Ua rfl rfl .nil) ⟨rfl,rfl⟩
include ob
theorem rJ:Ct prog 70 [.pointer (some ⟨b,0,none⟩)] [za b n lb hb sb vw,xb n lb cb d w,oa cb n.c v] (λr H'=>r= .bool n.sure/\H'=[za b n lb hb sb vw,xb n lb cb d w,oa cb n.c v]):=by
 have h1:=Zm ob.co cb v;have h2:=Nz n.c cb v;unfold va.sure;refine ce func70 λg R=>?_;simp only[can];by_cases hl:n.c.last
 .rw[decide_eq_true hl] at h1⊢;repeat' first|refine ga ?_|refine cq h1 ?_|refine cq h2 ?_
  exact Wa [za b n lb hb sb vw,xb n lb cb d w,oa cb n.c v] rfl rfl ⟨by rw[Bool.true_and],rfl⟩
 .rw[decide_eq_false hl] at h1⊢;repeat' first|refine ga ?_|refine cq h1 ?_
  exact Wa [za b n lb hb sb vw,xb n lb cb d w,oa cb n.c v] rfl rfl ⟨by rw[Bool.false_and],rfl⟩
theorem XF:Ct prog 76 [.pointer (some ⟨b,0,none⟩)] [za b n lb hb sb vw,xb n lb cb d w,oa cb n.c v] (λr H'=>∃h',ia 52 n.Jd r h'/\H'=[h',za b n lb hb sb vw,xb n lb cb d w,oa cb n.c v]):=by
 have h1:=jk n.c cb v;have h2:=xy ob.co n.nd;unfold va.Jd;obtain⟨k,hk⟩:∃k,Ed n.c.co n.nd=k:=⟨_,rfl⟩;rw[hk] at h2⊢;have h3:=qJ n b lb hb sb vw k;have h4:=SF n b lb hb sb cb d w vw v (n.at_ k);refine Ct.mk' func76 rfl rfl rfl (λg R=>?_);try simp only[ca]
 simp only[na];try refine ga ?_
 refine W.od (List.replicate 7 true++[false]++List.replicate 4 true++[false]) [za b n lb hb sb vw,xb n lb cb d w] Tryz.mix (by kernel_rfl) ?_;by_cases c1:0<=k
 .rw[if_pos c1];repeat'(first|refine ga ?_|refine WX.ja rfl h1 rfl ?_|refine WX.ja rfl h2 rfl ?_|refine WX.ja rfl h3 rfl ?_|refine WX.ja rfl h4 rfl ?_|fail)
  refine I.bs ?_;refine WX.lit (ys:=[n.Zy (n.at_ k)]) rfl rfl rfl rfl rfl rfl (by decide) rfl (λv4 h4 hs4=>?_);try refine ga ?_
  exact D.Ia [h4,za b n lb hb sb vw,xb n lb cb d w,oa cb n.c v] _ rfl rfl ⟨_,hs4,rfl⟩
 .rw[if_neg c1];repeat'(first|refine ga ?_|refine WX.ja rfl h1 rfl ?_|refine WX.ja rfl h2 rfl ?_|fail)
  exact D.Ia [[],za b n lb hb sb vw,xb n lb cb d w,oa cb n.c v] _ rfl rfl ⟨_,ia.nil _,rfl⟩
theorem fA:Ct prog 74 [.pointer (some ⟨b,0,none⟩)] [za b n lb hb sb vw,xb n lb cb d w,oa cb n.c v] (λr H'=>∃h',ia 52 n.ve r h'/\H'=[h',za b n lb hb sb vw,xb n lb cb d w,oa cb n.c v]):=by
 have h1:=XL ob cb v;have h2:=As n b lb hb sb vw;have h3:=Sj n b lb hb sb vw 11 n.Cc;have h4:=Si n.c cb v;unfold va.ve
 cases hg:n.c.TX with
 |false=>
  rw[hg] at h1;refine ce func74 λg R=>?_;repeat' first|refine vb ?_|refine cq h1 ?_
  exact Wa [[],za b n lb hb sb vw,xb n lb cb d w,oa cb n.c v] rfl rfl ⟨_,ia.nil _,rfl⟩
 |true=>
  rw[hg] at h1;refine ce func74 λg R=>?_;repeat' first|refine vb ?_|refine al λ_=>?_|refine cq h1 ?_|refine cq h2 ?_|refine cq h3 ?_|refine cq h4 ?_|refine ud Da.z.enc (n.out 11 n.Cc).enc rfl rfl ?_
  refine Td (Da.enc (n.out 11 n.Cc)) (Da.enc {n.out 11 n.Cc with ep:=n.ep}) rfl rfl ?_;repeat' first|refine ga ?_|refine Pa (Da.enc {n.out 11 n.Cc with ep:=n.ep}) (Da.enc {n.out 11 n.Cc with ep:=n.ep}) rfl ?_
  refine WX.lit (ys:=[({n.out 11 n.Cc with ep:=n.ep}:Da)]) rfl rfl rfl rfl rfl rfl (by decide) rfl (λv4 h4 hs4=>?_);try refine ga ?_
  exact Wa [h4,za b n lb hb sb vw,xb n lb cb d w,oa cb n.c v] rfl rfl ⟨_,hs4,rfl⟩
variable{hv:Hp}(hs:Rs n.c.lg v hv)
include hs
theorem sJ(to:Bl)(op tr ix:Int)(hi: -4611686018427387904<=ix/\ix<=4611686018427387904):Ct prog 143 [.pointer (some ⟨b,0,none⟩),.agg (List.toArray to.enc),.int .i64 op,.int .i64 tr,.int .i64 ix] [za b n lb hb sb vw,xb n lb cb d w,oa cb n.c v,hv] (λr H'=>r= .agg (List.toArray (n.wk ⟨to,op,tr,ix⟩).enc)/\H'=[za b n lb hb sb vw,xb n lb cb d w,oa cb n.c v,hv]):=by
 have jg:=ob.len;have h1:=Sj n b lb hb sb vw 4 to;have h2:=JK n.c cb hs (by omega) ix hi;refine ce func143 λg R=>?_;repeat' first|refine vb ?_|refine bx rfl λ_=>?_|refine al λ_=>?_|refine Pa to.enc to.enc rfl ?_|refine cq h1 ?_|refine ud Da.z.enc (n.out 4 to).enc rfl rfl ?_
 rename_i P3;refine Td (Da.enc (n.out 4 to)) (Da.enc {n.out 4 to with op:=op}) rfl rfl ?_;try refine ga ?_
 refine Td (Da.enc {n.out 4 to with op:=op}) (Da.enc {n.out 4 to with op:=op,tr:=tr}) rfl rfl ?_;try refine ga ?_
 refine Td (Da.enc {n.out 4 to with op:=op,tr:=tr}) (Da.enc {n.out 4 to with op:=op,tr:=tr,has:=true}) rfl rfl ?_;repeat' first|refine ga ?_|refine cq h2 ?_
 refine WX.Yc (vs:=(n.Th ix).enc) (b:=P3) (i:=27) (cs:=Da.enc {n.out 4 to with op:=op,tr:=tr,has:=true}) rfl rfl rfl (ya.Xo _) (ya.one _) rfl ?_;rw[Da.WL];repeat' first|refine ga ?_|refine Pa (n.wk ⟨to,op,tr,ix⟩).enc (n.wk ⟨to,op,tr,ix⟩).enc rfl ?_|refine ud Da.z.enc (n.wk ⟨to,op,tr,ix⟩).enc rfl rfl ?_
 exact D.Dc [za b n lb hb sb vw,xb n lb cb d w,oa cb n.c v,hv] _ rfl (.Ua rfl rfl .nil) ⟨rfl,rfl⟩
end
def CS.rF{s:CS}(h:Je s)(ok:Lb s):0<=s.JM.1/\s.JM.1<=1000000:=by
 have h1:=h.ak;have h2:=ok.du;have h3:=ok.len;have h4:s.len=(s.lg.length:Int):=rfl;unfold CS.JM;split
 .exact⟨by decide,by decide⟩
 .split
  .simp only[];omega
  .split
   .simp only[];omega
   .exact⟨by decide,by decide⟩
section
variable(n:va)(b lb hb sb cb d w:Nat)(vw v:Value)(ob:Lb n.c)(Us:Je n.c){hv:Hp}(hs:Rs n.c.lg v hv)
include ob Us hs
theorem Mw:Ct prog 77 [.pointer (some ⟨b,0,none⟩)] [za b n lb hb sb vw,xb n lb cb d w,oa cb n.c v,hv] (λr H'=>∃h',ia 52 n.Cj r h'/\H'=[h',za b n lb hb sb vw,xb n lb cb d w,oa cb n.c v,hv]):=by
 have jg:=ob.len;have Le:=VS ob Us.ak.1 cb v;have L8:=jk n.c cb v;have Qs:=Nu ob.co n.nd;have xU:=Si n.c cb v;have hr:=CS.rF Us ob;unfold va.Cj;obtain⟨k,hk⟩:∃k,Wc n.c.co n.nd=k:=⟨_,rfl⟩;rw[hk] at Qs⊢;have hpe:=qJ n b lb hb sb vw k;have Q3:=Sj n b lb hb sb vw 7 (n.at_ k);obtain⟨⟨i,o⟩,A7⟩:∃x:Int×Bool,n.c.JM=x:=⟨_,rfl⟩;rw[A7] at Le hr⊢;simp only[] at Le hr⊢;have zj:=JK n.c cb hs (by omega) i (by omega)
 cases o with
 |false=>
  refine ce func77 λg R=>?_;repeat' first|refine vb ?_|refine cq Le ?_
  exact Wa [[],za b n lb hb sb vw,xb n lb cb d w,oa cb n.c v,hv] rfl rfl ⟨_,ia.nil _,rfl⟩
 |true=>
  refine ce func77 λg R=>?_;repeat' first|refine vb ?_|refine cq Le ?_
  refine W.gi (α:=Nat) (λ_=>True) (λb5=>[(0,.pointer (some ⟨b,0,none⟩)),(3,.int .i64 i),(5,.pointer (some ⟨b5,0,none⟩))]) (λb5=>[Jc b5 (n.out 7 (n.at_ k)),za b n lb hb sb vw,xb n lb cb d w,oa cb n.c v,hv,R]) ?_ ?_
  .refine W.YE (List.replicate 9 true++[false]++List.replicate 4 true++[false,false,false,false]) [za b n lb hb sb vw,xb n lb cb d w] Tryz.mix (by kernel_rfl) ?_;repeat' first|refine ga ?_|refine al λ_=>?_|refine WY.Se ?_|refine WY.back ?_|refine WY.Ye 0 (by decide+kernel) rfl (by kernel_rfl) ?_|refine WY.Ye 1 (by decide+kernel) rfl (by kernel_rfl) ?_|refine WY.Ye 2 (by decide+kernel) rfl (by kernel_rfl) ?_|refine WY.Ye 3 (by decide+kernel) rfl (by kernel_rfl) ?_|refine WY.Ye 4 (by decide+kernel) rfl (by kernel_rfl) ?_|refine WY.Ye 5 (by decide+kernel) rfl (by kernel_rfl) ?_|refine WY.Ye 6 (by decide+kernel) rfl (by kernel_rfl) ?_|refine WY.Ye 7 (by decide+kernel) rfl (by kernel_rfl) ?_|refine WY.Ye 8 (by decide+kernel) rfl (by kernel_rfl) ?_|refine WY.Ye 10 (by decide+kernel) rfl (by kernel_rfl) ?_|refine WY.Ye 11 (by decide+kernel) rfl (by kernel_rfl) ?_|refine WY.Ye 12 (by decide+kernel) rfl (by kernel_rfl) ?_|refine WY.Ye 13 (by decide+kernel) rfl (by kernel_rfl) ?_|refine WY.Ts 9 17 (by decide+kernel) rfl rfl ?_ ?_|refine WY.Ts 14 17 (by decide+kernel) rfl rfl ?_ ?_|refine WY.Ts 15 17 (by decide+kernel) rfl rfl ?_ ?_|refine WY.Ts 16 17 (by decide+kernel) rfl rfl ?_ ?_|refine WY.nq 9 (by decide+kernel) rfl ?_|refine WY.nq 14 (by decide+kernel) rfl ?_|refine WY.nq 15 (by decide+kernel) rfl ?_|refine WY.nq 16 (by decide+kernel) rfl ?_|refine WY.nq 17 (by decide+kernel) rfl ?_|refine WY.fin (by kernel_rfl) ?_|refine cq L8 ?_|refine cq Qs ?_|refine cq hpe ?_|refine cq Q3 ?_
   all_goals
    refine ud Da.z.enc (n.out 7 (n.at_ k)).enc rfl rfl ?_;refine WX.nil ?_;exact D.aQ _ trivial
  .rintro b5 -;repeat' first|refine ga ?_|refine cq xU ?_
   refine Td (Da.enc (n.out 7 (n.at_ k))) (Da.enc {n.out 7 (n.at_ k) with ep:=n.ep}) rfl rfl ?_;try refine ga ?_
   refine Td (Da.enc {n.out 7 (n.at_ k) with ep:=n.ep}) (Da.enc {n.out 7 (n.at_ k) with ep:=n.ep,ix:=i}) rfl rfl ?_;repeat' first|refine ga ?_|refine cq zj ?_
   refine WX.Yc (vs:=(n.Th i).enc) (b:=b5) (i:=27) (cs:=Da.enc {n.out 7 (n.at_ k) with ep:=n.ep,ix:=i}) rfl rfl rfl (ya.Xo _) (ya.one _) rfl ?_;rw[Da.WL];repeat' first|refine ga ?_|refine Pa (Da.enc {n.out 7 (n.at_ k) with ep:=n.ep,ix:=i,en:=n.Th i}) (Da.enc {n.out 7 (n.at_ k) with ep:=n.ep,ix:=i,en:=n.Th i}) rfl ?_
   refine WX.lit (ys:=[({n.out 7 (n.at_ k) with ep:=n.ep,ix:=i,en:=n.Th i}:Da)]) rfl rfl rfl rfl rfl rfl (by decide) rfl (λv4 h4 hs4=>?_);try refine ga ?_
   exact Wa [h4,za b n lb hb sb vw,xb n lb cb d w,oa cb n.c v,hv] rfl rfl ⟨_,hs4,rfl⟩
theorem Co:Ct prog 78 [.pointer (some ⟨b,0,none⟩)] [za b n lb hb sb vw,xb n lb cb d w,oa cb n.c v,hv] (λr H'=>∃h',ia 49 n.Ab r h'/\H'=[h',za b n lb hb sb vw,xb n lb cb d w,oa cb n.c v,hv]):=by
 have jg:=ob.len;have h4:n.c.len=(n.c.lg.length:Int):=rfl;have h1:=Us.st;have h2:=ob.du;obtain⟨K,hK⟩:∃K:Nat,n.c.st=(K:Int):=⟨n.c.st.toNat,by omega⟩;have hle:K<=n.c.lg.length:=by omega
 have hst:=Ag n.c cb v;unfold va.Ab;rw[hK] at hst⊢;refine Ct.mk' func78 rfl rfl rfl (λg R=>?_);try simp only[ca]
 simp only[na];try refine ga ?_
 refine W.od (List.replicate 7 true++[false]++List.replicate 7 true++[false]) [za b n lb hb sb vw,xb n lb cb d w] Tryz.mix (by kernel_rfl) ?_;try refine ga ?_
 refine WX.call rfl (ym n.c cb hs (by omega)) rfl ?_;rintro _ _ ⟨h5,hs5,rfl⟩;simp only[ca,na];repeat'(first|refine ga ?_|refine WX.ja rfl hst rfl ?_|fail)
 refine sl rfl rfl hs5.rs ?_ hle;obtain⟨p,l,c,e1,e2⟩:=hs5.take K hle;subst e1;try refine ga ?_
 exact D.Ia [h5,za b n lb hb sb vw,xb n lb cb d w,oa cb n.c v,hv] _ rfl rfl ⟨_,e2,rfl⟩
end
end Go.Proofs.YthebagfahkebiaaGreat
