/- Texts of one road. -/
import Derived.Test.YthebagfahkebiaaGreatQBB
set_option linter.all false
set_option maxHeartbeats 8000000
set_option maxRecDepth 20000
namespace Go.Proofs.YthebagfahkebiaaGreat
open Go Go.Sl Go.Proofs.Tryz List
def va.jc(n:va)(gb hb sb:Nat)(vw vo:Value):List Value:=
 [.int .i64 n.fc,.int .i64 n.rn,.int .i64 n.nn,.int .i64 n.cl,.int .i64 1,.int .i64 n.dc,.int .i64 n.rg,.int .i64 n.nd,.pointer (some ⟨gb,0,none⟩),vw,.pointer (some ⟨hb,0,none⟩),.pointer (some ⟨sb,0,none⟩)]++(n.kn.enc++(n.mr.enc++[vo]))
abbrev Ba(b:Nat)(n:va)(gb hb sb:Nat)(vw vo:Value):Hp:=[(b,.cells (List.toArray (n.jc gb hb sb vw vo)) 112 (0,0))]
abbrev qb(n:va)(gb cb d w:Nat)(tn:Int):Hp:=yb gb cb d w n.s.Xa tn
abbrev Py(b:Nat)(n:va)(gb hb sb:Nat)(vw:Value)(ms:List Da)(F:HH)(r:Value)(H':HH):Prop:=
 r= .tuple #[]/\∃vo ho,ia 52 ms vo ho/\H'=Ba b n gb hb sb vw vo::ho::F
theorem Da.XK(m:Da)(a:Bl):setAt m.enc 1 a.enc=Da.enc {m with fr:=a}:=rfl
section
variable(n:va)(b gb hb sb:Nat)(vw:Value)
def uI(vo:Value)(k:Int):Ct prog 182 [.pointer (some ⟨b,0,none⟩),.int .i64 k] [Ba b n gb hb sb vw vo] (λr H'=>r= .agg (List.toArray (n.at_ k).enc)/\H'=[Ba b n gb hb sb vw vo]):=by
 refine ce func182 λg R=>?_;repeat' first|refine vb ?_|refine al λ_=>?_|refine WX.Fa (b:=b) (i:=4) (cs:=n.jc gb hb sb vw vo) (vs:=(n.at_ n.nd).enc) rfl rfl rfl rfl ?_|refine ud Bl.z.enc (n.at_ n.nd).enc rfl rfl ?_
 refine Td (n.at_ n.nd).enc (n.at_ k).enc rfl rfl ?_;repeat' first|refine ga ?_|refine Pa (n.at_ k).enc (n.at_ k).enc rfl ?_|refine ud Bl.z.enc (n.at_ k).enc rfl rfl ?_
 exact D.Dc [Ba b n gb hb sb vw vo] _ rfl (.Ua rfl rfl .nil) ⟨rfl,rfl⟩
def Gr(vo:Value):Ct prog 90 [.pointer (some ⟨b,0,none⟩)] [Ba b n gb hb sb vw vo] (λr H'=>r= .agg (List.toArray n.Cc.enc)/\H'=[Ba b n gb hb sb vw vo]):=by
 refine ce func90 λg R=>?_;repeat' first|refine vb ?_|refine al λ_=>?_|refine Vf n.Cc.enc ?_|refine ud Bl.z.enc n.Cc.enc rfl rfl ?_
 exact D.Dc [Ba b n gb hb sb vw vo] _ rfl (.Ua rfl rfl .nil) ⟨rfl,rfl⟩
variable{outs:List Da}{vo:Value}{ho:Hp}(On:ia 52 outs vo ho)(Ry:outs.length<=1000000)
include On Ry
theorem uh(m:Da):Ct prog 174 [.pointer (some ⟨b,0,none⟩),.agg (List.toArray m.enc)] [Ba b n gb hb sb vw vo,ho] (Py b n gb hb sb vw (outs++[{m with fr:=n.self}]) []):=by
 obtain⟨m1,Ji⟩:∃m1:Da,{m with fr:=n.self}=m1:=⟨_,rfl⟩;rw[Ji];refine ce func174 λg R=>?_;repeat' first|refine vb ?_|refine bx rfl λ_=>?_|refine WX.Fa (b:=b) (i:=4) (cs:=n.jc gb hb sb vw vo) (vs:=n.self.enc) rfl rfl rfl rfl ?_
 rename_i b3;refine WX.Yc (vs:=n.self.enc) (b:=b3) (i:=1) (cs:=m.enc) rfl rfl rfl rfl rfl rfl ?_;rw[Da.XK,Ji];try refine ga ?_
 refine W.od [true,true,true,true,true,true,false,false] [Jc b3 m1,Ba b n gb hb sb vw vo] Tryz.mix (by kernel_rfl) ?_;repeat' first|refine ga ?_|refine Pa m1.enc m1.enc rfl ?_
 refine WX.lit (ys:=[m1]) rfl rfl rfl rfl rfl rfl (by decide) rfl (λv4 h4 hs4=>?_);try refine ga ?_
 refine WX.app rfl rfl On hs4.rs rfl rfl (by decide) (by simp only[length_cons,length_nil];omega) rfl (λv5 h5 hs5=>?_);obtain⟨p5,q5,rfl⟩:=hs5.len;generalize(outs++[m1]).length=n5 at hs5⊢;try refine ga ?_
 refine Td (n.jc gb hb sb vw vo) (n.jc gb hb sb vw (.slice p5 n5 q5)) rfl rfl ?_;try refine ga ?_
 exact D.Bc [Ba b n gb hb sb vw (.slice p5 n5 q5),h5] _ rfl ⟨rfl,_,_,hs5,rfl⟩
variable{cb d w:Nat}{tn:Int}{v:Value}(ob:Lb n.c)
include ob
theorem Xu:Ct prog 88 [.pointer (some ⟨b,0,none⟩)] [Ba b n gb hb sb vw vo,ho,qb n gb cb d w tn,ta cb n.c v] (Py b n gb hb sb vw (outs++n.Jd) [qb n gb cb d w tn,ta cb n.c v]):=by
 have h1:=tq ob.co n.nd;unfold va.Jd;obtain⟨k,hk⟩:∃k,Ed n.c.co n.nd=k:=⟨_,rfl⟩;rw[hk] at h1⊢;have h2:=uI n b gb hb sb vw vo k;have h3:=uh n b gb hb sb vw On Ry {Da.z with kind:=8,to:=n.at_ k,ep:=n.ep,ct:=n.c.du,ix:=n.c.st};have iB:n.c.nd=n.nd:=(Ea.Uq n.s).1;rw[<-iB] at h1;refine Ct.mk' func88 rfl rfl rfl (λg R=>?_);try simp only[ca]
 simp only[na];try refine ga ?_
 refine W.od (List.replicate 8 true++[false]) [ta cb n.c v] Tryz.mix (by kernel_rfl) ?_;repeat'(first|refine ga ?_|refine Pa (n.c.cells v) (Yb n.c.co).enc rfl ?_|refine WX.ja rfl h1 rfl ?_|fail)
 by_cases c1:0<=k
 .rw[if_pos c1];try refine ga ?_
  refine W.od ([true,true,true,false]++List.replicate 14 true) [Ba b n gb hb sb vw vo,qb n gb cb d w tn,ta cb n.c v] Tryz.mix (by kernel_rfl) ?_;repeat'(first|refine ga ?_|refine WX.ja rfl h2 rfl ?_|refine Vf (Da.enc {Da.z with kind:=8,to:=n.at_ k,ep:=n.ep,ct:=n.c.du,ix:=n.c.st}) ?_|fail)
  refine WX.call rfl h3 rfl ?_;rintro _ _ ⟨rfl,Cp,ho',hs',rfl⟩;simp only[ca,na];try refine ga ?_
  exact D.Bc [Ba b n gb hb sb vw Cp,ho',qb n gb cb d w tn,ta cb n.c v] _ rfl ⟨rfl,_,_,hs',rfl⟩
 .rw[if_neg c1,append_nil];try refine ga ?_
  exact D.Bc [Ba b n gb hb sb vw vo,ho,qb n gb cb d w tn,ta cb n.c v] _ rfl ⟨rfl,_,_,On,rfl⟩
theorem Qt:Ct prog 99 [.pointer (some ⟨b,0,none⟩)] [Ba b n gb hb sb vw vo,ho,qb n gb cb d w tn,ta cb n.c v] (Py b n gb hb sb vw (outs++n.ve) [qb n gb cb d w tn,ta cb n.c v]):=by
 have h1:=tI ob cb v;have h2:=Gr n b gb hb sb vw vo;have h3:=uh n b gb hb sb vw On Ry {Da.z with kind:=11,to:=n.Cc,ep:=n.ep};unfold va.ve
 cases hg:n.c.TX with
 |false=>
  rw[hg] at h1;rw[if_neg (by decide),append_nil];refine ce func99 λg R=>?_;repeat' first|refine vb ?_|refine cq h1 ?_
  exact D.Bc [Ba b n gb hb sb vw vo,ho,qb n gb cb d w tn,ta cb n.c v] _ rfl ⟨rfl,_,_,On,rfl⟩
 |true=>
  rw[hg] at h1;rw[if_pos rfl];refine ce func99 λg R=>?_;repeat' first|refine vb ?_|refine cq h1 ?_
  refine W.od ([true,true,false]++List.replicate 12 true) [Ba b n gb hb sb vw vo,qb n gb cb d w tn,ta cb n.c v] Tryz.mix (by kernel_rfl) ?_;repeat' first|refine ga ?_|refine cq h2 ?_|refine Vf (Da.enc {Da.z with kind:=11,to:=n.Cc,ep:=n.ep}) ?_
  refine ck h3 ?_;rintro _ _ ⟨rfl,Cp,ho',hs',rfl⟩;refine vb ?_;exact D.Bc [Ba b n gb hb sb vw Cp,ho',qb n gb cb d w tn,ta cb n.c v] _ rfl ⟨rfl,_,_,hs',rfl⟩
variable{hv:Hp}(hs:Rs n.c.lg v hv)
include hs
theorem vI(x:Wt)(hi:1<=x.ix/\x.ix<=1000000):Ct prog 176 [.pointer (some ⟨b,0,none⟩),.agg (List.toArray x.enc)] [Ba b n gb hb sb vw vo,ho,qb n gb cb d w tn,ta cb n.c v,hv] (Py b n gb hb sb vw (outs++[n.wk x]) [qb n gb cb d w tn,ta cb n.c v,hv]):=by
 have jg:=ob.len;have h1:=IM n.c cb hs (by omega) x.ix (by omega);have h3:=uh n b gb hb sb vw On Ry {Da.z with kind:=4,to:=x.to,op:=x.op,tr:=x.tr,has:=true,en:=n.Th x.ix};refine ce func176 λg R=>?_;repeat' first|refine vb ?_|refine bx rfl λ_=>?_
 rename_i b3;refine W.gi (α:=Nat) (λ_=>True) (λy=>[(0,.pointer (some ⟨b,0,none⟩)),(3,.pointer (some ⟨b3,0,none⟩)),(4,.pointer (some ⟨y,0,none⟩))]) (λy=>[Fb y (n.Th x.ix),[(b3,.cells (List.toArray x.enc) 212 (0,0))],Ba b n gb hb sb vw vo,ho,qb n gb cb d w tn,ta cb n.c v,hv,R]) ?_ ?_
 .refine W.YE (List.replicate 9 true++[false,true,true,true,false,false]) [[(b3,.cells (List.toArray x.enc) 212 (0,0))],Ba b n gb hb sb vw vo,qb n gb cb d w tn,ta cb n.c v] Tryz.mix (by kernel_rfl) ?_;repeat' first|refine ga ?_|refine al λ_=>?_|refine WY.Se ?_|refine WY.back ?_|refine WY.Ye 0 (by decide+kernel) rfl (by kernel_rfl) ?_|refine WY.Ye 1 (by decide+kernel) rfl (by kernel_rfl) ?_|refine WY.Ye 2 (by decide+kernel) rfl (by kernel_rfl) ?_|refine WY.Ye 3 (by decide+kernel) rfl (by kernel_rfl) ?_|refine WY.Ye 4 (by decide+kernel) rfl (by kernel_rfl) ?_|refine WY.Ye 5 (by decide+kernel) rfl (by kernel_rfl) ?_|refine WY.Ye 6 (by decide+kernel) rfl (by kernel_rfl) ?_|refine WY.Ye 7 (by decide+kernel) rfl (by kernel_rfl) ?_|refine WY.Ye 8 (by decide+kernel) rfl (by kernel_rfl) ?_|refine WY.Ye 10 (by decide+kernel) rfl (by kernel_rfl) ?_|refine WY.Ye 11 (by decide+kernel) rfl (by kernel_rfl) ?_|refine WY.Ye 12 (by decide+kernel) rfl (by kernel_rfl) ?_|refine WY.Ts 9 13 (by decide+kernel) rfl rfl ?_ ?_|refine WY.nq 9 (by decide+kernel) rfl ?_|refine WY.nq 13 (by decide+kernel) rfl ?_|refine WY.nq 14 (by decide+kernel) rfl ?_|refine WY.fin (by kernel_rfl) ?_|refine cq h1 ?_|refine ud ya.z.enc (n.Th x.ix).enc rfl rfl ?_
  all_goals exact D.aQ _ trivial
 rintro b4 -;try simp only[]
 repeat' first|refine ga ?_|refine Pa (n.Th x.ix).enc (n.Th x.ix).enc rfl ?_|refine WX.Fa (b:=b3) (i:=0) (cs:=x.enc) (vs:=x.to.enc) rfl rfl rfl rfl ?_|refine Vf (Da.enc {Da.z with kind:=4,to:=x.to,op:=x.op,tr:=x.tr,has:=true,en:=n.Th x.ix}) ?_
 refine ck h3 ?_;rintro _ _ ⟨rfl,Cp,ho',hs',rfl⟩;refine vb ?_;exact D.Bc [Ba b n gb hb sb vw Cp,ho',qb n gb cb d w tn,ta cb n.c v,hv] _ rfl ⟨rfl,_,_,hs',rfl⟩
variable(Us:Je n.c)
include Us
theorem Aw:Ct prog 194 [.pointer (some ⟨b,0,none⟩)] [Ba b n gb hb sb vw vo,ho,qb n gb cb d w tn,ta cb n.c v,hv] (Py b n gb hb sb vw (outs++n.Cj) [qb n gb cb d w tn,ta cb n.c v,hv]):=by
 have jg:=ob.len;have h1:=wO ob Us.ak.1 cb v;have h2:=fo ob.co n.nd;have iB:n.c.nd=n.nd:=(Ea.Uq n.s).1;have hr:=CS.rF Us ob;unfold va.Cj;obtain⟨k,hk⟩:∃k,Wc n.c.co n.nd=k:=⟨_,rfl⟩;rw[hk] at h2⊢;rw[<-iB] at h2;have h4:=uI n b gb hb sb vw vo k;obtain⟨⟨i,o⟩,A7⟩:∃x:Int×Bool,n.c.JM=x:=⟨_,rfl⟩;rw[A7] at h1 hr⊢;simp only[] at h1 hr⊢;have h5:=IM n.c cb hs (by omega) i (by omega)
 cases o with
 |false=>
  rw[if_neg (by decide),append_nil];refine ce func194 λg R=>?_;repeat' first|refine vb ?_|refine cq h1 ?_
  exact D.Bc [Ba b n gb hb sb vw vo,ho,qb n gb cb d w tn,ta cb n.c v,hv] _ rfl ⟨rfl,_,_,On,rfl⟩
 |true=>
  rw[if_pos rfl];have h3:=uh n b gb hb sb vw On Ry {Da.z with kind:=7,to:=n.at_ k,ep:=n.ep,ix:=i,en:=n.Th i};refine ce func194 λg R=>?_;repeat' first|refine vb ?_|refine al λ_=>?_|refine cq h1 ?_|refine cq h5 ?_|refine ud ya.z.enc (n.Th i).enc rfl rfl ?_
  rename_i b5;refine W.hp (H':=[Fb b5 (n.Th i),Ba b n gb hb sb vw vo,ho,qb n gb cb d w tn,ta cb n.c v,hv,R]) rfl ?_;refine W.od (List.replicate 10 true++[false,false]++List.replicate 8 true) [Fb b5 (n.Th i),Ba b n gb hb sb vw vo,qb n gb cb d w tn,ta cb n.c v] Tryz.mix (by kernel_rfl) ?_;repeat' first|refine ga ?_|refine Pa (n.c.cells v) (Yb n.c.co).enc rfl ?_|refine Pa (n.Th i).enc (n.Th i).enc rfl ?_|refine cq h2 ?_|refine cq h4 ?_|refine Vf (Da.enc {Da.z with kind:=7,to:=n.at_ k,ep:=n.ep,ix:=i,en:=n.Th i}) ?_
  refine ck h3 ?_;rintro _ _ ⟨rfl,Cp,ho',hs',rfl⟩;refine vb ?_;exact D.Bc [Ba b n gb hb sb vw Cp,ho',qb n gb cb d w tn,ta cb n.c v,hv] _ rfl ⟨rfl,_,_,hs',rfl⟩
end
section
variable(n:va)(b gb hb sb:Nat){outs:List Da}{vo:Value}{ho:Hp}(On:ia 52 outs vo ho)(Ry:outs.length<=100000)
 {cb d w:Nat}{tn:Int}{v:Value}(ob:Lb n.c)(Us:Je n.c){hv:Hp}(hs:Rs n.c.lg v hv)
include On Ry ob Us hs
theorem mR(hw1:n.ws.length<=16)(Gu:∀x∈n.ws,1<=x.ix/\x.ix<=1000000){vw:Value}{hw:Hp}(hsw:ia 212 n.ws vw hw)(du st ak:Int):
  Ct prog 98 [.pointer (some ⟨b,0,none⟩),.int .i64 du,.int .i64 st,.int .i64 ak] [hw,Ba b n gb hb sb vw vo,ho,qb n gb cb d w tn,ta cb n.c v,hv]
   (λr H'=>r= .tuple #[]/\∃Cp ho' Vs Uh,ia 52 (outs++n.Gh du st ak) Cp ho'/\ia 212 n.Ra.ws Vs Uh/\H'=[Uh,Ba b n.Ra gb hb sb Vs Cp,ho',qb n gb cb d w tn,ta cb n.c v,hv]):=by
 have hto:=λ{o:List Da} {vo:Value} {ho:Hp} (On:ia 52 o vo ho) (Ry:o.length<=1000000) (x:Wt) (hx:1<=x.ix/\x.ix<=1000000)=>vI n b gb hb sb vw On Ry (cb:=cb) (d:=d) (w:=w) (tn:=tn) ob hs x hx;obtain⟨pw,cw,rfl⟩:=hsw.len;have hrw:=hsw.rs;refine Ct.mk' func98 rfl rfl rfl (λg R=>?_);try simp only[ca]
 simp only[na];try refine ga ?_
 refine W.loop (α:=Nat×(Value×Hp)×(Value×Hp)) (λy=>y.1<=n.ws.length/\ia 52 (outs++n.xO y.1) y.2.1.1 y.2.1.2/\ia 212 (n.nR y.1) y.2.2.1 y.2.2.2)
  (λy=>[(0,.pointer (some ⟨b,0,none⟩)),(1,.int .i64 du),(2,.int .i64 st),(3,.int .i64 ak),(8,.pointer (some ⟨cb,0,none⟩)),(9,y.2.2.1),(10,.int .i64 (y.1:Int))])
  (λy=>[y.2.2.2,y.2.1.2,hw,Ba b n gb hb sb (.slice pw n.ws.length cw) y.2.1.1,qb n gb cb d w tn,ta cb n.c v,hv,R]) (λy=>n.ws.length - y.1) (0,(vo,ho),(.slice none 0 0,[])) ⟨Nat.zero_le _,by simp only[va.xO,take_zero,filter_nil,map_nil,append_nil];exact On,ia.nil _⟩ (by repeat(first|exact Ca.nil|refine Ca.cons rfl ?_)) (Ga.qa inferInstance) ?_
 rintro⟨k,⟨v1,h1⟩,⟨v2,h2⟩⟩ ⟨hk,hs1,Oa⟩;simp only[] at hk hs1 Oa⊢;have l1:=n.KM k;have l2:=n.LM k;have l3:(outs++n.xO k).length<=1000000:=by rw[length_append];omega
 by_cases hlt:k<n.ws.length
 .obtain⟨x,hx⟩:∃x,n.ws[k]? =some x:=⟨_,List.getElem?_eq_getElem hlt⟩;have e1:=va.wI hx;have e2:=va.xI hx;have B7:=Gu x (mem_of_getElem? hx);by_cases hc:x.ix<=n.c.st
  .rw[if_pos hc] at e1 e2;rw[append_nil] at e2;try refine ga ?_
   refine W.quiet Tryz.mix (by kernel_rfl) ?_;repeat'(first|refine ga ?_|refine WX.zc rfl hrw hx rfl rfl ?_|fail)
   refine WX.call rfl (hto hs1 l3 x B7) rfl ?_;rintro _ _ ⟨rfl,v5,h5,hs5,rfl⟩;rw[append_assoc,<-e1] at hs5;rw[<-e2] at Oa;simp only[ca,na];try refine ga ?_
   exact D.rd (k+1,(v5,h5),(v2,h2)) ⟨by simp only[];omega,hs5,Oa⟩ (by simp only[];omega)
  .rw[if_neg hc] at e1 e2;rw[append_nil] at e1;try refine ga ?_
   refine W.quiet Tryz.mix (by kernel_rfl) ?_;repeat'(first|refine ga ?_|refine WX.zc rfl hrw hx rfl rfl ?_|fail)
   refine I.bs ?_;refine WX.lit (ys:=[x]) rfl rfl rfl rfl rfl rfl (by decide) rfl (λv4 h4 hs4=>?_);refine WX.app rfl rfl Oa hs4.rs rfl rfl (by decide) (by simp only[length_cons,length_nil];omega) rfl (λv5 h5 hs5=>?_);rw[<-e2] at hs5;rw[<-e1] at hs1;try refine ga ?_
   exact D.rd (k+1,(v1,h1),(v5,h5)) ⟨by simp only[];omega,hs1,hs5⟩ (by simp only[];omega)
 .obtain rfl:k=n.ws.length:=by omega
  rw[show n.nR n.ws.length=n.Ra.ws by unfold va.nR;rw[take_length];rfl] at Oa l2;rw[show n.xO n.ws.length=(n.ws.filter λx=>decide (x.ix<=n.c.st)).map n.wk by unfold va.xO;rw[take_length]] at hs1 l1 l3;unfold va.Gh;generalize(n.ws.filter λx=>decide (x.ix<=n.c.st)).map n.wk=ms at hs1 l1 l3⊢;obtain⟨p2,q2,rfl⟩:=Oa.len;generalize n.Ra.ws.length=m2 at Oa;try refine ga ?_
  refine I.st ?_;refine Td (n.jc gb hb sb (.slice pw n.ws.length cw) v1) (n.Ra.jc gb hb sb (.slice p2 m2 q2) v1) rfl rfl ?_;refine WX.nil ?_;refine D.seq ?_;refine W.seq ?_;have l4:(outs++ms).length<=100016:=by rw[length_append];omega
  rw[<-append_assoc outs];generalize outs++ms=o1 at hs1 l4⊢;refine W.hp (H':=[h2,h1,hw,Ba b n.Ra gb hb sb (.slice p2 m2 q2) v1,qb n gb cb d w tn,ta cb n.c v,hv,R]) rfl ?_;refine W.gi (α:=Value×Hp) (λy=>ia 52 (o1++(if du<n.c.du\/st<n.c.st then n.Jd else[])) y.1 y.2) (λy=>[(0,.pointer (some ⟨b,0,none⟩)),(1,.int .i64 du),(3,.int .i64 ak),(8,.pointer (some ⟨cb,0,none⟩))]) (λy=>[y.2,h2,Ba b n.Ra gb hb sb (.slice p2 m2 q2) y.1,qb n gb cb d w tn,ta cb n.c v,hv,R]) ?_ ?_
  .have xG:Ct prog 88 [.pointer (some ⟨b,0,none⟩)] [Ba b n.Ra gb hb sb (.slice p2 m2 q2) v1,h1,qb n gb cb d w tn,ta cb n.c v] (Py b n.Ra gb hb sb (.slice p2 m2 q2) (o1++n.Jd) [qb n gb cb d w tn,ta cb n.c v]):=Xu n.Ra b gb hb sb (.slice p2 m2 q2) hs1 (by omega) (cb:=cb) (d:=d) (w:=w) (tn:=tn) (v:=v) ob;by_cases c1:du<n.c.du
   .rw[if_pos (.inl c1)];try refine ga ?_
    refine WX.call rfl xG rfl ?_;rintro _ _ ⟨rfl,v7,h7,Cn,rfl⟩;simp only[ca,na];try refine ga ?_
    exact D.Hu (v7,h7) Cn (by repeat(first|exact Ca.nil|refine Ca.cons rfl ?_)) (Ga.qa inferInstance)
   by_cases c2:st<n.c.st
   .rw[if_pos (.inr c2)];try refine ga ?_
    refine WX.call rfl xG rfl ?_;rintro _ _ ⟨rfl,v7,h7,Cn,rfl⟩;simp only[ca,na];try refine ga ?_
    exact D.Hu (v7,h7) Cn (by repeat(first|exact Ca.nil|refine Ca.cons rfl ?_)) (Ga.qa inferInstance)
   .rw[if_neg (λh=>h.elim c1 c2)];try refine ga ?_
    exact D.Hu (v1,h1) (by rw[append_nil];exact hs1) (by repeat(first|exact Ca.nil|refine Ca.cons rfl ?_)) (Ga.qa inferInstance)
  rintro⟨v8,h8⟩ Mq;simp only[] at Mq⊢;have l8:(o1++(if du<n.c.du\/st<n.c.st then n.Jd else[])).length<=100017:=by have:=n.Kg;rw[length_append];(split<;>try simp only[length_nil])<;>omega
  rw[<-append_assoc o1];generalize o1++(if du<n.c.du\/st<n.c.st then n.Jd else[])=o2 at Mq l8⊢;have S1:Ct prog 194 [.pointer (some ⟨b,0,none⟩)] [Ba b n.Ra gb hb sb (.slice p2 m2 q2) v8,h8,qb n gb cb d w tn,ta cb n.c v,hv] (Py b n.Ra gb hb sb (.slice p2 m2 q2) (o2++n.Cj) [qb n gb cb d w tn,ta cb n.c v,hv]):=Aw n.Ra b gb hb sb (.slice p2 m2 q2) Mq (by omega) (cb:=cb) (d:=d) (w:=w) (tn:=tn) (v:=v) ob hs Us;by_cases c1:du<n.c.du
  .rw[if_pos (.inl c1)];try refine ga ?_
   refine WX.call rfl S1 rfl ?_;rintro _ _ ⟨rfl,v7,h7,Cn,rfl⟩;simp only[ca,na];try refine ga ?_
   exact D.Bc [h2,Ba b n.Ra gb hb sb (.slice p2 m2 q2) v7,h7,qb n gb cb d w tn,ta cb n.c v,hv] _ rfl ⟨rfl,_,_,_,_,Cn,Oa,rfl⟩
  by_cases c2:ak<n.c.ak
  .rw[if_pos (.inr c2)];try refine ga ?_
   refine WX.call rfl S1 rfl ?_;rintro _ _ ⟨rfl,v7,h7,Cn,rfl⟩;simp only[ca,na];try refine ga ?_
   exact D.Bc [h2,Ba b n.Ra gb hb sb (.slice p2 m2 q2) v7,h7,qb n gb cb d w tn,ta cb n.c v,hv] _ rfl ⟨rfl,_,_,_,_,Cn,Oa,rfl⟩
  .rw[if_neg (λh=>h.elim c1 c2),append_nil];try refine ga ?_
   exact D.Bc [h2,Ba b n.Ra gb hb sb (.slice p2 m2 q2) v8,h8,qb n gb cb d w tn,ta cb n.c v,hv] _ rfl ⟨rfl,_,_,_,_,Mq,Oa,rfl⟩
end
section
variable(n:va)(b gb hb sb cb d w:Nat)(tn:Int)(vw vo v:Value)(ob:Lb n.c)(Us:Je n.c){hv:Hp}(hs:Rs n.c.lg v hv)
include ob Us hs
theorem wo:Rs n.Ab (qo v n.c.st.toNat) hv:=by
 have h4:n.c.len=(n.c.lg.length:Int):=rfl;have h1:=Us.st;have h2:=ob.du;exact hs.take (by omega)
theorem xo:Ct prog 179 [.pointer (some ⟨b,0,none⟩)] [Ba b n gb hb sb vw vo,qb n gb cb d w tn,ta cb n.c v,hv] (λr H'=>r=qo v n.c.st.toNat/\H'=[Ba b n gb hb sb vw vo,qb n gb cb d w tn,ta cb n.c v,hv]):=by
 have h4:n.c.len=(n.c.lg.length:Int):=rfl;have h1:=Us.st;have h2:=ob.du;obtain⟨K,hK⟩:∃K:Nat,n.c.st=(K:Int):=⟨n.c.st.toNat,by omega⟩;have hle:K<=n.c.lg.length:=by omega
 refine Ct.mk' func179 rfl rfl rfl (λg R=>?_);try simp only[ca]
 simp only[na];try refine ga ?_
 refine W.quiet Tryz.mix (by kernel_rfl) ?_;try refine ga ?_
 refine WX.as 22 (.int .i64 (K:Int)) rfl (by rw[<-hK]) ?_;refine sl rfl rfl hs ?_ hle;try refine ga ?_
 exact D.Ia [Ba b n gb hb sb vw vo,qb n gb cb d w tn,ta cb n.c v,hv] _ rfl rfl ⟨by rw[hK];rfl,rfl⟩
variable(VA:0<=n.nn/\n.nn<=100){outs:List Da}{ho:Hp}(On:ia 52 outs vo ho)(Ry:outs.length<=100000)
include VA On Ry
theorem tF(x:Int):Ct prog 96 [.pointer (some ⟨b,0,none⟩),.int .i64 x] [Ba b n gb hb sb vw vo,ho,qb n gb cb d w tn,ta cb n.c v,hv,Sa sb n.dc n.rc] (Py b n gb hb sb vw (outs++n.Qf x) [qb n gb cb d w tn,ta cb n.c v,hv,Sa sb n.dc n.rc]):=by
 have jg:=ob.len;obtain⟨N,hN⟩:∃N:Nat,n.nn=(N:Int):=⟨n.nn.toNat,by omega⟩;have hN1:N<=100:=by omega
 have Mf:n.Ab.length<=1000000:=by unfold va.Ab;rw[length_take];omega
 have ZA:∀e∈n.Ab,Xc e:=λe he=>ob.es e (mem_of_mem_take he);have hst:=xo n b gb hb sb cb d w tn vw vo v ob Us hs;have Le:=BO sb n.dc x n.rc (wo n v ob Us hs) ZA Mf;unfold va.Qf;generalize Bw n.dc x n.rc n.Ab=o at Le⊢
 have Le:Ct prog 193 [.pointer (some ⟨sb,0,none⟩),.int .i64 x,qo v n.c.st.toNat] [Sa sb n.dc n.rc,hv] (λu H'=>u= .tuple #[.agg (List.toArray (o.getD ya.z).enc),.bool o.isSome]/\H'=[Sa sb n.dc n.rc,hv]):=by
  cases o<;>exact Le
 refine Ct.mk' func96 rfl rfl rfl (λg R=>?_);try simp only[ca]
 simp only[na];try refine ga ?_
 refine W.gi (α:=Nat) (λ_=>True) (λy=>[(0,.pointer (some ⟨b,0,none⟩)),(1,.int .i64 x),(4,.pointer (some ⟨y,0,none⟩)),(5,.bool o.isSome)]) (λy=>[Fb y (o.getD ya.z),Ba b n gb hb sb vw vo,ho,qb n gb cb d w tn,ta cb n.c v,hv,Sa sb n.dc n.rc,R]) ?_ ?_
 .refine W.YE [true,true,true,true,true,true,false,false,true,true,true,false,false] [Ba b n gb hb sb vw vo] Tryz.mix (by kernel_rfl) ?_;repeat'(first|refine ga ?_|refine al (λ_=>?_)|refine WY.Se ?_|refine WY.back ?_|refine WY.Ye 0 (by decide+kernel) rfl (by kernel_rfl) ?_|refine WY.Ye 1 (by decide+kernel) rfl (by kernel_rfl) ?_|refine WY.Ye 2 (by decide+kernel) rfl (by kernel_rfl) ?_|refine WY.Ye 3 (by decide+kernel) rfl (by kernel_rfl) ?_|refine WY.Ye 4 (by decide+kernel) rfl (by kernel_rfl) ?_|refine WY.Ye 5 (by decide+kernel) rfl (by kernel_rfl) ?_|refine WY.Ye 8 (by decide+kernel) rfl (by kernel_rfl) ?_|refine WY.Ye 9 (by decide+kernel) rfl (by kernel_rfl) ?_|refine WY.Ye 10 (by decide+kernel) rfl (by kernel_rfl) ?_|refine WY.Ts 6 11 (by decide+kernel) rfl rfl ?_ ?_|refine WY.Ts 7 11 (by decide+kernel) rfl rfl ?_ ?_|refine WY.nq 6 (by decide+kernel) rfl ?_|refine WY.nq 7 (by decide+kernel) rfl ?_|refine WY.nq 11 (by decide+kernel) rfl ?_|refine WY.nq 12 (by decide+kernel) rfl ?_|refine WY.fin (by kernel_rfl) ?_|refine WX.ja rfl hst rfl ?_|refine WX.ja rfl Le rfl ?_|refine ud ya.z.enc (o.getD ya.z).enc rfl rfl ?_|fail)
  all_goals exact D.Hu _ trivial (by repeat(first|exact Ca.nil|refine Ca.cons rfl ?_)) (Ga.qa inferInstance)
 .rintro b4 -
  cases o with
  |none=>
   try refine ga ?_
   refine W.loop (α:=Nat) (λk=>k=0) (λk=>[(0,.pointer (some ⟨b,0,none⟩)),(1,.int .i64 x),(4,.pointer (some ⟨b4,0,none⟩)),(5,.bool false),(6,.int .i64 0)])
    (λ_=>[Ba b n gb hb sb vw vo,ho,qb n gb cb d w tn,ta cb n.c v,hv,Sa sb n.dc n.rc,R]) (λk=>1 - k) 0 rfl (by repeat(first|exact Ca.nil|refine Ca.cons rfl ?_)) (Ga.qa inferInstance) ?_
   rintro k rfl;rw[append_nil];by_cases hlt:0<n.nn
   all_goals
    try refine ga ?_
    exact D.Bc [Ba b n gb hb sb vw vo,ho,qb n gb cb d w tn,ta cb n.c v,hv,Sa sb n.dc n.rc] _ rfl ⟨rfl,_,_,On,rfl⟩
  |some e=>
   show W _ _ _ _ _ _ [Fb b4 e,Ba b n gb hb sb vw vo,ho,qb n gb cb d w tn,ta cb n.c v,hv,Sa sb n.dc n.rc,R];simp only[];generalize hf:(λ(i:Nat)=>({n.out 12 ⟨1,x,n.rg,(i:Int)⟩ with en:=e}:Da))=f;have gV:∀i:Nat,f i={({Da.z with kind:=12,to:=⟨1,x,n.rg,(i:Int)⟩,en:=e}:Da) with fr:=n.self}:=λi=>by rw[<-hf];rfl
   try refine ga ?_
   refine W.loop (α:=Nat×Value×Hp) (λy=>y.1<=N/\ia 52 (outs++(List.range y.1).map f) y.2.1 y.2.2)
    (λy=>[(0,.pointer (some ⟨b,0,none⟩)),(1,.int .i64 x),(4,.pointer (some ⟨b4,0,none⟩)),(5,.bool true),(6,.int .i64 (y.1:Int))])
    (λy=>[Fb b4 e,Ba b n gb hb sb vw y.2.1,y.2.2,qb n gb cb d w tn,ta cb n.c v,hv,Sa sb n.dc n.rc,R]) (λy=>N - y.1) (0,vo,ho) ⟨Nat.zero_le _,by simp only[range_zero,map_nil,append_nil];exact On⟩ (by repeat(first|exact Ca.nil|refine Ca.cons rfl ?_)) (Ga.qa inferInstance) ?_
   rintro⟨i,v2,h2⟩ ⟨hk,Oa⟩;simp only[] at hk Oa⊢;have hle2:(outs++(List.range i).map f).length<=1000000:=by rw[length_append,length_map,length_range];omega
   by_cases hlt:i<N
   .have hn:=Ak f hlt;have ZA:=uh n b gb hb sb vw Oa hle2 {Da.z with kind:=12,to:=⟨1,x,n.rg,(i:Int)⟩,en:=e};rw[<-gV,append_assoc,<-hn] at ZA;have hlt':(i:Int)<n.nn:=by omega
    try refine ga ?_
    refine W.od (List.replicate 11 true) [Fb b4 e,Ba b n gb hb sb vw v2] Tryz.mix (by kernel_rfl) ?_;repeat'(first|refine ga ?_|refine Pa e.enc e.enc rfl ?_|refine Vf (t:=35) (Bl.enc ⟨1,x,n.rg,(i:Int)⟩) ?_|refine Vf (t:=52) (Da.enc {Da.z with kind:=12,to:=⟨1,x,n.rg,(i:Int)⟩,en:=e}) ?_|fail)
    refine WX.call rfl ZA rfl ?_;rintro _ _ ⟨rfl,v5,h5,hs5,rfl⟩;simp only[ca,na];try refine ga ?_
    exact D.rd (i+1,v5,h5) ⟨by simp only[];omega,hs5⟩ (by simp only[];omega)
   .obtain rfl:i=N:=by omega
    have hlt': ¬(i:Int)<n.nn:=by omega
    try refine ga ?_
    rw[hN,Int.toNat_natCast];exact D.Bc [Ba b n gb hb sb vw v2,h2,qb n gb cb d w tn,ta cb n.c v,hv,Sa sb n.dc n.rc] _ rfl ⟨rfl,_,_,Oa,rfl⟩
end
variable{s:Ea}{T:Int}{b cb:Nat}{h:Hp}{n:va}
def Ea.cV(h:Je s.ch)(e:ya):s.dV e=s.inj e:=by
 cases s with
 |up l c t=>
  have h:Je c:=h;unfold Ea.dV Ea.inj xk Yf
  simp only[h.Gc]
 |dn l c q=>rfl
def Ea.oR(h:Je s.ch)(fr ep ix:Int)(e:ya):s.wg fr ep ix e=s.take fr ep ix e:=by
 cases s with
 |up l c t=>
  have h:Je c:=h;unfold Ea.wg Ea.take Mj Kd
  simp only[h.wg]
 |dn l c q=>rfl
def Ea.eV(h:Je s.ch)(key val:ByteArray)(dead:Bool)(deps:V9)(clock cl op:Int):s.vk key val dead deps clock cl op=s.put key val dead deps clock cl op:=by
 cases s with
 |up l c t=>
  have h:Je c:=h;unfold Ea.vk Ea.put Dj Vc
  simp only[h.vk]
 |dn l c q=>rfl
def Ea.xq(s:Ea)(x:Va):(s.Yu x).2=(s.enter x).2/\(s.Yu x).1.2=(s.enter x).1.2:=by
 cases s with
 |up l c t=>
  refine⟨rfl,?_⟩;show(zk l c x).1.2=(Kc l c x).1.2;unfold zk Kc;repeat' split
  all_goals rfl
 |dn l c q=>exact⟨rfl,rfl⟩
def Vq(s:Ea)(b cb:Nat)(T:Int)(h:Hp):Prop:=∃d w v hv seg t tn hd,h=yb b cb d w s.Xa tn++(ta cb s.ch v++(hv++(ff w d seg t++hd)))/\UX s cb d w v hv seg hd T
def Vq.mono{s:Ea}{b cb:Nat}{T T':Int}{h:Hp}(hm:Vq s b cb T h)(hT:T<=T'):Vq s b cb T' h:=by
 obtain⟨d,w,v,hv,seg,t,tn,hd,e,at_⟩:=hm;exact⟨d,w,v,hv,seg,t,tn,hd,e,⟨at_.sl,at_.dk.mono hT,at_.sg,at_.nv⟩⟩
def fV{N:Int}(ok:s.ok N)(hm:Vq s b cb T h)(Mi:0<=T)(hT:T<=68719476736)(e:ya):Ct prog 189 [b,.agg (List.toArray e.enc)] [h] (λr H'=>r= .int .i64 (s.dV e).1/\∃h',H'=[h']/\Vq (s.dV e).2 b cb (T+243) h'):=by
 cases s with
 |up l c t=>
  obtain⟨d,w,v,hv,seg,t',tn,hd,rfl,at_⟩:=hm;obtain rfl:=at_.sg rfl;have Sy:Ge l:=ok.lg.ok;have ob:Lb c:=ok.ok;have Mf:ia 49 c.lg v hv:=at_.sl;have hdk:RD l d hd T:=at_.dk;refine(pR (w:=w) (Aa:=t') (tn:=tn) Sy b cb hdk Mi (by omega) ob Mf e).pack (by simp[Ea.c0,Ea.ch,Ea.Xa,Ea.l0]) λr H' ⟨h1,h2⟩=>?_;obtain⟨v',Lc,hd',rfl,hs',hk'⟩:=h2
  exact⟨[yb b cb d w true tn++(ta cb (xk l c e).2.1 v'++(Lc++(ff w d (ua (xk l c e).2.2) t'++hd')))],by simp,h1,_,rfl,d,w,v',Lc,_,t',tn,hd',rfl,⟨hs',hk',λ_=>rfl,λe=>(by cases e)⟩⟩
 |dn l c q=>
  have Ji:=hm;obtain⟨d,w,v,hv,seg,t',tn,hd,rfl,at_⟩:=hm;exact(Ct.ext (yO b cb d w tn e)).mono λr H' ⟨h1,h2⟩=>⟨h1,_,h2,Ji.mono (by omega)⟩
def va.MM(hm:Vq n.s b cb T h):∃d w tn v hv X,h=qb n b cb d w tn++(ta cb n.c v++(hv++X))/\ia 49 n.c.lg v hv:=by
 obtain⟨d,w,v,hv,seg,t,tn,hd,rfl,at_⟩:=hm;exact⟨d,w,tn,v,hv,_,rfl,at_.sl⟩
def va.YK(hm:Zf n.s b T h):∃cb d w tn v hv X,h=qb n b cb d w tn++(ta cb n.c v++(hv++X))/\ia 49 n.c.lg v hv:=by
 obtain⟨cb,d,w,v,hv,seg,t,tn,hd,rfl,at_⟩:=hm;exact⟨cb,d,w,tn,v,hv,_,rfl,at_.sl⟩
theorem va.yI (n : va) (k : Nat) (lb hb sb : Nat) (vw vo : Value) : (n.ji k).jc lb hb sb vw vo = n.jc lb hb sb vw vo := by
 obtain ⟨h1, h2, h3⟩ := Ea.Rp n.s (n.hd.getD k ya.z)
 unfold va.jc va.dc va.rg va.nd va.ji
 simp only []
 rw [h1, h2, h3]
section
variable(n:va)(b gb hb sb:Nat)(vw vo:Value)
def zI(cb d w:Nat)(tn:Int)(v:Value){hv:Hp}(hl:n.c.lg.length<=1000000)(hs:Rs n.c.lg v hv):Ct prog 187 [.pointer (some ⟨b,0,none⟩)] [Ba b n gb hb sb vw vo,qb n gb cb d w tn,ta cb n.c v,hv] (λr H'=>r= .agg (List.toArray n.Wb.enc)/\H'=[Ba b n gb hb sb vw vo,qb n gb cb d w tn,ta cb n.c v,hv]):=by
 have h1:=Qp n.c cb hs hl;have h2:=NM n.kn n.rg (ic n.rg n.c.lg);have Tq:n.c.rg=n.rg:=(Ea.Uq n.s).2.2;rw[Tq] at h1;unfold va.Wb;generalize ic n.rg n.c.lg=C at*;refine ce func187 λg R=>?_;repeat' first|refine vb ?_|refine al λ_=>?_
 refine W.od (List.replicate 16 true++[false,false]) [Ba b n gb hb sb vw vo,qb n gb cb d w tn] Tryz.mix (by kernel_rfl) ?_;repeat' first|refine ga ?_|refine WX.Fa (b:=b) (i:=12) (cs:=n.jc gb hb sb vw vo) (vs:=n.kn.enc) rfl rfl rfl rfl ?_|refine cq h1 ?_|refine cq h2 ?_|refine ud V9.z.enc (Ej n.kn n.rg C).enc rfl rfl ?_
 exact D.Dc [Ba b n gb hb sb vw vo,qb n gb cb d w tn,ta cb n.c v,hv] _ rfl (.Ua rfl rfl .nil) ⟨rfl,rfl⟩
variable(N T:Int)(ok:Vh n N)(cs:Je n.c)(hN:N+16<=1099511627776)(Mi:0<=T)(hT:T+3888<=68719476736)
include ok cs hN Mi hT
theorem OM{cb:Nat}{hl:Hp}(hm:Vq n.s gb cb T hl){v:Value}{hh:Hp}(hs:ia 49 n.hd v hh):Ct prog 92 [.pointer (some ⟨b,0,none⟩)] [Ba b n gb hb sb vw vo,hl,Ka hb n.rg v,hh]
  (λr H'=>r= .tuple #[]/\∃hl' v' Ni,H'=[Ba b n.pull gb hb sb vw vo,hl',Ka hb n.pull.rg v',Ni]/\Vq n.pull.s gb cb (T+3888) hl'/\ia 49 n.pull.hd v' Ni):=by
 have hm0:=hm;obtain⟨d,w,tn,u,hv,X,e,Mf⟩:=va.MM hm;have hih:=uk ok.ob.co cb u;have jg:=ok.ob.len;unfold va.pull;by_cases ch:n.c.head
 .rw[if_pos ch];rw[decide_eq_true ch] at hih;have VX:=zI n b gb hb sb vw vo cb d w tn u (by omega) Mf.rs;have C7:=ZK hs hb n.rg ok.hl n.Wb (λe he=>ok.of he);subst e;refine ce func92 λg R=>?_;simp only[can];refine W.flat (H':=[Ba b n gb hb sb vw vo,qb n gb cb d w tn,ta cb n.c u,hv,X,Ka hb n.rg v,hh,R]) (by simp) ?_;repeat' first|refine ga ?_|refine cq hih ?_
  refine W.od [true,true,true,true,true,false,false] [Ba b n gb hb sb vw vo] Tryz.mix (by kernel_rfl) ?_;repeat' first|refine ga ?_|refine cq VX ?_
  refine ck C7 ?_;rintro _ _ ⟨k0,v0,hh0,rfl,rfl,hs0⟩;refine vb ?_
  refine W.loop (α:=va×Int×Value×Hp×Hp×Int) (λy=>Vh y.1 y.2.1/\Je y.1.c/\y.2.1+y.1.hd.length<=N+16/\0<=y.2.2.2.2.2/\y.2.2.2.2.2+243*y.1.hd.length<=T+3888/\Vq y.1.s gb cb y.2.2.2.2.2 y.2.2.2.2.1/\ia 49 y.1.hd y.2.2.1 y.2.2.2.1/\va.Md y.1.hd.length y.1=va.Md n.uf.hd.length n.uf)
   (λy=>[(0,.pointer (some ⟨b,0,none⟩))])
   (λy=>[Ba b y.1 gb hb sb vw vo,y.2.2.2.2.1,Ka hb y.1.rg y.2.2.1,y.2.2.2.1,R]) (λy=>y.1.hd.length) (n.uf,N,v0,hh0,_,T) ⟨ok.uf,cs,by have:=ok.uf.hl;simp only[];omega,Mi,by have:=ok.uf.hl;simp only[];omega,hm0,hs0,rfl⟩ (by repeat(first|exact Ca.nil|refine Ca.cons rfl ?_)) (by show Ga _ [Ba b n gb hb sb vw vo,qb n gb cb d w tn++(ta cb n.c u++(hv++X)),Ka hb n.rg v0,hh0,R];exact(Ga.qa inferInstance)) ?_
  rintro⟨m,M,v1,h1,l1,T1⟩ ⟨bg,D7,hM,hT2,hT3,Ji,hs1,hp⟩;simp only[] at bg D7 hM hT2 hT3 Ji hs1 hp⊢;have hm2:=Ji;obtain⟨d,w,tn,u,hv,X,rfl,Mf⟩:=va.MM Ji;have hml:=bg.ob.len;have VX:=zI m b gb hb sb vw vo cb d w tn u (by omega) Mf.rs;have Le:=zO hs1 hb m.rg bg.hl m.Wb (λe he=>bg.of he);have sF:=m.Px;obtain⟨o,Hj,AO⟩:∃o Hj,Wq m.Wb m.hd=(o,Hj):=⟨_,_,rfl⟩;rw[AO] at Le
  have Le:Ct prog 188 [.pointer (some ⟨hb,0,none⟩),.agg (List.toArray m.Wb.enc)] [Ka hb m.rg v1,h1] (λr H'=>∃v' Ni,r= .tuple #[.agg (List.toArray (o.getD ya.z).enc),.bool o.isSome]/\H'=[Ka hb m.rg v',Ni]/\ia 49 Hj v' Ni):=by
   cases o<;>exact Le
  refine W.flat (H':=[Ba b m gb hb sb vw vo,qb m gb cb d w tn,ta cb m.c u,hv,X,Ka hb m.rg v1,h1,R]) (by simp) ?_;refine W.block ?_;refine W.seq ?_;refine W.gi (α:=Nat×Value×Hp) (λy=>ia 49 Hj y.2.1 y.2.2) (λy=>[(0,.pointer (some ⟨b,0,none⟩)),(2,.pointer (some ⟨y.1,0,none⟩)),(3,.bool o.isSome)]) (λy=>[Fb y.1 (o.getD ya.z),Ba b m gb hb sb vw vo,qb m gb cb d w tn,ta cb m.c u,hv,X,Ka hb m.rg y.2.1,y.2.2,R]) ?_ ?_
  .refine W.YE [true,true,true,true,true,false,false,true,true,true,false,false] [Ba b m gb hb sb vw vo] Tryz.mix (by kernel_rfl) ?_;repeat' first|refine ga ?_|refine al λ_=>?_|refine WY.Se ?_|refine WY.back ?_|refine WY.Ye 0 (by decide+kernel) rfl (by kernel_rfl) ?_|refine WY.Ye 1 (by decide+kernel) rfl (by kernel_rfl) ?_|refine WY.Ye 2 (by decide+kernel) rfl (by kernel_rfl) ?_|refine WY.Ye 3 (by decide+kernel) rfl (by kernel_rfl) ?_|refine WY.Ye 4 (by decide+kernel) rfl (by kernel_rfl) ?_|refine WY.Ye 7 (by decide+kernel) rfl (by kernel_rfl) ?_|refine WY.Ye 8 (by decide+kernel) rfl (by kernel_rfl) ?_|refine WY.Ye 9 (by decide+kernel) rfl (by kernel_rfl) ?_|refine WY.Ts 5 10 (by decide+kernel) rfl rfl ?_ ?_|refine WY.Ts 6 10 (by decide+kernel) rfl rfl ?_ ?_|refine WY.nq 5 (by decide+kernel) rfl ?_|refine WY.nq 6 (by decide+kernel) rfl ?_|refine WY.nq 10 (by decide+kernel) rfl ?_|refine WY.nq 11 (by decide+kernel) rfl ?_|refine WY.fin (by kernel_rfl) ?_|refine cq VX ?_|(refine I.cl ?_;refine ck Le ?_;rintro _ _ ⟨v2,h2,rfl,rfl,Oa⟩;simp only[ca,na])|refine ud ya.z.enc (o.getD ya.z).enc rfl rfl ?_
   all_goals exact D.aQ (_,v2,h2) Oa
  .rintro⟨b3,v2,h2⟩ Oa;simp only[] at Oa⊢;unfold Wq at AO;by_cases Lx:Be m.Wb m.hd<0
   .rw[if_pos Lx] at AO;obtain⟨rfl,rfl⟩:=Prod.mk.inj AO;have hst:=va.Vi Lx m.hd.length;rw[hst] at hp;rw[<-hp];try refine ga ?_
    refine D.Oe [Ba b m gb hb sb vw vo,qb m gb cb d w tn,ta cb m.c u,hv,X,Ka hb m.rg v2,h2,R] (H2:=[Ba b m gb hb sb vw vo,qb m gb cb d w tn++(ta cb m.c u++(hv++X)),Ka hb m.rg v2,h2,R]) (by simp) ?_;exact D.ai [Ba b m gb hb sb vw vo,qb m gb cb d w tn++(ta cb m.c u++(hv++X)),Ka hb m.rg v2,h2] _ rfl ⟨rfl,_,_,_,rfl,hm2.mono (by omega),Oa⟩
   .rw[if_neg Lx] at AO;obtain⟨rfl,rfl⟩:=Prod.mk.inj AO;obtain⟨e1,e2⟩:=va.Ty (n:=m) (by omega);rw[e1] at hp;obtain⟨k,hk⟩:∃k,(Be m.Wb m.hd).toNat=k:=⟨_,rfl⟩;rw[hk] at hp e2 Oa⊢;have hin:=fV bg.ok hm2 hT2 (by omega) (m.hd.getD k ya.z);rw[Ea.cV D7] at hin;have U1:=bg.ji (by omega) k;have E7:Je (m.ji k).c:=Ea.Uy bg.ok D7 _;have Tq:=va.Rt m k;have hce:Ba b (m.ji k) gb hb sb vw vo=Ba b m gb hb sb vw vo:=by unfold Ba;rw[va.yI m k gb hb sb vw vo]
    try refine ga ?_
    refine W.hp (H':=[Fb b3 (m.hd.getD k ya.z),Ba b m gb hb sb vw vo,qb m gb cb d w tn,ta cb m.c u,hv,X,Ka hb m.rg v2,h2,R]) rfl ?_;refine W.od [true,true,true,true,true] [Fb b3 (m.hd.getD k ya.z),Ba b m gb hb sb vw vo] Tryz.mix (by kernel_rfl) ?_;repeat' first|refine ga ?_|refine Pa (m.hd.getD k ya.z).enc (m.hd.getD k ya.z).enc rfl ?_
    refine ck hin ?_;rintro _ _ ⟨rfl,l2,rfl,Vy⟩;refine vb ?_;exact D.round (m.ji k,M+1,v2,h2,l2,T1+243) ⟨U1,E7,by simp only[];omega,by simp only[];omega,by simp only[];omega,Vy,Oa,hp⟩ (by simp only[];omega) (by repeat(first|exact Ca.nil|refine Ca.cons rfl ?_)) (by simp only[];rw[hce,Tq];exact(Ga.qa inferInstance))
 .rw[if_neg ch];rw[decide_eq_false ch] at hih;subst e;refine ce func92 λg R=>?_;simp only[can];refine W.flat (H':=[Ba b n gb hb sb vw vo,qb n gb cb d w tn,ta cb n.c u,hv,X,Ka hb n.rg v,hh,R]) (by simp) ?_;repeat' first|refine ga ?_|refine cq hih ?_
  refine D.Oe [Ba b n gb hb sb vw vo,qb n gb cb d w tn,ta cb n.c u,hv,X,Ka hb n.rg v,hh,R] (H2:=[Ba b n gb hb sb vw vo,qb n gb cb d w tn++(ta cb n.c u++(hv++X)),Ka hb n.rg v,hh,R]) (by simp) ?_;exact D.ai [Ba b n gb hb sb vw vo,qb n gb cb d w tn++(ta cb n.c u++(hv++X)),Ka hb n.rg v,hh] _ rfl ⟨rfl,_,_,_,rfl,hm0.mono (by omega),hs⟩
theorem Wy{hl:Hp}(hm:Zf n.s gb T hl){v:Value}{hh:Hp}(hs:ia 49 n.hd v hh):Ct prog 92 [b] [Ba b n gb hb sb vw vo,hl,Ka hb n.rg v,hh]
  (λr H'=>r= .tuple #[]/\∃hl' v' Ni,H'=[Ba b n.pull gb hb sb vw vo,hl',Ka hb n.pull.rg v',Ni]/\Zf n.pull.s gb (T+3888) hl'/\ia 49 n.pull.hd v' Ni):=by
 obtain⟨cb,hm⟩:=hm;exact(OM n b gb hb sb vw vo N T ok cs hN Mi hT (cb:=cb) hm hs).mono λr H' ⟨h1,hl',v',Ni,h2,h3,h4⟩=>⟨h1,hl',v',Ni,h2,⟨cb,h3⟩,h4⟩
end
end Go.Proofs.YthebagfahkebiaaGreat
