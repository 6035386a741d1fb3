/- Texts of one road. -/
import Derived.Test.YthebagfahkebiaaGreatQAH
set_option linter.all false
set_option maxHeartbeats 8000000
set_option maxRecDepth 20000
namespace Go.Proofs.YthebagfahkebiaaGreat
open Go Go.Sl Go.Proofs.Tryz List
variable{n:Int}{h:Hp}{s:ByteArray}
structure Ot where
 b:List UInt8:=[]
 bad:Bool:=false
def Ot.put(O:Ot)(it:It)(u:Value):Ot:=⟨O.b++(encI it u).getD [],O.bad||(encI it u).isNone⟩
def Cd.ot(C:Cd):Ot:=⟨C.b,C.arg⟩
def Ot.uH{O:Ot}:O.put (.num 0) (n)=if n<0\/4611686018427387904<n then⟨O.b,true⟩ else⟨O.b++Gd n.toNat,O.bad⟩:=by
 unfold Ot.put;rw[qh];by_cases h:n<0\/4611686018427387904<n
 .rw[if_pos h,if_pos h];simp
 .rw[if_neg h,if_neg h];simp
def Ot.lu{O:Ot}{o:Nat}:(O.put (.num o) (n)).b.length<=O.b.length+9:=by
 show(O.b++(encI (.num o) (n)).getD []).length<=_;have:=jA (it:= .num o) (u:= .int .i64 n) (by simp[Om]);have e:tl (n) (.num o)=0:=rfl;rw[Cb];omega
abbrev Zj(o:Nat)(O:Ot)(v:Value):Hp:=[(o,.cells (List.toArray [v,.bool O.bad]) 278 (0,0))]
def Nw(o:Nat)(O':Ot):Value->HH->Prop:=λ_ H'=>∃v' h',H'=[Zj o O' v',h']/\ia 5 O'.b v' h'
def Tj{O:Ot}{v:Value}(hs:ia 5 O.b v h)(hl:O.b.length<=1099511627776){o:Nat}:
  Ct prog 262 [o,.int .i64 n] [Zj o O v,h] (Nw o (O.put (.num 0) (.int .i64 n))):=by
 obtain⟨B,bad⟩:=O;simp only[] at hs hl⊢;rw[Ot.uH];refine ce func262 λg R=>?_;simp only[can];by_cases h1:n<0
 .rw[if_pos (.inl h1)];try refine run ?_
  exact D.ai [Zj o ⟨B,true⟩ v,h] _ rfl ⟨_,_,rfl,hs⟩
 by_cases h2:4611686018427387904<n
 .rw[if_pos (.inr h2)];try refine run ?_
  exact D.ai [Zj o ⟨B,true⟩ v,h] _ rfl ⟨_,_,rfl,hs⟩
 rw[if_neg (by omega)];obtain⟨m0,rfl⟩:∃m:Nat,n=(m:Int):=⟨n.toNat,by omega⟩;rw[Int.toNat_natCast];have h9:(Gd m0).length<=9:=kA (by omega);obtain⟨p0,n0,c0,rfl⟩:=hs.sh;try refine run ?_
 refine W.lo (α:=Nat×List UInt8×Value×Hp) (λx=>x.2.1++Gd x.1=Gd m0/\ia 5 (B++x.2.1) x.2.2.1 x.2.2.2/\x.1<=m0/\∃p n c,x.2.2.1= .slice p n c) (λx=>[(0,o),(1,.int .i64 (x.1:Int))])
  (λx=>[Zj o ⟨B,bad⟩ x.2.2.1,x.2.2.2,R]) (λx=>x.1) (m0,[],.slice p0 n0 c0,h) ⟨rfl,by simpa using hs,Nat.le_refl _,_,_,_,rfl⟩ ?_
 rintro⟨m,dn,u,hu⟩ ⟨e1,hs1,hm,pu,nu,cu,rfl⟩;simp only[] at e1 hs1 hm⊢;have hdl:dn.length<=9:=by rw[<-e1,Cb] at h9;omega
 by_cases hge:m<128
 .rw[dg hge] at e1;repeat' first|refine run ?_|refine WX.conv rfl rfl (IntWalk.u8_in _ (by omega)) ?_
  refine WX.as 36 (.int .u8 ((UInt8.ofNat m).toNat:Int)) rfl (by rw[Ff (by omega)]) ?_;refine Kp [UInt8.ofNat m] (λv1 h1 Oa=>?_);refine Ys (zb:=by simp only[Cb,Gb,jd];omega) hs1 Oa.rs (λv2 h2 Fc=>?_);rw[Oc,e1] at Fc;obtain⟨p1,n1,c1,rfl⟩:=Fc.sh;try refine run ?_
  exact D.Bc [Zj o ⟨B++Gd m0,bad⟩ (.slice p1 n1 c1),h2] _ rfl ⟨_,_,rfl,Fc⟩
 .rw[Ho hge] at e1;repeat' first|refine run ?_|refine WX.rem rfl rfl rfl (by decide) ?_
  refine WX.as 21 (.int .i64 ((m% 128:Nat):Int)) rfl (by rw[Int.ofNat_tmod];rfl) ?_;repeat' first|refine run ?_|refine WX.conv rfl rfl (IntWalk.u8_in _ (by omega)) ?_
  refine WX.as 23 (.int .u8 ((UInt8.ofNat (128+m% 128)).toNat:Int)) rfl (by rw[Ff (by omega)];congr 1) ?_;refine Kp [UInt8.ofNat (128+m% 128)] (λv1 h1 Oa=>?_);refine Ys (zb:=by simp only[Cb,Gb,jd];omega) hs1 Oa.rs (λv2 h2 Fc=>?_);rw[Oc] at Fc;obtain⟨p1,n1,c1,rfl⟩:=Fc.sh;repeat' first|refine run ?_|refine WX.quo rfl rfl rfl (by decide) ?_
  refine D.as 1 (.int .i64 ((m/128:Nat):Int)) rfl (by rw[IntWalk.i64_quo _ _ (by omega)];rfl) ?_;exact D.rd (m/128,dn++[UInt8.ofNat (128+m% 128)],.slice p1 n1 c1,h2) ⟨by simp only[];rw[Oc];exact e1,Fc,by simp only[];omega,_,_,_,rfl⟩ (by simp only[];omega)
def qN{O:Ot}{v:Value}(hs:ia 5 O.b v h)(hl:O.b.length<=1099511627776){t:Bool}{o:Nat}:
  Ct prog 296 [o,.bool t] [Zj o O v,h] (Nw o (O.put (.Sn 0) (.bool t))):=by
 obtain⟨B,bad⟩:=O;simp only[] at hs hl⊢;obtain⟨p0,n0,c0,rfl⟩:=hs.sh;refine ce func296 λg R=>?_;simp only[can]
 cases t with
 |true=>
  have e:Ot.put ⟨B,bad⟩ (.Sn 0) (.bool true)=⟨B++[1],bad⟩:=by
   have h1:encI (.Sn 0) (.bool true)=some [1]:=by show some (Gd 1)=_;rw[dg (by decide)];rfl
   unfold Ot.put;rw[h1];cases bad<;>rfl
  rw[e];try refine run ?_
  refine Kp [(1:UInt8)] (λv1 h1 Oa=>?_);refine Ys (zb:=by simp only[Gb,jd];omega) hs Oa.rs (λv2 h2 Fc=>?_);obtain⟨p1,n1,c1,rfl⟩:=Fc.sh;try refine run ?_
  exact D.Bc [Zj o ⟨B++[1],bad⟩ (.slice p1 n1 c1),h2] _ rfl ⟨_,_,rfl,Fc⟩
 |false=>
  have e:Ot.put ⟨B,bad⟩ (.Sn 0) (.bool false)=⟨B++[0],bad⟩:=by
   have h1:encI (.Sn 0) (.bool false)=some [0]:=by show some (Gd 0)=_;rw[dg (by decide)];rfl
   unfold Ot.put;rw[h1];cases bad<;>rfl
  rw[e];try refine run ?_
  refine Kp [(0:UInt8)] (λv1 h1 Oa=>?_);refine Ys (zb:=by simp only[Gb,jd];omega) hs Oa.rs (λv2 h2 Fc=>?_);obtain⟨p1,n1,c1,rfl⟩:=Fc.sh;try refine run ?_
  exact D.Bc [Zj o ⟨B++[0],bad⟩ (.slice p1 n1 c1),h2] _ rfl ⟨_,_,rfl,Fc⟩
def Ot.rN{O:Ot}(h:s.data.toList.length<=4611686018427387904):O.put (.xj 0 0) (.string s)=⟨(O.put (.num 0) (.int .i64 (s.size:Int))).b++s.data.toList,(O.put (.num 0) (.int .i64 (s.size:Int))).bad⟩:=by
 have hz:s.size=s.data.toList.length:=rfl;rw[Ot.uH,if_neg (by omega),Int.toNat_natCast];unfold Ot.put;rw[show encI (.xj 0 0) (.string s)=some (Gd s.data.toList.length++s.data.toList) from rfl,hz];simp
def sN{O:Ot}{v:Value}(hs:ia 5 O.b v h)(hl:O.b.length<=549755813888)(hz:s.data.toList.length<=1073741824){o:Nat}:
  Ct prog 295 [o,.string s] [Zj o O v,h] (Nw o (O.put (.xj 0 0) (.string s))):=by
 rw[Ot.rN (by omega)];have hp:=O.lu (o:=0) (n:=(s.size:Int));refine cr func295 λg R=>?_;refine ck (Tj hs (by omega) (n:=(s.size:Int))) ?_;rintro _ _ ⟨v1,h1,rfl,hs1⟩;obtain⟨p0,n0,c0,rfl⟩:=hs1.sh;refine rn ?_;refine WX.KY rfl rfl hs1 rfl (by decide) (by omega) rfl (λv2 h2 Oa=>?_);obtain⟨p1,n1,c1,rfl⟩:=Oa.sh;try refine run ?_
 exact D.Bc [Zj o ⟨(O.put (.num 0) (.int .i64 (s.size:Int))).b++s.data.toList,(O.put (.num 0) (.int .i64 (s.size:Int))).bad⟩ (.slice p1 n1 c1),h2] _ rfl ⟨_,_,rfl,Oa⟩
variable{O:Ot}{ns:List Int}
def Ot.je(O:Ot)(ns:List Int):Ot:=ns.foldl (λO n=>O.put (.num 0) (.int .i64 n)) O
def Ai(ns:List Int):(O.je ns).b.length<=O.b.length+9*ns.length:=by
 induction ns generalizing O with
 |nil=>exact Nat.le_refl _
 |cons n t ih=>
  have h1:=ih (O:=O.put (.num 0) (.int .i64 n));have h2:=O.lu (o:=0) (n:=n);show((O.put (.num 0) (.int .i64 n)).je t).b.length<=_;rw[length_cons];omega
def yP{n:Int}:O.je (ns++[n])=(O.je ns).put (.num 0) (.int .i64 n):=by unfold Ot.je;rw[foldl_append];rfl
def Tf{v:Value}(hs:ia 5 (O.je ns).b v h)(hl:O.b.length<=549755813888)(hn:ns.length<=100)(n:Int){o:Nat}:
  Ct prog 262 [o,n] [Zj o (O.je ns) v,h] (Nw o (O.je (ns++[n]))):=by
 have h1:=Ai (O:=O) ns;rw[yP];exact Tj hs (by omega)
def dy{s:ByteArray}(h:s.data.toList.length<=1073741824):(O.put (.xj 0 0) (.string s)).b.length<=O.b.length+9+s.data.toList.length:=by
 rw[Ot.rN (by omega)];have:=O.lu (o:=0) (n:=(s.size:Int));simp only[Cb];omega
def ey{t:Bool}:(O.put (.Sn 0) (.bool t)).b.length<=O.b.length+9:=by
 show(O.b++(encI (.Sn 0) (.bool t)).getD []).length<=_;have:=jA (it:= .Sn 0) (u:= .bool t) (by simp[Om]);have e:tl (.bool t) (.Sn 0)=0:=rfl;rw[Cb];omega
def V9.ls(v:V9):List Int:=[v.a,v.b,v.c,v.d,v.e,v.f,v.g,v.h,v.i]
def V9.at9(v:V9){j:Nat}(h:j<9):∃x,v.ls[j]? =some x/\v.enc[j]? =some (.int .i64 x):=by
 have hl:v.ls.length=9:=rfl;have he:v.enc=v.ls.map (.int .i64):=rfl;exact⟨_,oh (by omega),by rw[he,List.getElem?_map,oh (by omega)];rfl⟩
def iW{v:Value}(hs:ia 5 O.b v h)(hl:O.b.length<=549755813888)(d:V9){o:Nat}:
  Ct prog 297 [.pointer (some ⟨o,0,none⟩),.agg d.enc.toArray] [Zj o O v,h] (Nw o (O.je d.ls)):=by
 have hdl:d.ls.length=9:=rfl;refine ce func297 λg R=>?_;simp only[can];repeat' apply go
 refine WX.box (vs:=d.enc) rfl rfl rfl (λb=>?_);try refine run ?_
 refine W.hp (H':=[[(b,.cells d.enc.toArray 47 (0,0))],Zj o (O.je (d.ls.take (0*3+0))) v,h,R]) rfl ?_
 refine W.lo (α:=Nat×Value×Hp) (λx=>x.1<=3/\ia 5 (O.je (d.ls.take (x.1*3+0))).b x.2.1 x.2.2) (λx=>[(0,.pointer (some ⟨o,0,none⟩)),(3,.pointer (some ⟨b,0,none⟩)),(4,.int .i64 (x.1:Int))])
  (λx=>[Zj o (O.je (d.ls.take (x.1*3+0))) x.2.1,x.2.2,[(b,.cells d.enc.toArray 47 (0,0))],R]) (λx=>3 - x.1) (0,v,h) ⟨Nat.zero_le _,hs⟩ ?_
 rintro⟨k,u,hu⟩ ⟨hk,hsu⟩;simp only[] at hk hsu⊢;by_cases jW:k<3
 .try refine run ?_
  refine W.lo (α:=Nat×Value×Hp) (λx=>x.1<=3/\ia 5 (O.je (d.ls.take (k*3+x.1))).b x.2.1 x.2.2) (λx=>[(0,.pointer (some ⟨o,0,none⟩)),(3,.pointer (some ⟨b,0,none⟩)),(4,.int .i64 (k:Int)),(5,.int .i64 (x.1:Int))])
   (λx=>[Zj o (O.je (d.ls.take (k*3+x.1))) x.2.1,x.2.2,[(b,.cells d.enc.toArray 47 (0,0))],R]) (λx=>3 - x.1) (0,u,hu) ⟨Nat.zero_le _,hsu⟩ ?_
  rintro⟨r,w,hw⟩ ⟨hr,hsw⟩;simp only[] at hr hsw⊢;by_cases HU:r<3
  .obtain⟨x,hx,hv⟩:=d.at9 (j:=k*3+r) (by omega)
   have Le:d.ls.take (k*3+(r+1))=d.ls.take (k*3+r)++[x]:=by
    rw[<-Nat.add_assoc,take_succ_eq_append_getElem (List.getElem?_eq_some_iff.1 hx).1,(List.getElem?_eq_some_iff.1 hx).2]
   try refine run ?_
   refine WX.as 18 (.pointer (some ⟨b,k*3+r,none⟩)) rfl (by rw[Int.toNat_natCast,Int.toNat_natCast,Nat.mul_one,Nat.zero_add]) ?_;refine WX.load rfl hv rfl ?_;refine ck (Tf hsw hl (by rw[length_take];omega) x) ?_;rintro _ _ ⟨v1,h1,rfl,hs1⟩;rw[<-Le] at hs1⊢;refine rn ?_;exact D.rd (r+1,v1,h1) ⟨by simp only[];omega,hs1⟩ (by simp only[];omega)
  .obtain rfl:r=3:=by omega
   rw[show k*3+3=(k+1)*3+0 by omega] at hsw⊢;try refine run ?_
   exact D.rd (k+1,w,hw) ⟨by simp only[];omega,hsw⟩ (by simp only[];omega)
 .obtain rfl:k=3:=by omega
  rw[show d.ls.take (3*3+0)=d.ls from rfl] at hsu⊢;try refine run ?_
  exact D.Bc [Zj o (O.je d.ls) u,hu] _ rfl ⟨_,_,rfl,hsu⟩
def tN{v:Value}(hs:ia 5 (O.je ns).b v h)(hl:O.b.length<=549755813888)(hn:ns.length<=90)(x y:Int){o:Nat}:
  Ct prog 298 [o,.agg #[x,y]] [Zj o (O.je ns) v,h] (Nw o (O.je (ns++[x,y]))):=by
 refine ce func298 λg R=>?_;simp only[can];repeat' apply go
 refine WX.box (vs:=[x,y]) rfl rfl rfl (λb=>?_);try refine run ?_
 refine ck (Tf hs hl (by omega) x) ?_;rintro _ _ ⟨v1,h1,rfl,hs1⟩;refine rn ?_;refine ck (Tf hs1 hl (by rw[Cb];simp only[Gb,jd];omega) y) ?_;rintro _ _ ⟨v2,h2,rfl,Oa⟩;rw[Oc] at Oa⊢;refine rn ?_;exact D.Bc [Zj o (O.je (ns++[x,y])) v2,h2] _ rfl ⟨_,_,rfl,Oa⟩
variable{n:Nat}{k:Int}
def eX(o:Option Ch):Value:= .tuple (List.toArray [.agg (List.toArray (match o with|some c=>c.cfg|none=>Va.z).enc),.bool o.isSome])
def jN(k i:Nat):Mem:=if i<k then⟨(i:Int),1⟩ else Mem.z
def Ek(n k:Nat):Va:=⟨1,(n:Int),jN k 0,jN k 1,jN k 2,jN k 3,false,Mem.z⟩
def uF(h1:1<=n)(h4:n<=4):Ek n n=(Ic n).cfg:=by
 match n,h1,h4 with
 |1,_,_=>rfl
 |2,_,_=>rfl
 |3,_,_=>rfl
 |4,_,_=>rfl
def GS(h1:1<=n)(h4:n<=4):Ct prog 51 [.int .i64 (n:Int)] [] (λr H'=>r=eX (some (Ic n))/\H'=[]):=by
 have hz:Va.enc (Ek n 0)=Va.enc ⟨1,(n:Int),Mem.z,Mem.z,Mem.z,Mem.z,false,Mem.z⟩:=rfl;refine ce func51 λg R=>?_;repeat' first|refine rn ?_|refine al λ_=>?_
 rename_i b2 b4;refine W.flat (H':=[Mc b4 (Ek n 0),Mc b2 Va.z,R]) rfl ?_;refine W.lo (α:=Nat) (λk=>k<=n) (λk=>[(2,b2),(3,.bool false),(4,b4),(15,.int .i64 (n:Int)),(16,.int .i64 (k:Int))]) (λk=>[Mc b4 (Ek n k),Mc b2 Va.z,R]) (λk=>n - k) 0 (Gi _) ?_;intro k hk;by_cases hlt:k<n
 .rcases(by omega:k=0\/k=1\/k=2\/k=3) with rfl|rfl|rfl|rfl
  .try refine run ?_
   refine D.flat (H':=[Mc b4 (Ek n (0+1)),Mc b2 Va.z,R]) rfl ?_;exact D.re (0+1)
  .try refine run ?_
   refine D.flat (H':=[Mc b4 (Ek n (1+1)),Mc b2 Va.z,R]) rfl ?_;exact D.re (1+1)
  .try refine run ?_
   refine D.flat (H':=[Mc b4 (Ek n (2+1)),Mc b2 Va.z,R]) rfl ?_;exact D.re (2+1)
  .try refine run ?_
   refine D.flat (H':=[Mc b4 (Ek n (3+1)),Mc b2 Va.z,R]) rfl ?_;exact D.re (3+1)
 .obtain rfl:k=n:=by omega
  rw[uF h1 h4];try refine run ?_
  exact D.yg [] _ rfl (.Ua rfl rfl (.tmp rfl .nil)) rfl ⟨rfl,rfl⟩
abbrev OH(nb:Nat)(k:Int):Hp:=[(nb,.cells (List.toArray [k]) 3 (0,0))]
def qG(ms:List Mem)(k:Int):Int:=match ms.findIdx? (λp=>decide (p.nd=k)) with|none=> -1|some i=>(i:Int)
def DR{ms:List Mem}{j:Nat}{p:Mem}(hp:ms[j]? =some p)(hpk:p.nd=k)(hall:∀i p,i<j->ms[i]? =some p-> ¬p.nd=k):qG ms k=(j:Int):=by
 have hf:ms.findIdx? (λp=>decide (p.nd=k))=some j:=by
  rw[List.findIdx?_eq_some_iff_getElem];obtain⟨h1,h2⟩:=List.getElem?_eq_some_iff.1 hp;refine⟨h1,by rw[h2];simpa using hpk,λi hi=>?_⟩;have:=hall i _ hi (oh (by omega));simpa using this
 unfold qG;rw[hf]
def ER{ms:List Mem}(hall:∀p∈ms,¬p.nd=k):qG ms k= -1:=by
 have hf:ms.findIdx? (λp=>decide (p.nd=k))=none:=by
  rw[List.findIdx?_eq_none_iff];intro x hx;simpa using hall x hx
 unfold qG;rw[hf]
def WQ{c:Ch}(ok:xg c):c.ms.length<=4:=by have:=ok.l4;omega
def FQ{c:Ch}(ok:xg c):
  Ct prog 104 [.agg (List.toArray c.cfg.enc)] [] (λr H'=>∃h',ia 3 (c.all.map (·.nd)) r h'/\H'=[h']):=by
 have hall:c.all.length<=4:=by have:=ok.l4;unfold Ch.all;rw[Cb];exact this
 refine ce func104 λg R=>?_;repeat' first|refine rn ?_|refine Ud λ_=>?_
 refine cq (ES ok) ?_;try refine run ?_
 rename_i b;refine ck (zy ok) ?_;rintro _ _ ⟨hm,M3,rfl⟩;have hrm:=M3.rs;obtain⟨vp,vc,rfl⟩:=hrm.len;refine rn ?_;refine W.Ke ?_;refine W.lo (α:=Nat×Value×Hp) (λx=>x.1<=c.all.length/\ia 3 ((c.all.take x.1).map (·.nd)) x.2.1 x.2.2) (λx=>[(1,b),(3,x.2.1),(10,.slice vp c.all.length vc),(11,.int .i64 (c.all.length:Nat)),(12,.int .i64 (x.1:Int))]) (λx=>[x.2.2,hm,Mc b c.cfg,R]) (λx=>c.all.length - x.1) (0,.slice none 0 0,[]) ⟨Gi _,ia.nil _⟩ ?_;rintro⟨k,v,h⟩ ⟨hk,hs⟩;simp only[] at hk hs⊢;have hvl:((c.all.take k).map (·.nd)).length<=4:=by rw[We,Fe];omega
 by_cases hlt:k<c.all.length
 .obtain⟨m,hmk⟩:=Sh hlt;repeat' first|refine run ?_|refine al λ_=>?_
  refine Kp [m.nd] (λv2 h2 Oa=>?_);refine Ys (zb:=by simp only[Gb,jd];omega) hs Oa.rs (λv3 h3 Fc=>?_);have Fc:ia 3 ((c.all.take (k+1)).map (·.nd)) v3 h3:=by rw[take_add_one,hmk,Ae];exact Fc
  try refine run ?_
  exact D.rd (k+1,v3,h3) ⟨by simp only[];omega,Fc⟩ (by simp only[];omega)
 .obtain rfl:k=c.all.length:=by omega
  rw[take_length] at hs;try refine run ?_
  exact Wa [h] rfl rfl ⟨h,hs,rfl⟩
def Ig(xs:List Int)(k:Int):Int:=match xs.findIdx? (λp=>decide (p=k)) with|none=> -1|some i=>(i:Int)
def pP{ms:List Int}{j:Nat}{p:Int}(hp:ms[j]? =some p)(hpk:p=k)(hall:∀i p,i<j->ms[i]? =some p-> ¬p=k):Ig ms k=(j:Int):=by
 have hf:ms.findIdx? (λp=>decide (p=k))=some j:=by
  rw[List.findIdx?_eq_some_iff_getElem];obtain⟨h1,h2⟩:=List.getElem?_eq_some_iff.1 hp;refine⟨h1,by rw[h2];simpa using hpk,λi hi=>?_⟩;have:=hall i _ hi (oh (by omega));simpa using this
 unfold Ig;rw[hf]
def qP{ms:List Int}(hall:∀p∈ms,¬p=k):Ig ms k= -1:=by
 have hf:ms.findIdx? (λp=>decide (p=k))=none:=by
  rw[List.findIdx?_eq_none_iff];intro x hx;simpa using hall x hx
 unfold Ig;rw[hf]
def Zs{ps:List Int}{v:Value}{h:Hp}(hs:Rs ps v h)(k:Int)(hl:ps.length<=1000000):
  Ct prog 106 [v,k] [h] (λr H'=>r= .int .i64 (Ig ps k)/\H'=[h]):=by
 refine cr func106 λg R=>?_;refine W.lo (α:=Nat) (λj=>j<=ps.length/\∀i p,i<j->ps[i]? =some p-> ¬p=k) (λj=>[(0,v),(1,k),(7,.int .i64 (ps.length:Int)),(8,.int .i64 (j:Int))]) (λ_=>[h,R]) (λj=>ps.length - j) 0 ⟨Gi _,λi p hi=>absurd hi (Nat.not_lt_zero _)⟩ ?_;rintro j ⟨hj,hall⟩;by_cases hlt:j<ps.length
 .obtain⟨p,hp⟩:=Sh hlt;by_cases hpk:k=p
  .try refine run ?_
   exact Wa [h] rfl rfl ⟨by rw[pP hp hpk.symm hall],rfl⟩
  .try refine run ?_
   refine D.rd (j+1) ⟨by omega,λi p' hi YH=>?_⟩ (by omega);rcases Nat.lt_or_ge i j with h|h
   .exact hall i p' h YH
   .obtain rfl:i=j:=by omega
    rw[hp] at YH;cases YH;exact λe=>hpk e.symm
 .have hno:∀p∈ps,¬p=k:=λx hx=>by
   obtain⟨i,hi⟩:=mem_iff_getElem?.1 hx;have hlt:=(List.getElem?_eq_some_iff.1 hi).1;exact hall i x (by omega) hi
  try refine run ?_
  exact Wa [h] rfl rfl ⟨by rw[qP hno],rfl⟩
def Yb(o:Option Ch):Va:=match o with
 |none=>Va.z
 |some c=>c.cfg
def Ii(o:Option Ch):Prop:=∀c,o=some c->xg c
def Ii.none:Ii none:=λc h=>by cases h
def Ii.some{c:Ch}(ok:xg c):Ii (some c):=λc' h=>by cases h;exact ok
def Eb(o:Option Ch):List Int:=match o with
 |none=>[]
 |some c=>c.all.map (·.nd)
def Fh{o:Option Ch}(ok:Ii o):(Eb o).length<=4:=by
 cases o with
 |none=>exact Gi _
 |some c=>
  have:=(ok c rfl).l4;show(c.all.map (·.nd)).length<=4;rw[We];unfold Ch.all;rw[Cb];exact this
def Hx: ¬Nd Va.z:=λh=>absurd h.1.1 (by decide)
def Wj{o:Option Ch}(ok:Ii o):
  Ct prog 104 [.agg (List.toArray (Yb o).enc)] [] (λr H'=>∃h',ia 3 (Eb o) r h'/\H'=[h']):=by
 cases o with
 |some c=>exact FQ (ok c rfl)
 |none=>
  have hr:=pq Va.z;rw[gj Hx] at hr;refine ce func104 λg R=>?_;repeat' first|refine rn ?_|refine Ud λ_=>?_|refine cq hr ?_
  refine D.Ke ?_;exact Wa [[]] rfl rfl ⟨[],ia.nil _,rfl⟩
def gx(xs:List Int)(i:Int):Int:=if i<0\/(xs.length:Int)<=i then -1 else xs.getD i.toNat 0
def zM{xs:List Int}{v:Value}{h:Hp}(hs:Rs xs v h)(i:Int):
  Ct prog 105 [v,i] [h] (λr H'=>r= .int .i64 (gx xs i)/\H'=[h]):=by
 refine ce func105 λg R=>?_;simp only[can];by_cases h0:i<0
 .have e:gx xs i= -1:=by unfold gx;rw[if_pos (.inl h0)]
  rw[e];try refine run ?_
  exact vj [h]
 .by_cases h1:(xs.length:Int)<=i
  .have e:gx xs i= -1:=by unfold gx;rw[if_pos (.inr h1)]
   rw[e];try refine run ?_
   exact vj [h]
  .obtain⟨x,hx⟩:∃x,xs[i.toNat]? =some x:=⟨_,oh (by omega)⟩;have e:gx xs i=x:=by unfold gx;rw[if_neg (by omega),getD_eq_getElem?_getD,hx,Option.getD_some]
   rw[e];try refine run ?_
   exact vj [h]
def X0{o:Option Ch}(ok:Ii o):0<=(Yb o).n/\(Yb o).n<=4:=by
 cases o with
 |none=>exact⟨by decide,by decide⟩
 |some c=>have:=(ok c rfl).l4;exact⟨Int.natCast_nonneg _,by show(c.ms.length:Int)<=4;omega⟩
def Rq(o:Option Ch):Int:=gx (Eb o) 0
def MU{o:Option Ch}(ok:Ii o):Ct prog 119 [.agg (List.toArray (Yb o).enc)] [] (λr H'=>r= .int .i64 (Rq o)/\H'=[]):=by
 refine ce func119 λg R=>?_;repeat' first|refine rn ?_|refine Ud λ_=>?_
 refine ck (Wj ok) ?_;rintro _ _ ⟨h1,hs1,rfl⟩;simp only[can];refine cq (zM hs1.rs 0) ?_;try refine run ?_
 exact vj []
def Mp(o:Option Ch):Int:=gx (Eb o) ((Yb o).n - 1)
def NU{o:Option Ch}(ok:Ii o):Ct prog 108 [.agg (List.toArray (Yb o).enc)] [] (λr H'=>r= .int .i64 (Mp o)/\H'=[]):=by
 have hn:=X0 ok;refine ce func108 λg R=>?_;repeat' first|refine rn ?_|refine Ud λ_=>?_
 rename_i cb;refine sK (ml [1,1,3,1]) [Mc cb (Yb o)] ?_;try refine run ?_
 refine ck (Wj ok) ?_;rintro _ _ ⟨h1,hs1,rfl⟩;refine rn ?_;refine cq (zM hs1.rs ((Yb o).n - 1)) ?_;try refine run ?_
 exact vj []
def Ed(o:Option Ch)(n:Int):Int:=gx (Eb o) (Ig (Eb o) n - 1)
def fk(xs:List Int)(k:Int): -1<=Ig xs k/\Ig xs k<=(xs.length:Int):=by
 unfold Ig
 cases h:xs.findIdx? (λp=>decide (p=k)) with
 |none=>simp only[];omega
 |some i=>have:=(List.findIdx?_eq_some_iff_getElem.1 h).1;simp only[];omega
def xy{o:Option Ch}(ok:Ii o)(n:Int):Ct prog 28 [.agg (List.toArray (Yb o).enc),n] [] (λr H'=>r= .int .i64 (Ed o n)/\H'=[]):=by
 have hl:=Fh ok;have hi:=fk (Eb o) n;refine ce func28 λg R=>?_;repeat' first|refine rn ?_|refine Ud λ_=>?_
 refine ck (Wj ok) ?_;rintro _ _ ⟨h1,hs1,rfl⟩;refine rn ?_;refine cq (Zs hs1.rs n (by omega)) ?_;try refine run ?_
 refine cq (zM hs1.rs (Ig (Eb o) n - 1)) ?_;try refine run ?_
 exact vj []
def Wc(o:Option Ch)(n:Int):Int:=if Ig (Eb o) n<0 then -1 else gx (Eb o) (Ig (Eb o) n+1)
def Nu{o:Option Ch}(ok:Ii o)(n:Int):Ct prog 148 [.agg (List.toArray (Yb o).enc),n] [] (λr H'=>r= .int .i64 (Wc o n)/\H'=[]):=by
 have hl:=Fh ok;have hi:=fk (Eb o) n;refine ce func148 λg R=>?_;repeat' first|refine rn ?_|refine Ud λ_=>?_
 refine ck (Wj ok) ?_;rintro _ _ ⟨h1,hs1,rfl⟩;refine rn ?_;refine cq (Zs hs1.rs n (by omega)) ?_;by_cases h0:Ig (Eb o) n<0
 .have e:Wc o n= -1:=if_pos h0;rw[e];try refine run ?_
  exact vj []
 .have e:Wc o n=gx (Eb o) (Ig (Eb o) n+1):=if_neg h0;rw[e];try refine run ?_
  refine cq (zM hs1.rs (Ig (Eb o) n+1)) ?_;try refine run ?_
  exact vj []
def xm(o:Option Ch)(n:Int):Bool:=decide (0<=Ig (Eb o) n/\Ig (Eb o) n<(Yb o).n)
def UH{o:Option Ch}(ok:Ii o)(n:Int):Ct prog 107 [.agg (List.toArray (Yb o).enc),n] [] (λr H'=>r= .bool (xm o n)/\H'=[]):=by
 have hl:=Fh ok;have hi:=fk (Eb o) n;unfold xm;refine ce func107 λg R=>?_;repeat' first|refine rn ?_|refine Ud λ_=>?_
 refine ck (Wj ok) ?_;rintro _ _ ⟨h1,hs1,rfl⟩;refine rn ?_;refine cq (Zs hs1.rs n (by omega)) ?_;by_cases h0:0<=Ig (Eb o) n
 .by_cases h2:Ig (Eb o) n<(Yb o).n
  .try refine run ?_
   exact Wa [] rfl rfl ⟨by simp[h0,h2],rfl⟩
  .try refine run ?_
   exact Wa [] rfl rfl ⟨by simp[h0,h2],rfl⟩
 .try refine run ?_
  exact Wa [] rfl rfl ⟨by simp[h0],rfl⟩
def Zb(o:Option Ch)(k:Int):Int:=match o with
 |none=>0
 |some c=>match c.all.findIdx? (λp=>decide (p.nd=k)) with
  |none=>0
  |some j=>(c.all.getD j Mem.z).sn
def yy{ms:List Mem}{k:Int}:Ig (ms.map (·.nd)) k=qG ms k:=by unfold Ig qG;rw[List.findIdx?_map];rfl
def Ou{o:Option Ch}(ok:Ii o)(k:Int):
  Ct prog 84 [.agg (List.toArray (Yb o).enc),k] [] (λr H'=>r= .int .i64 (Zb o k)/\H'=[]):=by
 have hl:=Fh ok;refine ce func84 λg R=>?_;repeat' first|refine rn ?_|refine Ud λ_=>?_
 refine ck (Wj ok) ?_;rintro _ _ ⟨h1,hs1,rfl⟩;refine rn ?_;refine cq (Zs hs1.rs k (by omega)) ?_
 cases o with
 |none=>
  have e:Ig (Eb none) k= -1:=rfl;rw[e];try refine run ?_
  exact vj []
 |some c=>
  have ob:=ok c rfl;rw[show Ig (Eb (some c)) k=qG c.all k from yy]
  cases hf:c.all.findIdx? (λp=>decide (p.nd=k)) with
  |none=>
   have e:qG c.all k= -1:=by unfold qG;rw[hf]
   have e2:Zb (some c) k=0:=by unfold Zb;simp only[];rw[hf]
   rw[e,e2];try refine run ?_
   exact vj []
  |some j=>
   have e:qG c.all k=(j:Int):=by unfold qG;rw[hf]
   obtain⟨hj,_⟩:=List.findIdx?_eq_some_iff_getElem.1 hf;obtain⟨m,hm⟩:=Sh hj;have e2:Zb (some c) k=m.sn:=by unfold Zb;simp only[];rw[hf];simp only[getD_eq_getElem?_getD,hm,Option.getD_some]
   rw[e,e2];try refine run ?_
   refine ck (zy ob) ?_;rintro _ _ ⟨h2,Oa,rfl⟩;have nQ:=Oa.rs;refine rn ?_;exact vj []
variable{k:Nat}
def mx(i j:Int):Int:=if j>i then j else i
def xw(i j:Int):i<=mx i j/\j<=mx i j:=by unfold mx;split<;>omega
def V9.BM(f:Nat->Int):V9:=⟨f 0,f 1,f 2,f 3,f 4,f 5,f 6,f 7,f 8⟩
def V9.at(v:V9)(k:Nat):Int:=[v.a,v.b,v.c,v.d,v.e,v.f,v.g,v.h,v.i].getD k 0
def Y0(f:Nat->Int)(k:Nat)(x:Int):Nat->Int:=λi=>if i=k then x else f i
def V9.Vd(v:V9)(h:k<9):v.enc[k]? =some (.int .i64 (v.at k)):=by
 rcases(by omega:k=0\/k=1\/k=2\/k=3\/k=4\/k=5\/k=6\/k=7\/k=8) with rfl|rfl|rfl|rfl|rfl|rfl|rfl|rfl|rfl<;>rfl
def V9.Pu(f:Nat->Int)(h:k<9):(V9.BM f).at k=f k:=by
 rcases(by omega:k=0\/k=1\/k=2\/k=3\/k=4\/k=5\/k=6\/k=7\/k=8) with rfl|rfl|rfl|rfl|rfl|rfl|rfl|rfl|rfl<;>rfl
theorem V9.DK(v:V9):V9.BM v.at=v:=rfl
def V9.OU(f:Nat->Int)(h:k<9)(x:Int):(V9.BM f).enc.set k (x)=(V9.BM (Y0 f k x)).enc:=by
 rcases(by omega:k=0\/k=1\/k=2\/k=3\/k=4\/k=5\/k=6\/k=7\/k=8) with rfl|rfl|rfl|rfl|rfl|rfl|rfl|rfl|rfl<;>rfl
def V9.Ym{f g:Nat->Int}(h:∀i,i<9->f i=g i):V9.BM f=V9.BM g:=by
 unfold V9.BM;rw[h 0 (by decide),h 1 (by decide),h 2 (by decide),h 3 (by decide),h 4 (by decide),h 5 (by decide),h 6 (by decide),h 7 (by decide),h 8 (by decide)]
def V9.put(v:V9)(k:Nat)(x:Int):V9:=V9.BM (Y0 v.at k x)
def V9.jj(v:V9)(h:k<9)(x:Int):v.enc.set k (x)=(v.put k x).enc:=V9.OU v.at h x
def Af(a b:V9)(k:Nat):V9:=V9.BM λi=>if i<k then mx (a.at i) (b.at i) else a.at i
def Qu(a b:V9):V9:=Af a b 9
def GQ(a b:V9):Af a b 0=a:=by unfold Af;exact(V9.Ym λi _=>if_neg (Nat.not_lt_zero _)).trans a.DK
def YN(a b:V9)(h:k<9):(Af a b k).at k=a.at k:=by unfold Af;rw[V9.Pu _ h];exact if_neg (Nat.lt_irrefl _)
def EK(a b:V9)(h:k<9):(Af a b k).put k (mx (a.at k) (b.at k))=Af a b (k+1):=by
 unfold V9.put;show V9.BM _=V9.BM _;refine V9.Ym λi hi=>?_;unfold Y0 Af;by_cases e:i=k
 .subst e;rw[if_pos rfl,if_pos (by omega)]
 .rw[if_neg e,V9.Pu _ hi];by_cases h2:i<k
  .rw[if_pos h2,if_pos (by omega)]
  .rw[if_neg h2,if_neg (by omega)]
structure V3 where
 (a b c:Int)
 deriving DecidableEq
def V3.enc(v:V3):List Value:=[v.a,v.b,v.c]
def V3.z:V3:=⟨0,0,0⟩
def V3.at(v:V3)(k:Nat):Int:=[v.a,v.b,v.c].getD k 0
def V3.put(v:V3)(k:Nat)(x:Int):V3:=match k with
 |0=>⟨x,v.b,v.c⟩
 |1=>⟨v.a,x,v.c⟩
 |2=>⟨v.a,v.b,x⟩
 |_=>v
def V3.Vd(v:V3)(h:k<3):v.enc[k]? =some (.int .i64 (v.at k)):=by
 rcases(by omega:k=0\/k=1\/k=2) with rfl|rfl|rfl<;>rfl
def V3.jj(v:V3)(h:k<3)(x:Int):v.enc.set k (x)=(v.put k x).enc:=by
 rcases(by omega:k=0\/k=1\/k=2) with rfl|rfl|rfl<;>rfl
abbrev Qb(dc rg:Int):Prop:=0<=dc/\dc<3/\0<=rg/\rg<3
def Ze(rg:Int)(c:V3)(e:ya):V3:=if e.rg=rg/\Qb e.dc rg then c.put e.dc.toNat (mx (c.at e.dc.toNat) e.sq) else c
def ic(rg:Int)(es:List ya):V3:=es.foldl (Ze rg) V3.z
def Ru(rg:Int)(es:List ya)(e:ya):ic rg (es++[e])=Ze rg (ic rg es) e:=by unfold ic;rw[foldl_append];rfl
def ug(v:V9)(rg:Int):V3:=if 0<=rg/\rg<3 then⟨v.at rg.toNat,v.at (3+rg.toNat),v.at (6+rg.toNat)⟩ else V3.z
abbrev jt(a b:V3):Prop:=b.a<=a.a/\b.b<=a.b/\b.c<=a.c
def zg(v:V9)(dc rg sq:Int):V9:=if Qb dc rg then v.put (dc.toNat*3+rg.toNat) (mx (v.at (dc.toNat*3+rg.toNat)) sq) else v
def gh(vs:List V9):V9:=vs.foldl Qu V9.z
def Sq(es:List ya):V9:=es.foldl (λo e=>gh [o,e.dp]) V9.z
def qt(es:List ya):V9:=es.foldl (λo e=>zg o e.dc e.rg e.sq) (Sq es)
abbrev MC:Int:=1099511627776
abbrev Ri(v:V9):Prop:=∀i,i<9->0<=v.at i/\v.at i<=MC
abbrev Xh(ct dc rg:Int):Prop:=1<=ct/\ct<=MC/\0<=dc/\dc<3/\0<=rg/\rg<3
structure Xc(e:ya):Prop where
 ch:Qb e.dc e.rg
 sq:1<=e.sq/\e.sq<=MC
 st:Xh e.ct e.sd e.sr
 sd:e.sd=e.dc
 sr:e.sr=e.rg
 key:1<=e.key.size/\e.key.size<=16
 val:e.val.size<=32
 dead:e.dead=true->e.val=ByteArray.empty
 dp:Ri e.dp
 own:e.dp.at (e.dc.toNat*3+e.rg.toNat)=e.sq - 1
 cl:0<=e.cl/\e.cl<4
 op:1<=e.op/\e.op<=MC
instance(v:V9):Decidable (Ri v):=Nat.decidableBallLT 9 λi _=>0<=v.at i/\v.at i<=MC
instance(e:ya):Decidable (Xc e):=decidable_of_iff (Qb e.dc e.rg/\(1<=e.sq/\e.sq<=MC)/\Xh e.ct e.sd e.sr/\e.sd=e.dc/\e.sr=e.rg/\(1<=e.key.size/\e.key.size<=16)/\e.val.size<=32/\
  (e.dead=true->e.val=ByteArray.empty)/\Ri e.dp/\e.dp.at (e.dc.toNat*3+e.rg.toNat)=e.sq - 1/\(0<=e.cl/\e.cl<4)/\(1<=e.op/\e.op<=MC))
 ⟨λ⟨a,b,c,d,e,f,g,h,i,j,k,l⟩=>⟨a,b,c,d,e,f,g,h,i,j,k,l⟩,λ⟨a,b,c,d,e,f,g,h,i,j,k,l⟩=>⟨a,b,c,d,e,f,g,h,i,j,k,l⟩⟩
def He(xs:List Int):Int:=xs.foldl mx 0
def Nf(xs:List Int):Int:=(if MC<He xs then MC else He xs)+1
def FK{vs:List Value}:∀{Uc:List It} {C:Cd},(∀it∈Uc,∃u e,vs[it.o]? =some u/\encI it u=some e/\Gj it u=false)->
  (Uc.foldl (Sd vs) C).arg=C.arg/\(Uc.foldl (Sd vs) C).Ad=C.Ad:=by
 intro Uc
 induction Uc with
 |nil=>intro C _;exact⟨rfl,rfl⟩
 |cons it r ih=>
  intro C h;obtain⟨u,e,h1,h2,h3⟩:=h it (zf ..);obtain⟨h4,h5⟩:=ih (C:=Sd vs C it) (λx hx=>h x (Rn _ hx));rw[foldl_cons,h4,h5];unfold Sd;rw[h1];simp[h2,h3]
def qc{o:Nat}{x:Int}(h1:0<=x)(h2:x<=MC):encI (.num o) (x)=some (Gd x.toNat):=by
 rw[qh,if_neg (by simp only[MC] at h2;omega)]
def ZE{r:Rec}(hk:r.known=true)(hb:r.bare=r)(key:∀it∈Rec.Uc r.k,∃u e,r.enc[it.o]? =some u/\encI it u=some e/\Gj it u=false):r.code=0:=by
 obtain⟨h1,h2⟩:=FK (C:={}) key;have h3:r.w.arg=((((Rec.Uc r.k).foldl (Sd r.enc) {}).arg|| !r.known)|| !decide (r.bare=r)):=rfl;have h4:r.w.Ad=((Rec.Uc r.k).foldl (Sd r.enc) {}).Ad:=rfl;rw[h1,hk,hb,Fi rfl] at h3;rw[h2] at h4;unfold Rec.code Yh;rw[if_neg (by rw[h3];decide),if_neg (by rw[h4];decide)]
def Im(e:ya):Rec:=⟨1,e,Va.z,0⟩
def de(c:Va)(b:Int):Rec:=⟨2,ya.z,c,b⟩
def aF{e:ya}(h:Xc e):(Im e).code=0:=by
 refine ZE rfl rfl λit hit=>?_;rw[show Rec.Uc (Im e).k=[.num 0,.num 1,.num 2,.num 3,.num 4,.num 5,.num 6,.xj 7 16,.xj 8 32,.Sn 9,.num 10,.num 11,.num 12,.num 13,.num 14,.num 15,.num 16,.num 17,.num 18,.num 19,.num 20] from rfl] at hit;simp only[mem_cons,not_mem_nil,or_false] at hit;rcases hit with rfl|rfl|rfl|rfl|rfl|rfl|rfl|rfl|rfl|rfl|rfl|rfl|rfl|rfl|rfl|rfl|rfl|rfl|rfl|rfl|rfl
 .exact⟨_,_,rfl,qc (x:=1) (by decide) (by decide),rfl⟩
 .exact⟨_,_,rfl,qc (x:=e.dc) (h.ch.1) (by have:=h.ch.2.1;simp only[MC];omega),rfl⟩
 .exact⟨_,_,rfl,qc (x:=e.rg) (h.ch.2.2.1) (by have:=h.ch.2.2.2;simp only[MC];omega),rfl⟩
 .exact⟨_,_,rfl,qc (x:=e.sq) (by have:=h.sq.1;omega) (h.sq.2),rfl⟩
 .exact⟨_,_,rfl,qc (x:=e.ct) (by have:=h.st.1;omega) (h.st.2.1),rfl⟩
 .exact⟨_,_,rfl,qc (x:=e.sd) (h.st.2.2.1) (by have:=h.st.2.2.2.1;simp only[MC];omega),rfl⟩
 .exact⟨_,_,rfl,qc (x:=e.sr) (h.st.2.2.2.2.1) (by have:=h.st.2.2.2.2.2;simp only[MC];omega),rfl⟩
 .exact⟨_,_,rfl,rfl,by show decide (16<e.key.data.toList.length)=false;rw[show e.key.data.toList.length=e.key.size from Array.length_toList];exact gj (by have:=h.key.2;omega)⟩
 .exact⟨_,_,rfl,rfl,by show decide (32<e.val.data.toList.length)=false;rw[show e.val.data.toList.length=e.val.size from Array.length_toList];exact gj (by have:=h.val;omega)⟩
 .exact⟨_,_,rfl,rfl,rfl⟩
 .exact⟨_,_,rfl,qc (x:=e.dp.at 0) ((h.dp 0 (by decide)).1) ((h.dp 0 (by decide)).2),rfl⟩
 .exact⟨_,_,rfl,qc (x:=e.dp.at 1) ((h.dp 1 (by decide)).1) ((h.dp 1 (by decide)).2),rfl⟩
 .exact⟨_,_,rfl,qc (x:=e.dp.at 2) ((h.dp 2 (by decide)).1) ((h.dp 2 (by decide)).2),rfl⟩
 .exact⟨_,_,rfl,qc (x:=e.dp.at 3) ((h.dp 3 (by decide)).1) ((h.dp 3 (by decide)).2),rfl⟩
 .exact⟨_,_,rfl,qc (x:=e.dp.at 4) ((h.dp 4 (by decide)).1) ((h.dp 4 (by decide)).2),rfl⟩
 .exact⟨_,_,rfl,qc (x:=e.dp.at 5) ((h.dp 5 (by decide)).1) ((h.dp 5 (by decide)).2),rfl⟩
 .exact⟨_,_,rfl,qc (x:=e.dp.at 6) ((h.dp 6 (by decide)).1) ((h.dp 6 (by decide)).2),rfl⟩
 .exact⟨_,_,rfl,qc (x:=e.dp.at 7) ((h.dp 7 (by decide)).1) ((h.dp 7 (by decide)).2),rfl⟩
 .exact⟨_,_,rfl,qc (x:=e.dp.at 8) ((h.dp 8 (by decide)).1) ((h.dp 8 (by decide)).2),rfl⟩
 .exact⟨_,_,rfl,qc (x:=e.cl) (h.cl.1) (by have:=h.cl.2;simp only[MC];omega),rfl⟩
 .exact⟨_,_,rfl,qc (x:=e.op) (by have:=h.op.1;omega) (h.op.2),rfl⟩
def ZN{c:Ch}(ok:xg c){b:Int}(b0:0<=b)(b1:b<=MC):(de c.cfg b).code=0:=by
 have e1:=ok.e1;have e2:=ok.e2;have h4:=ok.l4
 have hz:∀k,(0<=(c.ms.getD k Mem.z).nd/\(c.ms.getD k Mem.z).nd<=MC)/\0<=(c.ms.getD k Mem.z).sn/\(c.ms.getD k Mem.z).sn<=MC:=λk=>by
  rw[getD_eq_getElem?_getD]
  cases h:c.ms[k]? with
  |none=>exact⟨⟨by decide,by decide⟩,by decide,by decide⟩
  |some m=>
   have:=ok.rg m (mem_append_left _ (mem_of_getElem? h));simp only[MC,Option.getD_some];omega
 have hl:(0<=(c.ln.getD Mem.z).nd/\(c.ln.getD Mem.z).nd<=MC)/\0<=(c.ln.getD Mem.z).sn/\(c.ln.getD Mem.z).sn<=MC:=by
  cases h:c.ln with
  |none=>exact⟨⟨by decide,by decide⟩,by decide,by decide⟩
  |some m=>
   have:=ok.rg m (mem_append_right _ (by rw[h];simp));simp only[MC,Option.getD_some];omega
 refine ZE rfl rfl λit hit=>?_;rw[show Rec.Uc (de c.cfg b).k=[.num 0,.num 21,.num 22,.num 23,.num 24,.num 25,.num 26,.num 27,.num 28,.num 29,.num 30,.Sn 31,.num 32,.num 33,.num 34] from rfl] at hit;simp only[mem_cons,not_mem_nil,or_false] at hit;rcases hit with rfl|rfl|rfl|rfl|rfl|rfl|rfl|rfl|rfl|rfl|rfl|rfl|rfl|rfl|rfl
 .exact⟨_,_,rfl,qc (x:=2) (by decide) (by decide),rfl⟩
 .exact⟨_,_,rfl,qc (x:=c.ep) (by omega) (by simp only[MC];omega),rfl⟩
 .exact⟨_,_,rfl,qc (x:=(c.ms.length:Int)) (by omega) (by simp only[MC];omega),rfl⟩
 .exact⟨_,_,rfl,qc (hz 0).1.1 (hz 0).1.2,rfl⟩
 .exact⟨_,_,rfl,qc (hz 0).2.1 (hz 0).2.2,rfl⟩
 .exact⟨_,_,rfl,qc (hz 1).1.1 (hz 1).1.2,rfl⟩
 .exact⟨_,_,rfl,qc (hz 1).2.1 (hz 1).2.2,rfl⟩
 .exact⟨_,_,rfl,qc (hz 2).1.1 (hz 2).1.2,rfl⟩
 .exact⟨_,_,rfl,qc (hz 2).2.1 (hz 2).2.2,rfl⟩
 .exact⟨_,_,rfl,qc (hz 3).1.1 (hz 3).1.2,rfl⟩
 .exact⟨_,_,rfl,qc (hz 3).2.1 (hz 3).2.2,rfl⟩
 .exact⟨_,_,rfl,rfl,rfl⟩
 .exact⟨_,_,rfl,qc hl.1.1 hl.1.2,rfl⟩
 .exact⟨_,_,rfl,qc hl.2.1 hl.2.2,rfl⟩
 .exact⟨_,_,rfl,qc b0 b1,rfl⟩
structure CS where
 (dc rg nd:Int)
 co:Option Ch
 (sn bs:Int)
 lg:List ya
 (du st ak ow:Int)
 su:Bool
def CS.new(dc rg nd:Int):CS:=⟨dc,rg,nd,none,0,0,[],0,0,0,0,false⟩
def CS.len(s:CS):Int:=(s.lg.length:Int)
structure Lb(s:CS):Prop where
 co:Ii s.co
 bs:0<=s.bs/\s.bs<=s.du
 du:0<=s.du/\s.du<=s.len
 len:s.lg.length<=256
 es:∀e∈s.lg,Xc e
def Lb.new(dc rg nd:Int):Lb (CS.new dc rg nd):=⟨Ii.none,⟨Int.le_refl 0,Int.le_refl 0⟩,⟨Int.le_refl 0,Int.le_refl 0⟩,Gi _,λe h=>by cases h⟩
abbrev CS.last(s:CS):Prop:=0<=s.nd/\Mp s.co=s.nd
abbrev CS.head(s:CS):Prop:=0<=s.nd/\Rq s.co=s.nd
def CS.settle(s:CS):CS:=
 if s.last then(if(Yb s.co).jo=false then{s with su:=true,st:=s.du} else if s.su=true then{s with st:=mx s.st s.bs} else s) else s
def Ja(s:CS):s.settle.dc=s.dc/\s.settle.rg=s.rg/\s.settle.nd=s.nd/\s.settle.co=s.co/\s.settle.sn=s.sn/\s.settle.bs=s.bs/\s.settle.lg=s.lg/\s.settle.du=s.du/\s.settle.ak=s.ak/\s.settle.ow=s.ow:=by
 unfold CS.settle;split
 .split
  .simp
  .split<;>simp
 .simp
def Lb.settle{s:CS}(ok:Lb s):Lb s.settle:=by
 obtain⟨-,-,-,h4,-,h6,h7,h8,-,-⟩:=Ja s;have hl:s.settle.len=s.len:=by unfold CS.len;rw[h7]
 exact⟨by rw[h4];exact ok.co,by rw[h6,h8];exact ok.bs,by rw[h8,hl];exact ok.du,by rw[h7];exact ok.len,by rw[h7];exact ok.es⟩
def CS.Qc(s:CS)(x:Va):CS:=
 if Zb (some (bf x)) s.nd≠0/\Zb (some (bf x)) s.nd≠s.sn then⟨s.dc,s.rg,s.nd,some (bf x),Zb (some (bf x)) s.nd,0,[],0,0,0,0,true⟩
 else⟨s.dc,s.rg,s.nd,some (bf x),s.sn,s.len,s.lg,s.len,s.st,0,0,true⟩
def CS.Zh(s:CS)(x:Va):Bool:=decide (Zb (some (bf x)) s.nd≠0/\Zb (some (bf x)) s.nd≠s.sn)
def CS.enter(s:CS)(x:Va):(Bool×Int)×CS:=
 if ¬Nd x then((false,1),s) else if x.ep<=(Yb s.co).ep then((false,80),s) else((s.Zh x,0),(s.Qc x).settle)
def Lb.Qc{s:CS}(ok:Lb s){x:Va}(h:Nd x):Lb (s.Qc x):=by
 unfold CS.Qc;split
 .exact⟨Ii.some h.2.2,⟨Int.le_refl 0,Int.le_refl 0⟩,⟨Int.le_refl 0,Int.le_refl 0⟩,Gi _,λe h=>by cases h⟩
 .exact⟨Ii.some h.2.2,⟨Int.natCast_nonneg _,Int.le_refl _⟩,⟨Int.natCast_nonneg _,Int.le_refl _⟩,ok.len,ok.es⟩
def Lb.enter{s:CS}(ok:Lb s)(x:Va):Lb (s.enter x).2:=by
 unfold CS.enter;split
 .exact ok
 .rename_i h;split
  .exact ok
  .exact(ok.Qc (Classical.not_not.1 h)).settle
def Pe(es:List ya)(cl op:Int):Int:=match es.findIdx? (λe=>decide (e.cl=cl/\e.op=op)) with
 |none=>0
 |some i=>(i:Int)+1
def CS.push(s:CS)(e:ya):CS:={s with lg:=s.lg++[e]}
def Lb.push{s:CS}(ok:Lb s)(hl:s.lg.length<256){e:ya}(he:Xc e):Lb (s.push e):=by
 have h:(s.push e).len=s.len+1:=by unfold CS.push CS.len;simp
 refine⟨ok.co,ok.bs,⟨ok.du.1,by have:=ok.du.2;rw[h];show s.du<=_;omega⟩,by unfold CS.push;simp;omega,λx hx=>?_⟩;rcases mem_append.1 hx with hx|hx
 .exact ok.es x hx
 .rw[mem_singleton.1 hx];exact he
def CS.entry(s:CS)(key val:ByteArray)(dead:Bool)(deps:V9)(clock cl op:Int):ya:=
 ⟨s.dc,s.rg,(ic s.rg s.lg).at s.dc.toNat+1,Nf (clock::s.lg.map (·.ct)),s.dc,s.rg,key,val,dead,gh [deps,qt s.lg],cl,op⟩
abbrev CS.Tn(s:CS)(deps:V9):Prop:=jt (ic s.rg s.lg) (ug deps s.rg)
abbrev CS.ur(s:CS)(clock:Int):Prop:=Xh (Nf (clock::s.lg.map (·.ct))) s.dc s.rg
def CS.Xf(s:CS)(key val:ByteArray)(dead:Bool)(deps:V9)(clock cl op:Int):(Int×Int)×CS:=
 if ¬s.head then((0,90),s)
 else if 0<Pe s.lg cl op then((Pe s.lg cl op,0),s)
 else if ¬s.Tn deps then((0,91),s)
 else if 256<=s.len\/ ¬s.ur clock then((0,2),s)
 else if ¬Xc (s.entry key val dead deps clock cl op) then((0,1),s)
 else((s.len+1,0),(s.push (s.entry key val dead deps clock cl op)).settle)
def CS.Xb(s:CS)(e:ya):Int×CS:=
 if ¬s.head then(90,s)
 else if ¬Xc e\/e.rg≠s.rg\/e.dc=s.dc then(1,s)
 else if e.sq<=(ic s.rg s.lg).at e.dc.toNat then(80,s)
 else if e.sq>(ic s.rg s.lg).at e.dc.toNat+1 then(91,s)
 else if ¬s.Tn e.dp then(91,s)
 else if 256<=s.len then(2,s)
 else(0,(s.push e).settle)
abbrev CS.takes(s:CS)(from_ ep ix:Int)(e:ya):Prop:=ep=(Yb s.co).ep/\0<=from_/\from_=Ed s.co s.nd/\ix=s.len+1/\Xc e/\s.len<256
def CS.take(s:CS)(from_ ep ix:Int)(e:ya):Bool×CS:=
 if s.takes from_ ep ix e then(true,(s.push e).settle) else(false,s)
def CS.sync(s:CS):CS:=({s with du:=s.len}:CS).settle
def mn(i j:Int):Int:=if j<i then j else i
def CS.Mb(s:CS)(from_ d t:Int):CS:=
 if xm s.co from_=true then{s with ak:=mx s.ak d,st:=mx s.st t}
 else if s.su=true\/s.ow<=d then{s with ak:=mx s.ak d,su:=true,st:=mx (mx s.st s.bs) d}
 else{s with ak:=mx s.ak d}
def CS.heard(s:CS)(from_ ep du st:Int):Bool×CS:=
 if ep=(Yb s.co).ep/\0<=from_/\from_=Wc s.co s.nd then(true,(s.Mb from_ (mn du s.du) (mn st s.du)).settle) else(false,s)
def CS.eg(dc rg nd:Int)(x:Va)(sn bs:Int)(es:List ya):CS:=
 ⟨dc,rg,nd,if Nd x then some (bf x) else none,sn,mx 0 (mn bs (es.length:Int)),es,(es.length:Int),0,0,(es.length:Int),false⟩
def CS.restore(dc rg nd:Int)(x:Va)(sn bs:Int)(es:List ya):CS:=(CS.eg dc rg nd x sn bs es).settle
def Lb.restore{dc rg nd:Int}{x:Va}{sn bs:Int}{es:List ya}(hl:es.length<=256)(he:∀e∈es,Xc e):Lb (CS.restore dc rg nd x sn bs es):=by
 refine Lb.settle ⟨λc hc=>?_,?_,⟨Int.natCast_nonneg _,Int.le_refl _⟩,hl,he⟩
 .unfold CS.eg at hc;simp only[] at hc;split at hc
  .rename_i h;cases hc;exact h.2.2
  .cases hc
 .show 0<=mx 0 (mn bs (es.length:Int))/\mx 0 (mn bs (es.length:Int))<=(es.length:Int);unfold mx mn;split<;>split<;>omega
def Lb.put{s:CS}(ok:Lb s)(key val:ByteArray)(dead:Bool)(deps:V9)(clock cl op:Int):Lb (s.Xf key val dead deps clock cl op).2:=by
 unfold CS.Xf;repeat' split
 all_goals first|exact ok|skip
 rename_i h1 h2;exact(ok.push (by simp only[not_or,CS.len] at h1;omega) (Classical.not_not.1 h2)).settle
def Lb.Xb{s:CS}(ok:Lb s)(e:ya):Lb (s.Xb e).2:=by
 unfold CS.Xb;repeat' split
 all_goals first|exact ok|skip
 rename_i h1 _ _ _ h2;simp only[not_or,Classical.not_not] at h1;exact(ok.push (by simp only[CS.len] at h2;omega) h1.1).settle
def Lb.take{s:CS}(ok:Lb s)(f ep ix:Int)(e:ya):Lb (s.take f ep ix e).2:=by
 unfold CS.take;split
 .rename_i h;exact(ok.push (by have:=h.2.2.2.2.2;simp only[CS.len] at this;omega) h.2.2.2.2.1).settle
 .exact ok
def Re(s:CS)(f d t:Int):(s.Mb f d t).dc=s.dc/\(s.Mb f d t).rg=s.rg/\(s.Mb f d t).nd=s.nd/\(s.Mb f d t).co=s.co/\(s.Mb f d t).sn=s.sn/\(s.Mb f d t).bs=s.bs/\(s.Mb f d t).lg=s.lg/\(s.Mb f d t).du=s.du/\(s.Mb f d t).ow=s.ow:=by
 unfold CS.Mb;repeat' split
 all_goals simp
def Lb.heard{s:CS}(ok:Lb s)(f ep du st:Int):Lb (s.heard f ep du st).2:=by
 unfold CS.heard;split
 .obtain⟨-,-,-,h4,-,h6,h7,h8,-⟩:=Re s f (mn du s.du) (mn st s.du);have hl:(s.Mb f (mn du s.du) (mn st s.du)).len=s.len:=by unfold CS.len;rw[h7]
  exact Lb.settle ⟨by rw[h4];exact ok.co,by rw[h6,h8];exact ok.bs,by rw[h8,hl];exact ok.du,by rw[h7];exact ok.len,by rw[h7];exact ok.es⟩
 .exact ok
instance:Nb V9:=⟨9,V9.enc,λ_=>rfl,λ_=>rfl,by decide⟩
instance:Nb ya:=⟨20,ya.enc,λ_=>rfl,λ_=>rfl,by decide⟩
abbrev Na(b:Nat)(v:V9):Hp:=[(b,.cells (List.toArray v.enc) 47 (0,0))]
abbrev Ac(b:Nat)(v:V3):Hp:=[(b,.cells (List.toArray v.enc) 50 (0,0))]
abbrev Fb(b:Nat)(e:ya):Hp:=[(b,.cells (List.toArray e.enc) 49 (0,0))]
def Xj(dc rg:Int):Ct prog 117 [dc,rg] [] (λr H'=>r= .bool (decide (Qb dc rg))/\H'=[]):=by
 refine ce func117 λg R=>?_;simp only[can];by_cases h0:0<=dc
 .by_cases h1:dc<3
  .by_cases h2:0<=rg
   .try refine run ?_
    exact Wa [] rfl rfl ⟨by simp[h0,h1,h2],rfl⟩
   .try refine run ?_
    exact Wa [] rfl rfl ⟨by simp[h0,h1,h2],rfl⟩
  .try refine run ?_
   exact Wa [] rfl rfl ⟨by simp[h0,h1],rfl⟩
 .try refine run ?_
  exact Wa [] rfl rfl ⟨by simp[h0],rfl⟩
def bF(ct dc rg:Int):Ct prog 228 [.agg (List.toArray [ct,dc,rg])] [] (λr H'=>r= .bool (decide (Xh ct dc rg))/\H'=[]):=by
 refine ce func228 λg R=>?_;simp only[can];by_cases h0:1<=ct
 .by_cases h1:ct<=1099511627776
  .by_cases h2:0<=dc
   .by_cases h3:dc<3
    .by_cases h4:0<=rg
     .repeat' first|refine run ?_|refine Ud λ_=>?_
      exact Wa [] rfl rfl ⟨by simp[h0,h1,h2,h3,h4],rfl⟩
     .repeat' first|refine run ?_|refine Ud λ_=>?_
      exact Wa [] rfl rfl ⟨by simp[h0,h1,h2,h3,h4],rfl⟩
    .repeat' first|refine run ?_|refine Ud λ_=>?_
     exact Wa [] rfl rfl ⟨by simp[h0,h1,h2,h3],rfl⟩
   .repeat' first|refine run ?_|refine Ud λ_=>?_
    exact Wa [] rfl rfl ⟨by simp[h0,h1,h2],rfl⟩
  .repeat' first|refine run ?_|refine Ud λ_=>?_
   exact Wa [] rfl rfl ⟨by simp[h0,h1],rfl⟩
 .repeat' first|refine run ?_|refine Ud λ_=>?_
  exact Wa [] rfl rfl ⟨by simp[h0],rfl⟩
def V9.row(v:V9)(d:Nat):List Value:=[.int .i64 (v.at (3*d)),.int .i64 (v.at (3*d+1)),.int .i64 (v.at (3*d+2))]
def V9.IX(v:V9){d:Nat}(h:d<3):(v.enc.drop (d*3)).take 3=v.row d:=by
 rcases(by omega:d=0\/d=1\/d=2) with rfl|rfl|rfl<;>rfl
def V9.JX(v:V9)(d:Nat){r:Nat}(h:r<3):(v.row d)[r]? =some (.int .i64 (v.at (3*d+r))):=by
 rcases(by omega:r=0\/r=1\/r=2) with rfl|rfl|rfl<;>rfl
def aO(v:V9):Ct prog 229 [.agg (List.toArray v.enc)] [] (λr H'=>r= .bool (decide (Ri v))/\H'=[]):=by
 refine ce func229 λg R=>?_;repeat' first|refine rn ?_|refine Ud λ_=>?_
 refine W.lo (α:=Nat) (λd=>d<=3/\∀i,i<3*d->0<=v.at i/\v.at i<=MC) (λd=>[(7,.agg (List.toArray v.enc)),(8,.int .i64 (d:Int))]) (λ_=>[R]) (λd=>3 - d) 0 ⟨Gi _,λi hi=>absurd hi (Nat.not_lt_zero _)⟩ ?_;rintro d ⟨hd,hall⟩;by_cases hlt:d<3
 .have hrow:=v.IX hlt;try refine run ?_
  refine WX.ixA rfl rfl hlt hrow rfl ?_;repeat' first|refine run ?_|refine al λ_=>?_
  refine W.lo (α:=Nat) (λr=>r<=3/\∀i,i<3*d+r->0<=v.at i/\v.at i<=MC) (λr=>[(7,.agg (List.toArray v.enc)),(8,.int .i64 (d:Int)),(11,.agg (List.toArray (v.row d))),(12,.int .i64 (r:Int))]) (λ_=>[R]) (λr=>3 - r) 0 ⟨Gi _,hall⟩ ?_;rintro r ⟨hr,VH⟩;by_cases hlr:r<3
  .have hel:=v.JX d hlr;generalize hx:v.at (3*d+r)=x at hel;by_cases hg:0<=x/\x<=1099511627776
   .obtain⟨g1,g2⟩:=hg;try refine run ?_
    refine WX.Z0 rfl rfl hlr hel rfl ?_;try refine run ?_
    refine D.rd (r+1) ⟨by omega,λi hi=>?_⟩ (by omega);rcases Nat.lt_or_ge i (3*d+r) with h|h
    .exact VH i h
    .obtain rfl:i=3*d+r:=by omega
     rw[hx];exact⟨g1,g2⟩
   .have hno: ¬Ri v:=λh=>hg (by have:=h (3*d+r) (by omega);rw[hx] at this;exact this);by_cases g1:x<0
    .try refine run ?_
     refine WX.Z0 rfl rfl hlr hel rfl ?_;try refine run ?_
     exact Wa [] rfl rfl ⟨by rw[gj hno],rfl⟩
    .have g2:1099511627776<x:=by omega
     try refine run ?_
     refine WX.Z0 rfl rfl hlr hel rfl ?_;try refine run ?_
     exact Wa [] rfl rfl ⟨by rw[gj hno],rfl⟩
  .obtain rfl:r=3:=by omega
   try refine run ?_
   exact D.rd (d+1) ⟨by omega,λi hi=>VH i (by omega)⟩ (by omega)
 .obtain rfl:d=3:=by omega
  try refine run ?_
  exact Wa [] rfl rfl ⟨by rw[Fi (show Ri v from hall)],rfl⟩
variable{vs:List V9}{i:Nat}{u:Value}
def WH{x:V9}(h:vs[i]? =some x):gh (vs.take (i+1))=Qu (gh (vs.take i)) x:=by
 unfold gh;rw[take_add_one,h,foldl_append];rfl
def Ay(hs:Rs vs u h)(hl:vs.length<=1000000):
  Ct prog 272 [u] [h] (λr H'=>r= .agg (List.toArray (gh vs).enc)/\H'=[h]):=by
 refine ce func272 λg R=>?_;repeat' first|refine rn ?_|refine al λ_=>?_
 rename_i b2 b3;refine W.h0 [Na b3 (gh (vs.take 0)),Na b2 V9.z,h,R] ?_;refine W.lo (α:=Nat) (λi=>i<=vs.length) (λi=>[(2,b2),(3,b3),(8,u),(9,.int .i64 (vs.length:Int)),(10,.int .i64 (i:Int))]) (λi=>[Na b3 (gh (vs.take i)),Na b2 V9.z,h,R]) (λi=>vs.length - i) 0 (Gi _) ?_;intro i hi;by_cases hlt:i<vs.length
 .obtain⟨x,hx⟩:=Sh hlt;have Le:=WH hx;generalize gh (vs.take i)=o at Le⊢;repeat' first|refine run ?_|refine al λ_=>?_
  rename_i b5;refine W.hp (H':=[Na b5 x,Na b3 (Af o x (3*0)),Na b2 V9.z,h,R]) (by rw[GQ];rfl) ?_;refine W.lo (α:=Nat) (λd=>d<=3) (λd=>[(2,b2),(3,b3),(5,b5),(8,u),(9,.int .i64 (vs.length:Int)),(10,.int .i64 (i:Int)),(14,.int .i64 (d:Int))]) (λd=>[Na b5 x,Na b3 (Af o x (3*d)),Na b2 V9.z,h,R]) (λd=>3 - d) 0 (Gi _) ?_;intro d hd;by_cases hld:d<3
  .try refine run ?_
   refine W.lo (α:=Nat) (λr=>r<=3) (λr=>[(2,b2),(3,b3),(5,b5),(6,.int .i64 (d:Int)),(8,u),(9,.int .i64 (vs.length:Int)),(10,.int .i64 (i:Int)),(14,.int .i64 (d:Int)),(17,.int .i64 (r:Int))]) (λr=>[Na b5 x,Na b3 (Af o x (3*d+r)),Na b2 V9.z,h,R]) (λr=>3 - r) 0 (Gi _) ?_;intro r hr;by_cases hlr:r<3
   .have hk:3*d+r<9:=by omega
    have e0:0+((d:Nat):Int).toNat*3+((r:Nat):Int).toNat*1=3*d+r:=by show 0+d*3+r*1=_;omega
    have g1:(Af o x (3*d+r)).enc[0+((d:Nat):Int).toNat*3+((r:Nat):Int).toNat*1]? =some (.int .i64 (o.at (3*d+r))):=by rw[e0,V9.Vd _ hk,YN _ _ hk]
    have g2:x.enc[0+((d:Nat):Int).toNat*3+((r:Nat):Int).toNat*1]? =some (.int .i64 (x.at (3*d+r))):=by rw[e0,V9.Vd _ hk]
    have g3:(Af o x (3*d+r)).enc.set (0+((d:Nat):Int).toNat*3+((r:Nat):Int).toNat*1) (.int .i64 (mx (o.at (3*d+r)) (x.at (3*d+r))))=(Af o x (3*d+(r+1))).enc:=by rw[e0,V9.jj _ hk,EK _ _ hk];rfl
    have g4:Nat.blt (0+((d:Nat):Int).toNat*3+((r:Nat):Int).toNat*1) (Af o x (3*d+r)).enc.length=true:=Nat.ble_eq_true_of_le (by rw[e0];show 3*d+r+1<=9;omega);try refine run ?_
    refine sK (ml [15]) [Na b5 x,Na b3 (Af o x (3*d+r))] ?_;repeat' first|refine run ?_|refine lN x.enc _ rfl ?_ (hc:=g2)|refine lN (Af o x (3*d+r)).enc _ rfl ?_ (hc:=g1)
    refine Wh (Af o x (3*d+r)).enc (Af o x (3*d+(r+1))).enc ?_ (e:=g3) (hb:=g4);try refine run ?_
    exact D.re (r+1)
   .obtain rfl:r=3:=by omega
    try refine run ?_
    exact D.re (d+1)
  .obtain rfl:d=3:=by omega
   rw[show Af o x (3*3)=gh (vs.take (i+1)) by rw[Le];rfl];try refine run ?_
   exact D.re (i+1)
 .obtain rfl:i=vs.length:=by omega
  rw[take_length];generalize gh vs=o;try refine run ?_
  exact D.Dc [h] _ rfl (.Ua rfl rfl .nil) ⟨rfl,rfl⟩
structure Dt where
 (dc rg sq:Int)
def Dt.enc(d:Dt):List Value:=[d.dc,d.rg,d.sq]
instance:Nb Dt:=⟨3,Dt.enc,λ_=>rfl,λ_=>rfl,by decide⟩
abbrev A1(b:Nat)(d:Dt):Hp:=[(b,.cells (List.toArray d.enc) 42 (0,0))]
def Vo(v:V9)(ds:List Dt):V9:=ds.foldl (λo d=>zg o d.dc d.rg d.sq) v
def GK{v:V9}{ds:List Dt}{x:Dt}(h:ds[i]? =some x):Vo v (ds.take (i+1))=zg (Vo v (ds.take i)) x.dc x.rg x.sq:=by
 unfold Vo;rw[take_add_one,h,foldl_append];rfl
def XH(v:V9){ds:List Dt}(hs:Rs ds u h)(hl:ds.length<=1000000):
  Ct prog 160 [.agg (List.toArray v.enc),u] [h] (λr H'=>r= .agg (List.toArray (Vo v ds).enc)/\H'=[h]):=by
 refine ce func160 λg R=>?_;repeat' first|refine rn ?_|refine Ud λ_=>?_|refine al λ_=>?_
 rename_i b2 b4;refine W.h0 [Na b4 V9.z,Na b2 (Vo v (ds.take 0)),h,R] ?_;refine W.lo (α:=Nat) (λi=>i<=ds.length) (λi=>[(2,b2),(4,b4),(7,u),(8,.int .i64 (ds.length:Int)),(9,.int .i64 (i:Int))]) (λi=>[Na b2 (Vo v (ds.take i)),Na b4 V9.z,h,R]) (λi=>ds.length - i) 0 (Gi _) ?_;intro i hi;by_cases hlt:i<ds.length
 .obtain⟨x,hx⟩:=Sh hlt;have Le:=GK (v:=v) hx;generalize Vo v (ds.take i)=o at Le⊢;have hch:=Xj x.dc x.rg;by_cases hD:Qb x.dc x.rg
  .rw[Fi hD] at hch;rw[show zg o x.dc x.rg x.sq=_ from if_pos hD] at Le;obtain⟨c1,c2,c3,c4⟩:=hD;have hk:x.dc.toNat*3+x.rg.toNat<9:=by omega
   have e0:0+x.dc.toNat*3+x.rg.toNat*1=x.dc.toNat*3+x.rg.toNat:=by omega
   have g1:o.enc[0+x.dc.toNat*3+x.rg.toNat*1]? =some (.int .i64 (o.at (x.dc.toNat*3+x.rg.toNat))):=by rw[e0,V9.Vd _ hk]
   have g3:o.enc.set (0+x.dc.toNat*3+x.rg.toNat*1) (.int .i64 (mx (o.at (x.dc.toNat*3+x.rg.toNat)) x.sq))=(Vo v (ds.take (i+1))).enc:=by rw[e0,V9.jj _ hk,Le]
   have g4:Nat.blt (0+x.dc.toNat*3+x.rg.toNat*1) o.enc.length=true:=Nat.ble_eq_true_of_le (by rw[e0];show x.dc.toNat*3+x.rg.toNat+1<=9;omega);repeat' first|refine run ?_|refine al λ_=>?_|refine cq hch ?_
   rename_i b6;refine sK (ml [16]) [A1 b6 x,Na b2 o] ?_;repeat' first|refine run ?_|refine lN o.enc _ rfl ?_ (hc:=g1)
   refine Wh o.enc (Vo v (ds.take (i+1))).enc ?_ (e:=g3) (hb:=g4);try refine run ?_
   exact D.re (i+1)
  .rw[gj hD] at hch;rw[show zg o x.dc x.rg x.sq=_ from if_neg hD] at Le;repeat' first|refine run ?_|refine al λ_=>?_|refine cq hch ?_
   rw[<-Le];exact D.re (i+1)
 .obtain rfl:i=ds.length:=by omega
  rw[take_length];generalize Vo v ds=o;try refine run ?_
  exact D.Dc [h] _ rfl (.Ua rfl rfl .nil) ⟨rfl,rfl⟩
variable{es:List ya}{x:ya}{xs:List Int}
def HK(h:es[i]? =some x):Sq (es.take (i+1))=gh [Sq (es.take i),x.dp]:=by
 unfold Sq;rw[take_add_one,h,foldl_append];rfl
def vt(o:V9)(es:List ya):V9:=es.foldl (λo e=>zg o e.dc e.rg e.sq) o
def IK{o:V9}(h:es[i]? =some x):vt o (es.take (i+1))=Vo (vt o (es.take i)) [⟨x.dc,x.rg,x.sq⟩]:=by
 unfold vt;rw[take_add_one,h,foldl_append];rfl
def PU(hs:Rs es u h)(hl:es.length<=1000000):
  Ct prog 273 [u] [h] (λr H'=>r= .agg (List.toArray (qt es).enc)/\H'=[h]):=by
 refine ce func273 λg R=>?_;repeat' first|refine vb ?_|refine al λ_=>?_
 rename_i b2 b3;refine W.h0 [Na b3 (Sq (es.take 0)),Na b2 V9.z,h,R] ?_;refine W.lo (α:=Nat) (λi=>i<=es.length) (λi=>[(0,u),(2,b2),(3,b3),(8,u),(9,.int .i64 (es.length:Int)),(10,.int .i64 (i:Int))]) (λi=>[Na b3 (Sq (es.take i)),Na b2 V9.z,h,R]) (λi=>es.length - i) 0 (Gi _) ?_;intro i hi;by_cases hlt:i<es.length
 .obtain⟨x,hx⟩:=Sh hlt;have Le:=HK hx;generalize Sq (es.take i)=o at Le⊢;repeat' first|refine ga ?_|refine al λ_=>?_|refine rG hs hx ?_|refine yj o.enc ?_|refine Of x.enc x.dp.enc ?_|refine nh ya.z.enc x.enc ?_
  refine Kp [o,x.dp] (λv2 h2 Oa=>?_);refine cq (Ay Oa.rs (by simp)) ?_;rw[<-Le];repeat' first|refine ga ?_|refine nh o.enc (Sq (es.take (i+1))).enc ?_
  exact D.re (i+1)
 .obtain rfl:i=es.length:=by omega
  rw[take_length];obtain⟨o,ho⟩:∃o,Sq es=o:=⟨_,rfl⟩;have By:qt es=vt o es:=by rw[<-ho];rfl
  rw[ho,By];try refine ga ?_
  refine W.h0 [Na b3 (vt o (es.take 0)),Na b2 V9.z,h,R] ?_;refine W.lo (α:=Nat) (λi=>i<=es.length) (λi=>[(2,b2),(3,b3),(20,u),(21,.int .i64 (es.length:Int)),(22,.int .i64 (i:Int))]) (λi=>[Na b3 (vt o (es.take i)),Na b2 V9.z,h,R]) (λi=>es.length - i) 0 (Gi _) ?_;clear ho By;intro i hi;by_cases hlt:i<es.length
  .obtain⟨x,hx⟩:=Sh hlt;have Le:=IK (o:=o) hx;generalize vt o (es.take i)=o2 at Le⊢;repeat' first|refine ga ?_|refine al λ_=>?_|refine rG hs hx ?_|refine yj o2.enc ?_|refine Of x.enc (Dt.enc ⟨x.dc,x.rg,x.sq⟩) ?_|refine nh ya.z.enc x.enc ?_
   refine Kp [(⟨x.dc,x.rg,x.sq⟩:Dt)] (λv2 h2 Oa=>?_);refine cq (XH o2 Oa.rs (by simp)) ?_;rw[<-Le];repeat' first|refine ga ?_|refine nh o2.enc (vt o (es.take (i+1))).enc ?_
   exact D.re (i+1)
  .obtain rfl:i=es.length:=by omega
   rw[take_length];generalize vt o es=o2;repeat' first|refine ga ?_|refine yj o2.enc ?_|refine nh V9.z.enc o2.enc ?_
   exact D.Dc [h] _ rfl (.Ua rfl rfl .nil) ⟨rfl,rfl⟩
def ig(v:V9)(rg:Nat)(k:Nat):V3:=⟨if 0<k then v.at rg else 0,if 1<k then v.at (3+rg) else 0,if 2<k then v.at (6+rg) else 0⟩
def dF(v:V9)(rg:Nat){k:Nat}(h:k<3):(ig v rg k).put k (v.at (3*k+rg))=ig v rg (k+1):=by
 rcases(by omega:k=0\/k=1\/k=2) with rfl|rfl|rfl
 .simp[ig,V3.put]
 .simp[ig,V3.put]
 .simp[ig,V3.put]
def tG(v:V9)(rg:Int):
  Ct prog 109 [.agg (List.toArray v.enc),rg] [] (λr H'=>r= .agg (List.toArray (ug v rg).enc)/\H'=[]):=by
 refine ce func109 λg R=>?_;repeat' first|refine vb ?_|refine Ud λ_=>?_|refine al λ_=>?_
 rename_i b2 b4 b5;by_cases Tq:0<=rg/\rg<3
 .obtain⟨r1,r2⟩:=Tq;rw[show ug v rg=ig v rg.toNat 3 by unfold ug;rw[if_pos ⟨r1,r2⟩];simp[ig]];refine W.h0 [Ac b5 (ig v rg.toNat 0),Ac b4 V3.z,Na b2 v,R] ?_;refine W.lo (α:=Nat) (λk=>k<=3) (λk=>[(1,rg),(2,b2),(4,b4),(5,b5),(7,.int .i64 (k:Int))]) (λk=>[Ac b5 (ig v rg.toNat k),Ac b4 V3.z,Na b2 v,R]) (λk=>3 - k) 0 (Gi _) ?_;intro k hk;by_cases hlt:k<3
  .have hch:=Xj (k:Int) rg;rw[Fi (show Qb (k:Int) rg by refine⟨?_,?_,r1,r2⟩<;>omega)] at hch;have hb:3*k+rg.toNat<9:=by omega
   have g1:v.enc[0+((k:Nat):Int).toNat*3+rg.toNat*1]? =some (.int .i64 (v.at (3*k+rg.toNat))):=by rw[show 0+((k:Nat):Int).toNat*3+rg.toNat*1=3*k+rg.toNat by show 0+k*3+rg.toNat*1=_;omega,V9.Vd _ hb]
   have g3:(ig v rg.toNat k).enc.set (0+((k:Nat):Int).toNat*1) (.int .i64 (v.at (3*k+rg.toNat)))=(ig v rg.toNat (k+1)).enc:=by rw[show 0+((k:Nat):Int).toNat*1=k by show 0+k*1=k;omega,V3.jj _ hlt,dF _ _ hlt]
   have g4:Nat.blt (0+((k:Nat):Int).toNat*1) (ig v rg.toNat k).enc.length=true:=Nat.ble_eq_true_of_le (by show 0+k*1+1<=3;omega);repeat' first|refine ga ?_|refine cq hch ?_|refine lN v.enc _ rfl ?_ (hc:=g1)
   refine Wh (ig v rg.toNat k).enc (ig v rg.toNat (k+1)).enc ?_ (e:=g3) (hb:=g4);try refine ga ?_
   exact D.re (k+1)
  .obtain rfl:k=3:=by omega
   generalize ig v rg.toNat 3=o;repeat' first|refine ga ?_|refine yj o.enc ?_|refine nh V3.z.enc o.enc ?_
   exact D.Dc [] _ rfl (.Ua rfl rfl .nil) ⟨rfl,rfl⟩
 .rw[show ug v rg=V3.z from if_neg Tq];refine W.h0 [Ac b5 V3.z,Ac b4 V3.z,Na b2 v,R] ?_;refine W.lo (α:=Nat) (λk=>k<=3) (λk=>[(1,rg),(2,b2),(4,b4),(5,b5),(7,.int .i64 (k:Int))]) (λk=>[Ac b5 V3.z,Ac b4 V3.z,Na b2 v,R]) (λk=>3 - k) 0 (Gi _) ?_;intro k hk;by_cases hlt:k<3
  .have hch:=Xj (k:Int) rg;rw[gj (show ¬Qb (k:Int) rg from λh=>Tq h.2.2)] at hch;repeat' first|refine ga ?_|refine cq hch ?_
   exact D.re (k+1)
  .obtain rfl:k=3:=by omega
   repeat' first|refine ga ?_|refine yj V3.z.enc ?_|refine nh V3.z.enc V3.z.enc ?_
   exact D.Dc [] _ rfl (.Ua rfl rfl .nil) ⟨rfl,rfl⟩
def HQ(a b:V3):jt a b↔∀i,i<3->b.at i<=a.at i:=by
 constructor
 .rintro⟨h1,h2,h3⟩ i hi;rcases(by omega:i=0\/i=1\/i=2) with rfl|rfl|rfl
  .exact h1
  .exact h2
  .exact h3
 .intro h;exact⟨h 0 (by decide),h 1 (by decide),h 2 (by decide)⟩
def Ix(a b:V3):
  Ct prog 110 [.agg (List.toArray a.enc),.agg (List.toArray b.enc)] [] (λr H'=>r= .bool (decide (jt a b))/\H'=[]):=by
 have hiff:=HQ a b;refine ce func110 λg R=>?_;repeat' first|refine vb ?_|refine Ud λ_=>?_
 rename_i b2 b3;refine W.h0 [Ac b3 b,Ac b2 a,R] ?_;refine W.lo (α:=Nat) (λk=>k<=3/\∀i,i<k->b.at i<=a.at i) (λk=>[(2,b2),(3,b3),(6,.int .i64 (k:Int))]) (λk=>[Ac b3 b,Ac b2 a,R]) (λk=>3 - k) 0 ⟨Gi _,λi hi=>absurd hi (Nat.not_lt_zero _)⟩ ?_;rintro k ⟨hk,hall⟩;by_cases hlt:k<3
 .have g1:a.enc[0+((k:Nat):Int).toNat*1]? =some (.int .i64 (a.at k)):=by rw[show 0+((k:Nat):Int).toNat*1=k by show 0+k*1=k;omega,V3.Vd _ hlt]
  have g2:b.enc[0+((k:Nat):Int).toNat*1]? =some (.int .i64 (b.at k)):=by rw[show 0+((k:Nat):Int).toNat*1=k by show 0+k*1=k;omega,V3.Vd _ hlt]
  by_cases hc:b.at k<=a.at k
  .try refine ga ?_
   refine wq ?_;repeat' first|refine ga ?_|refine lN a.enc _ rfl ?_ (hc:=g1)|refine lN b.enc _ rfl ?_ (hc:=g2)
   refine D.rd (k+1) ⟨by omega,λi hi=>?_⟩ (by omega);rcases Nat.lt_or_ge i k with h|h
   .exact hall i h
   .obtain rfl:i=k:=by omega
    exact hc
  .have hno: ¬jt a b:=λh=>hc (hiff.1 h k hlt);try refine ga ?_
   refine wq ?_;repeat' first|refine ga ?_|refine lN a.enc _ rfl ?_ (hc:=g1)|refine lN b.enc _ rfl ?_ (hc:=g2)
   exact Wa [] rfl rfl ⟨by rw[gj hno],rfl⟩
 .obtain rfl:k=3:=by omega
  try refine ga ?_
  exact Wa [] rfl rfl ⟨by rw[Fi (hiff.2 hall)],rfl⟩
def eF{rg:Int}(h:es[i]? =some x):ic rg (es.take (i+1))=Ze rg (ic rg (es.take i)) x:=by
 rw[take_add_one,h];exact Ru rg _ x
def Yj(rg:Int)(hs:Rs es u h)(hl:es.length<=1000000):
  Ct prog 42 [rg,u] [h] (λr H'=>r= .agg (List.toArray (ic rg es).enc)/\H'=[h]):=by
 refine ce func42 λg R=>?_;repeat' first|refine vb ?_|refine al λ_=>?_
 rename_i b4 b5;refine W.h0 [Ac b5 (ic rg (es.take 0)),Ac b4 V3.z,h,R] ?_;refine W.lo (α:=Nat) (λi=>i<=es.length) (λi=>[(0,rg),(4,b4),(5,b5),(8,u),(9,.int .i64 (es.length:Int)),(10,.int .i64 (i:Int))]) (λi=>[Ac b5 (ic rg (es.take i)),Ac b4 V3.z,h,R]) (λi=>es.length - i) 0 (Gi _) ?_;intro i hi;by_cases hlt:i<es.length
 .obtain⟨x,hx⟩:=Sh hlt;have Le:=eF (rg:=rg) hx;generalize ic rg (es.take i)=o at Le⊢;have hch:=Xj x.dc rg;by_cases hg:x.rg=rg
  .by_cases hD:Qb x.dc rg
   .rw[Fi hD] at hch;rw[show Ze rg o x=_ from if_pos ⟨hg,hD⟩] at Le;obtain⟨c1,c2,c3,c4⟩:=hD;have hk:x.dc.toNat<3:=by omega
    have g1:o.enc[0+x.dc.toNat*1]? =some (.int .i64 (o.at x.dc.toNat)):=by rw[show 0+x.dc.toNat*1=x.dc.toNat by omega,V3.Vd _ hk]
    have g3:o.enc.set (0+x.dc.toNat*1) (.int .i64 (mx (o.at x.dc.toNat) x.sq))=(ic rg (es.take (i+1))).enc:=by rw[show 0+x.dc.toNat*1=x.dc.toNat by omega,V3.jj _ hk,Le]
    have g4:Nat.blt (0+x.dc.toNat*1) o.enc.length=true:=Nat.ble_eq_true_of_le (by show 0+x.dc.toNat*1+1<=3;omega);repeat' first|refine ga ?_|refine al λ_=>?_|refine rG hs hx ?_|refine nh ya.z.enc x.enc ?_|refine cq hch ?_
    rename_i b7;refine sK (ml [13]) [Fb b7 x,Ac b5 o] ?_;repeat' first|refine ga ?_|refine lN o.enc _ rfl ?_ (hc:=g1)
    refine Wh o.enc (ic rg (es.take (i+1))).enc ?_ (e:=g3) (hb:=g4);try refine ga ?_
    exact D.re (i+1)
   .rw[gj hD] at hch;rw[show Ze rg o x=_ from if_neg λh=>hD h.2] at Le;repeat' first|refine ga ?_|refine al λ_=>?_|refine rG hs hx ?_|refine nh ya.z.enc x.enc ?_|refine cq hch ?_
    rw[<-Le];exact D.re (i+1)
  .rw[show Ze rg o x=_ from if_neg λh=>hg h.1] at Le;repeat' first|refine ga ?_|refine al λ_=>?_|refine rG hs hx ?_|refine nh ya.z.enc x.enc ?_
   rw[<-Le];exact D.re (i+1)
 .obtain rfl:i=es.length:=by omega
  rw[take_length];generalize ic rg es=o;repeat' first|refine ga ?_|refine yj o.enc ?_|refine nh V3.z.enc o.enc ?_
  exact D.Dc [h] _ rfl (.Ua rfl rfl .nil) ⟨rfl,rfl⟩
def Cy{x:Int}(h:xs[i]? =some x):He (xs.take (i+1))=mx (He (xs.take i)) x:=by
 unfold He;rw[take_add_one,h,foldl_append];rfl
def Dy(xs:List Int):0<=He xs:=by
 have key:∀(xs:List Int) (a:Int),0<=a->0<=xs.foldl mx a:=by
  intro xs
  induction xs with
  |nil=>intro a h;exact h
  |cons x t ih=>intro a h;exact ih _ (Int.le_trans h (xw a x).1)
 exact key xs 0 (Int.le_refl 0)
def Un(ok:Bool)(ct dc rg:Int):List Value:=if ok=true then[ct,dc,rg] else[.int .i64 0,.int .i64 0,.int .i64 0]
def qq(dc rg:Int)(hs:Rs xs u h)(hl:xs.length<=1000000):
  Ct prog 269 [dc,rg,u] [h] (λr H'=>r= .tuple #[.agg (List.toArray (Un (decide (Xh (Nf xs) dc rg)) (Nf xs) dc rg)),.bool (decide (Xh (Nf xs) dc rg))]/\H'=[h]):=by
 have VA:=Dy xs;refine ce func269 λg R=>?_;repeat' first|refine vb ?_|refine al λ_=>?_
 rename_i b6;refine W.lo (α:=Nat) (λi=>i<=xs.length) (λi=>[(0,dc),(1,rg),(6,b6),(8,.int .i64 (He (xs.take i))),(12,u),(13,.int .i64 (xs.length:Int)),(14,.int .i64 (i:Int))]) (λi=>[[(b6,.cells (List.toArray [.int .i64 0,.int .i64 0,.int .i64 0]) 44 (0,0))],h,R]) (λi=>xs.length - i) 0 (Gi _) ?_;intro i hi;by_cases hlt:i<xs.length
 .obtain⟨x,hx⟩:=Sh hlt;have Le:=Cy hx;generalize He (xs.take i)=o at Le⊢;try refine run ?_
  refine D.as 8 (.int .i64 (He (xs.take (i+1)))) rfl (by rw[Le];rfl) ?_;exact D.re (i+1)
 .obtain rfl:i=xs.length:=by omega
  rw[take_length];obtain⟨o,ho⟩:∃o,He xs=o:=⟨_,rfl⟩;obtain⟨c,hc⟩:∃c,Nf xs=c:=⟨_,rfl⟩;have oQ:(if 1099511627776<o then 1099511627776 else o)+1=c:=by rw[<-hc,<-ho];rfl
  rw[ho] at VA;rw[ho,hc];have yw:=bF c dc rg;have hmin:0<=(if(1099511627776:Int)<o then 1099511627776 else o)/\(if(1099511627776:Int)<o then 1099511627776 else o)<=1099511627776:=by split<;>omega
  try refine ga ?_
  rw[oQ];by_cases hR:Xh c dc rg
  .rw[Fi hR] at yw⊢;repeat' first|refine ga ?_|refine al λ_=>?_|refine yj [.int .i64 c,dc,rg] ?_|refine cq yw ?_|refine Vf (t:=44) [.int .i64 c,dc,rg] ?_ (hf':=by exact rfl)|refine nh [.int .i64 0,.int .i64 0,.int .i64 0] [.int .i64 c,dc,rg] ?_
   exact D.yg [h] _ rfl (.Ua rfl rfl (.tmp rfl .nil)) rfl ⟨rfl,rfl⟩
  .rw[gj hR] at yw⊢;repeat' first|refine ga ?_|refine al λ_=>?_|refine yj [.int .i64 c,dc,rg] ?_|refine cq yw ?_|refine Vf (t:=44) [.int .i64 c,dc,rg] ?_ (hf':=by exact rfl)|refine nh [.int .i64 0,.int .i64 0,.int .i64 0] [.int .i64 c,dc,rg] ?_
   refine Vf (t:=44) [.int .i64 0,.int .i64 0,.int .i64 0] ?_ (hf':=by exact rfl);repeat' first|refine ga ?_|refine nh [.int .i64 0,.int .i64 0,.int .i64 0] [.int .i64 0,.int .i64 0,.int .i64 0] ?_
   exact D.yg [h] _ rfl (.Ua rfl rfl (.tmp rfl .nil)) rfl ⟨rfl,rfl⟩
variable{s:CS}{hv:Hp}
def CS.cells(s:CS)(v:Value):List Value:=[.int .i64 s.dc,.int .i64 s.rg,.int .i64 s.nd]++((Yb s.co).enc++[.int .i64 s.sn,.int .i64 s.bs,v,.int .i64 s.du,.int .i64 s.st,.int .i64 s.ak,.int .i64 s.ow,.bool s.su])
abbrev oa(b:Nat)(s:CS)(v:Value):Hp:=[(b,.cells (List.toArray (s.cells v)) 146 (0,0))]
def Zm(ok:Ii s.co)(b:Nat)(v:Value):Ct prog 32 [.pointer (some ⟨b,0,none⟩)] [oa b s v] (λr H'=>r= .bool (decide s.last)/\H'=[oa b s v]):=by
 have hl:=NU ok;refine ce func32 λg R=>?_;simp only[can];by_cases h0:0<=s.nd
 .try refine ga ?_
  refine wq ?_;repeat' first|refine ga ?_|refine Pa (s.cells v) (Yb s.co).enc rfl ?_|refine cq hl ?_
  exact Wa [oa b s v] rfl rfl ⟨by simp[h0],rfl⟩
 .try refine ga ?_
  refine ij ?_;exact Wa [oa b s v] rfl rfl ⟨by simp[h0],rfl⟩
def bn(ok:Ii s.co)(b:Nat)(v:Value):Ct prog 46 [.pointer (some ⟨b,0,none⟩)] [oa b s v] (λr H'=>r= .bool (decide s.head)/\H'=[oa b s v]):=by
 have hl:=MU ok;refine ce func46 λg R=>?_;simp only[can];by_cases h0:0<=s.nd
 .try refine ga ?_
  refine wq ?_;repeat' first|refine ga ?_|refine Pa (s.cells v) (Yb s.co).enc rfl ?_|refine cq hl ?_
  exact Wa [oa b s v] rfl rfl ⟨by simp[h0],rfl⟩
 .try refine ga ?_
  refine ij ?_;exact Wa [oa b s v] rfl rfl ⟨by simp[h0],rfl⟩
def Te(ok:Ii s.co)(b:Nat)(v:Value):Ct prog 149 [.pointer (some ⟨b,0,none⟩)] [oa b s v] (λr H'=>r= .tuple #[]/\H'=[oa b s.settle v]):=by
 have hl:=Zm ok b v;refine ce func149 λg R=>?_;simp only[can];by_cases h0:s.last
 .rw[decide_eq_true h0] at hl
  cases hj:(Yb s.co).jo with
  |false=>
   have e:s.settle={s with su:=true,st:=s.du}:=by unfold CS.settle;rw[if_pos h0,if_pos hj]
   rw[e];repeat' first|refine ga ?_|refine cq hl ?_
   rw[hj];try refine ga ?_
   refine Td (s.cells v) (CS.cells {s with su:=true} v) rfl rfl ?_;try refine ga ?_
   refine Td (CS.cells {s with su:=true} v) (CS.cells {s with su:=true,st:=s.du} v) rfl rfl ?_;try refine ga ?_
   first|exact D.Bc [oa b ({s with su:=true,st:=s.du}:CS) v] _ rfl ⟨rfl,rfl⟩|exact D.ai [oa b ({s with su:=true,st:=s.du}:CS) v] _ rfl ⟨rfl,rfl⟩
  |true=>
   cases hs:s.su with
   |true=>
    have e:s.settle={s with st:=mx s.st s.bs}:=by unfold CS.settle;rw[if_pos h0,if_neg (by rw[hj];decide),if_pos hs]
    rw[e];repeat' first|refine ga ?_|refine cq hl ?_
    rw[hj];try refine ga ?_
    rw[hs];try refine ga ?_
    refine W.Wf 8 (List.replicate 10 true) [oa b s v] Tryz.mix (by kernel_rfl) ?_;try refine ga ?_
    refine Td (s.cells v) (CS.cells {s with st:=mx s.st s.bs} v) rfl rfl ?_;try refine ga ?_
    exact D.Bc [oa b ({s with st:=mx s.st s.bs}:CS) v] _ rfl ⟨rfl,by rw[hs]⟩
   |false=>
    have e:s.settle=s:=by unfold CS.settle;rw[if_pos h0,if_neg (by rw[hj];decide),if_neg (by rw[hs];decide)]
    rw[e];repeat' first|refine ga ?_|refine cq hl ?_
    rw[hj];try refine ga ?_
    rw[hs];try refine ga ?_
    first|exact D.Bc [oa b s v] _ rfl ⟨rfl,rfl⟩|exact D.ai [oa b s v] _ rfl ⟨rfl,rfl⟩
 .rw[decide_eq_false h0] at hl;have e:s.settle=s:=if_neg h0;rw[e];repeat' first|refine ga ?_|refine cq hl ?_
  first|exact D.Bc [oa b s v] _ rfl ⟨rfl,rfl⟩|exact D.ai [oa b s v] _ rfl ⟨rfl,rfl⟩
def Kx(dc rg nd:Int):Ct prog 123 [.int .i64 dc,.int .i64 rg,.int .i64 nd] [] (λr H'=>∃b,r= .pointer (some ⟨b,0,none⟩)/\H'=[oa b (CS.new dc rg nd) (.slice none 0 0)]):=by
 refine ce func123 λg R=>?_;repeat' first|refine vb ?_|refine bx rfl λ_=>?_|refine Vf ((CS.new dc rg nd).cells (.slice none 0 0)) ?_
 rename_i b;exact Wa [oa b (CS.new dc rg nd) (.slice none 0 0)] rfl rfl ⟨b,rfl,rfl⟩
def vr(s:CS)(b:Nat){v:Value}(hs:Rs s.lg v hv)(hl:s.lg.length<=1000000):Ct prog 271 [.pointer (some ⟨b,0,none⟩)] [oa b s v,hv] (λr H'=>r= .agg (List.toArray (ic s.rg s.lg).enc)/\H'=[oa b s v,hv]):=by
 have hc:=Yj s.rg hs hl;generalize ic s.rg s.lg=o at hc⊢;refine ce func271 λg R=>?_;repeat' first|refine vb ?_|refine al λ_=>?_
 refine W.Wf 8 (List.replicate 8 true++[false]) [oa b s v] Tryz.mix (by kernel_rfl) ?_;try refine ga ?_
 refine cq hc ?_;repeat' first|refine ga ?_|refine ud V3.z.enc o.enc rfl rfl ?_
 exact D.Dc [oa b s v,hv] _ rfl (.Ua rfl rfl .nil) ⟨rfl,rfl⟩
def Ey(s:CS)(b:Nat){v:Value}(hs:Rs s.lg v hv)(hl:s.lg.length<=1000000)(deps:V9):Ct prog 270 [.pointer (some ⟨b,0,none⟩),.agg (List.toArray deps.enc)] [oa b s v,hv] (λr H'=>r= .bool (decide (¬s.Tn deps))/\H'=[oa b s v,hv]):=by
 have hc:=vr s b hs hl;have hp:=tG deps s.rg;have di:=Ix (ic s.rg s.lg) (ug deps s.rg);refine ce func270 λg R=>?_;repeat' first|refine vb ?_|refine bx rfl λ_=>?_
 refine wq ?_;repeat' first|refine ga ?_|refine cq hc ?_|refine cq hp ?_|refine cq di ?_|refine Pa deps.enc deps.enc rfl ?_
 exact Wa [oa b s v,hv] rfl rfl ⟨rfl,rfl⟩
def foV(b1 b2:Nat):Value:= .func (.func 299) (List.toArray []) (List.toArray [b1,b2])
def QU(b1 b2:Nat)(cl op:Int)(e:ya):Ct prog 299 [.agg (Nb.enc e).toArray,b1,b2] [OH b1 cl,OH b2 op] (λr H'=>r= .bool (decide (e.cl=cl/\e.op=op))/\H'=[OH b1 cl,OH b2 op]):=by
 refine ce func299 λg R=>?_;simp only[can];by_cases h0:e.cl=cl
 .repeat' first|refine ga ?_|refine Ud λ_=>?_
  exact Wa [OH b1 cl,OH b2 op] rfl rfl ⟨by simp[h0],rfl⟩
 .repeat' first|refine ga ?_|refine Ud λ_=>?_
  exact Wa [OH b1 cl,OH b2 op] rfl rfl ⟨by simp[h0],rfl⟩
def JQ{ps:List ya}{v:Value}{h:Hp}(hs:Rs ps v h)(b1 b2:Nat)(cl op:Int)(hl:ps.length<=1000000):
  Ct prog 227 [v,foV b1 b2] [h,OH b1 cl,OH b2 op] (λr H'=>r= .int .i64 (Pe ps cl op - 1)/\H'=[h,OH b1 cl,OH b2 op]):=by
 refine cr func227 λg R=>?_;refine W.lo (α:=Nat) (λj=>j<=ps.length/\∀(i:Nat) (p:ya),i<j->ps[i]? =some p-> ¬(p.cl=cl/\p.op=op)) (λj=>[(0,v),(1,foV b1 b2),(7,.int .i64 (ps.length:Int)),(8,.int .i64 (j:Int))]) (λ_=>[h,OH b1 cl,OH b2 op,R]) (λj=>ps.length - j) 0 ⟨Gi _,λi p hi=>absurd hi (Nat.not_lt_zero _)⟩ ?_;rintro j ⟨hj,hall⟩;by_cases hlt:j<ps.length
 .obtain⟨p,hp⟩:=Sh hlt;try refine run ?_
  refine WX.Np rfl rfl (QU b1 b2 cl op p) rfl ?_;rintro _ _ ⟨rfl,rfl⟩;by_cases hpk:p.cl=cl/\p.op=op
  .have hf:Pe ps cl op=(j:Int)+1:=by
    have:ps.findIdx? (λe=>decide (e.cl=cl/\e.op=op))=some j:=by
     rw[List.findIdx?_eq_some_iff_getElem];obtain⟨h1,h2⟩:=List.getElem?_eq_some_iff.1 hp;refine⟨h1,by rw[h2];simpa using hpk,λi hi=>?_⟩;have:=hall i _ hi (oh (by omega));simpa using this
    unfold Pe;rw[this]
   refine rn ?_;exact Wa [h,OH b1 cl,OH b2 op] rfl rfl ⟨by rw[hf];congr 1;omega,rfl⟩
  .simp only[ca,na];try refine run ?_
   refine D.rd (j+1) ⟨by omega,λi p' hi YH=>?_⟩ (by omega);rcases Nat.lt_or_ge i j with h|h
   .exact hall i p' h YH
   .obtain rfl:i=j:=by omega
    rw[hp] at YH;cases YH;exact hpk
 .have hf:Pe ps cl op=0:=by
   have:ps.findIdx? (λe=>decide (e.cl=cl/\e.op=op))=none:=by
    rw[List.findIdx?_eq_none_iff];intro x hx;obtain⟨i,hi⟩:=mem_iff_getElem?.1 hx;have hlt':=(List.getElem?_eq_some_iff.1 hi).1;have:=hall i x (by omega) hi;simpa using this
   unfold Pe;rw[this]
  rw[hf];try refine run ?_
  exact vj [h,OH b1 cl,OH b2 op]
def vG(es:List ya)(cl op:Int):0<=Pe es cl op/\Pe es cl op<=(es.length:Int):=by
 unfold Pe
 cases h:es.findIdx? (λe=>decide (e.cl=cl/\e.op=op)) with
 |none=>simp only[];omega
 |some i=>have:=(List.findIdx?_eq_some_iff_getElem.1 h).1;simp only[];omega
def bO(s:CS)(b:Nat){v:Value}(hs:Rs s.lg v hv)(hl:s.lg.length<=1000000)(cl op:Int):Ct prog 268 [.pointer (some ⟨b,0,none⟩),.int .i64 cl,.int .i64 op] [oa b s v,hv] (λr H'=>r= .int .i64 (Pe s.lg cl op)/\H'=[oa b s v,hv]):=by
 have hr:=vG s.lg cl op;refine ce func268 λg R=>?_;repeat' first|refine vb ?_|refine bx rfl λ_=>?_|(refine WX.makeFunc (first:=[]) rfl rfl rfl ?_)
 rename_i b4 b5;refine cq (JQ hs b4 b5 cl op hl) ?_;try refine ga ?_
 exact Wa [oa b s v,hv] rfl rfl ⟨by congr 1;omega,rfl⟩
end Go.Proofs.YthebagfahkebiaaGreat
