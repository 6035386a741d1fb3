/- Texts of one road. -/
import Derived.Test.YthebagfahkebiaaGreatRAH
set_option linter.all false
set_option maxHeartbeats 8000000
set_option maxRecDepth 20000
namespace Go.Proofs.YthebagfahkebiaaGreat
open Go Go.Sl Go.Proofs.Tryz List
variable{n:Int}{h:Hp}{s:ByteArray}
structure Ot where
 b:List UInt8:=[]
 bad:Bool:=false
def Ot.put(O:Ot)(it:It)(u:Value):Ot:=⟨O.b++(encI it u).getD [],O.bad||(encI it u).isNone⟩
def Cd.ot(C:Cd):Ot:=⟨C.b,C.arg⟩
def Ot.AH{O:Ot}:O.put (.num 0) (n)=if n<0\/4611686018427387904<n then⟨O.b,true⟩ else⟨O.b++Ed n.toNat,O.bad⟩:=by
 unfold Ot.put;rw[Eh];by_cases h:n<0\/4611686018427387904<n
 .rw[if_pos h,if_pos h];simp
 .rw[if_neg h,if_neg h];simp
def Ot.Cu{O:Ot}{o:Nat}:(O.put (.num o) (n)).b.length<=O.b.length+9:=by
 show(O.b++(encI (.num o) (n)).getD []).length<=_;have:=jA (it:= .num o) (u:= .int .i64 n) (by simp[Sm]);have e:tl (n) (.num o)=0:=rfl;rw[Eb];omega
abbrev nk(o:Nat)(O:Ot)(v:Value):Hp:=[(o,.cells (List.toArray [v,.bool O.bad]) 278 (0,0))]
def cx(o:Nat)(O':Ot):Value->HH->Prop:=λ_ H'=>∃v' h',H'=[nk o O' v',h']/\ia 5 O'.b v' h'
def Wj{O:Ot}{v:Value}(hs:ia 5 O.b v h)(hl:O.b.length<=1099511627776){o:Nat}:
  Ct prog 262 [o,.int .i64 n] [nk o O v,h] (cx o (O.put (.num 0) (.int .i64 n))):=by
 obtain⟨B,bad⟩:=O;simp only[] at hs hl⊢;rw[Ot.AH];refine ce func262 λg R=>?_;simp only[can];by_cases h1:n<0
 .rw[if_pos (.inl h1)];try refine run ?_
  exact D.ri [nk o ⟨B,true⟩ v,h] _ rfl ⟨_,_,rfl,hs⟩
 by_cases h2:4611686018427387904<n
 .rw[if_pos (.inr h2)];try refine run ?_
  exact D.ri [nk o ⟨B,true⟩ v,h] _ rfl ⟨_,_,rfl,hs⟩
 rw[if_neg (by omega)];obtain⟨m0,rfl⟩:∃m:Nat,n=(m:Int):=⟨n.toNat,by omega⟩;rw[Int.toNat_natCast];have h9:(Ed m0).length<=9:=kA (by omega);obtain⟨p0,n0,c0,rfl⟩:=hs.sh;try refine run ?_
 refine W.lo (α:=Nat×List UInt8×Value×Hp) (λx=>x.2.1++Ed x.1=Ed m0/\ia 5 (B++x.2.1) x.2.2.1 x.2.2.2/\x.1<=m0/\∃p n c,x.2.2.1= .slice p n c) (λx=>[(0,o),(1,.int .i64 (x.1:Int))])
  (λx=>[nk o ⟨B,bad⟩ x.2.2.1,x.2.2.2,R]) (λx=>x.1) (m0,[],.slice p0 n0 c0,h) ⟨rfl,by simpa using hs,Nat.le_refl _,_,_,_,rfl⟩ ?_
 rintro⟨m,dn,u,hu⟩ ⟨e1,hs1,hm,pu,nu,cu,rfl⟩;simp only[] at e1 hs1 hm⊢;have hdl:dn.length<=9:=by rw[<-e1,Eb] at h9;omega
 by_cases hge:m<128
 .rw[mg hge] at e1;repeat' first|refine run ?_|refine WX.conv rfl rfl (IntWalk.u8_in _ (by omega)) ?_
  refine WX.as 36 (.int .u8 ((UInt8.ofNat m).toNat:Int)) rfl (by rw[Of (by omega)]) ?_;refine Up [UInt8.ofNat m] (λv1 h1 Sa=>?_);refine Jt (zb:=by simp only[Eb,Ib,td];omega) hs1 Sa.rs (λv2 h2 Cc=>?_);rw[Sc,e1] at Cc;obtain⟨p1,n1,c1,rfl⟩:=Cc.sh;try refine run ?_
  exact D.fc [nk o ⟨B++Ed m0,bad⟩ (.slice p1 n1 c1),h2] _ rfl ⟨_,_,rfl,Cc⟩
 .rw[Qo hge] at e1;repeat' first|refine run ?_|refine WX.rem rfl rfl rfl (by decide) ?_
  refine WX.as 21 (.int .i64 ((m% 128:Nat):Int)) rfl (by rw[Int.ofNat_tmod];rfl) ?_;repeat' first|refine run ?_|refine WX.conv rfl rfl (IntWalk.u8_in _ (by omega)) ?_
  refine WX.as 23 (.int .u8 ((UInt8.ofNat (128+m% 128)).toNat:Int)) rfl (by rw[Of (by omega)];congr 1) ?_;refine Up [UInt8.ofNat (128+m% 128)] (λv1 h1 Sa=>?_);refine Jt (zb:=by simp only[Eb,Ib,td];omega) hs1 Sa.rs (λv2 h2 Cc=>?_);rw[Sc] at Cc;obtain⟨p1,n1,c1,rfl⟩:=Cc.sh;repeat' first|refine run ?_|refine WX.quo rfl rfl rfl (by decide) ?_
  refine D.as 1 (.int .i64 ((m/128:Nat):Int)) rfl (by rw[IntWalk.i64_quo _ _ (by omega)];rfl) ?_;exact D.rd (m/128,dn++[UInt8.ofNat (128+m% 128)],.slice p1 n1 c1,h2) ⟨by simp only[];rw[Sc];exact e1,Cc,by simp only[];omega,_,_,_,rfl⟩ (by simp only[];omega)
def FN{O:Ot}{v:Value}(hs:ia 5 O.b v h)(hl:O.b.length<=1099511627776){t:Bool}{o:Nat}:
  Ct prog 296 [o,.bool t] [nk o O v,h] (cx o (O.put (.Xn 0) (.bool t))):=by
 obtain⟨B,bad⟩:=O;simp only[] at hs hl⊢;obtain⟨p0,n0,c0,rfl⟩:=hs.sh;refine ce func296 λg R=>?_;simp only[can]
 cases t with
 |true=>
  have e:Ot.put ⟨B,bad⟩ (.Xn 0) (.bool true)=⟨B++[1],bad⟩:=by
   have h1:encI (.Xn 0) (.bool true)=some [1]:=by show some (Ed 1)=_;rw[mg (by decide)];rfl
   unfold Ot.put;rw[h1];cases bad<;>rfl
  rw[e];try refine run ?_
  refine Up [(1:UInt8)] (λv1 h1 Sa=>?_);refine Jt (zb:=by simp only[Ib,td];omega) hs Sa.rs (λv2 h2 Cc=>?_);obtain⟨p1,n1,c1,rfl⟩:=Cc.sh;try refine run ?_
  exact D.fc [nk o ⟨B++[1],bad⟩ (.slice p1 n1 c1),h2] _ rfl ⟨_,_,rfl,Cc⟩
 |false=>
  have e:Ot.put ⟨B,bad⟩ (.Xn 0) (.bool false)=⟨B++[0],bad⟩:=by
   have h1:encI (.Xn 0) (.bool false)=some [0]:=by show some (Ed 0)=_;rw[mg (by decide)];rfl
   unfold Ot.put;rw[h1];cases bad<;>rfl
  rw[e];try refine run ?_
  refine Up [(0:UInt8)] (λv1 h1 Sa=>?_);refine Jt (zb:=by simp only[Ib,td];omega) hs Sa.rs (λv2 h2 Cc=>?_);obtain⟨p1,n1,c1,rfl⟩:=Cc.sh;try refine run ?_
  exact D.fc [nk o ⟨B++[0],bad⟩ (.slice p1 n1 c1),h2] _ rfl ⟨_,_,rfl,Cc⟩
def Ot.GN{O:Ot}(h:s.data.toList.length<=4611686018427387904):O.put (.Bj 0 0) (.string s)=⟨(O.put (.num 0) (.int .i64 (s.size:Int))).b++s.data.toList,(O.put (.num 0) (.int .i64 (s.size:Int))).bad⟩:=by
 have hz:s.size=s.data.toList.length:=rfl;rw[Ot.AH,if_neg (by omega),Int.toNat_natCast];unfold Ot.put;rw[show encI (.Bj 0 0) (.string s)=some (Ed s.data.toList.length++s.data.toList) from rfl,hz];simp
def HN{O:Ot}{v:Value}(hs:ia 5 O.b v h)(hl:O.b.length<=549755813888)(hz:s.data.toList.length<=1073741824){o:Nat}:
  Ct prog 295 [o,.string s] [nk o O v,h] (cx o (O.put (.Bj 0 0) (.string s))):=by
 rw[Ot.GN (by omega)];have hp:=O.Cu (o:=0) (n:=(s.size:Int));refine Tk func295 λg R=>?_;refine ck (Wj hs (by omega) (n:=(s.size:Int))) ?_;rintro _ _ ⟨v1,h1,rfl,hs1⟩;obtain⟨p0,n0,c0,rfl⟩:=hs1.sh;refine rn ?_;refine WX.MY rfl rfl hs1 rfl (by decide) (by omega) rfl (λv2 h2 Sa=>?_);obtain⟨p1,n1,c1,rfl⟩:=Sa.sh;try refine run ?_
 exact D.fc [nk o ⟨(O.put (.num 0) (.int .i64 (s.size:Int))).b++s.data.toList,(O.put (.num 0) (.int .i64 (s.size:Int))).bad⟩ (.slice p1 n1 c1),h2] _ rfl ⟨_,_,rfl,Sa⟩
variable{O:Ot}{ns:List Int}
def Ot.oe(O:Ot)(ns:List Int):Ot:=ns.foldl (λO n=>O.put (.num 0) (.int .i64 n)) O
def Ei(ns:List Int):(O.oe ns).b.length<=O.b.length+9*ns.length:=by
 induction ns generalizing O with
 |nil=>exact Nat.le_refl _
 |cons n t ih=>
  have h1:=ih (O:=O.put (.num 0) (.int .i64 n));have h2:=O.Cu (o:=0) (n:=n);show((O.put (.num 0) (.int .i64 n)).oe t).b.length<=_;rw[Ib];omega
def LP{n:Int}:O.oe (ns++[n])=(O.oe ns).put (.num 0) (.int .i64 n):=by unfold Ot.oe;rw[foldl_append];rfl
def Wf{v:Value}(hs:ia 5 (O.oe ns).b v h)(hl:O.b.length<=549755813888)(hn:ns.length<=100)(n:Int){o:Nat}:
  Ct prog 262 [o,n] [nk o (O.oe ns) v,h] (cx o (O.oe (ns++[n]))):=by
 have h1:=Ei (O:=O) ns;rw[LP];exact Wj hs (by omega)
def Cy{s:ByteArray}(h:s.data.toList.length<=1073741824):(O.put (.Bj 0 0) (.string s)).b.length<=O.b.length+9+s.data.toList.length:=by
 rw[Ot.GN (by omega)];have:=O.Cu (o:=0) (n:=(s.size:Int));simp only[Eb];omega
def Dy{t:Bool}:(O.put (.Xn 0) (.bool t)).b.length<=O.b.length+9:=by
 show(O.b++(encI (.Xn 0) (.bool t)).getD []).length<=_;have:=jA (it:= .Xn 0) (u:= .bool t) (by simp[Sm]);have e:tl (.bool t) (.Xn 0)=0:=rfl;rw[Eb];omega
def V9.ls(v:V9):List Int:=[v.a,v.b,v.c,v.d,v.e,v.f,v.g,v.h,v.i]
def V9.at9(v:V9){j:Nat}(h:j<9):∃x,v.ls[j]? =some x/\v.enc[j]? =some (.int .i64 x):=by
 have hl:v.ls.length=9:=rfl;have he:v.enc=v.ls.map (.int .i64):=rfl;exact⟨_,Wg (by omega),by rw[he,List.getElem?_map,Wg (by omega)];rfl⟩
def oW{v:Value}(hs:ia 5 O.b v h)(hl:O.b.length<=549755813888)(d:V9){o:Nat}:
  Ct prog 297 [o,.agg d.enc.toArray] [nk o O v,h] (cx o (O.oe d.ls)):=by
 have hdl:d.ls.length=9:=rfl;refine ce func297 λg R=>?_;simp only[can];repeat' apply go
 refine WX.box (vs:=d.enc) rfl rfl rfl (λb=>?_);try refine run ?_
 refine W.h0 [[(b,.cells d.enc.toArray 47 (0,0))],nk o (O.oe (d.ls.take (0*3+0))) v,h,R] ?_
 refine W.lo (α:=Nat×Value×Hp) (λx=>x.1<=3/\ia 5 (O.oe (d.ls.take (x.1*3+0))).b x.2.1 x.2.2) (λx=>[(0,o),(3,b),(4,.int .i64 (x.1:Int))])
  (λx=>[nk o (O.oe (d.ls.take (x.1*3+0))) x.2.1,x.2.2,[(b,.cells d.enc.toArray 47 (0,0))],R]) (λx=>3 - x.1) (0,v,h) ⟨di _,hs⟩ ?_
 rintro⟨k,u,hu⟩ ⟨hk,hsu⟩;simp only[] at hk hsu⊢;by_cases pW:k<3
 .try refine run ?_
  refine W.lo (α:=Nat×Value×Hp) (λx=>x.1<=3/\ia 5 (O.oe (d.ls.take (k*3+x.1))).b x.2.1 x.2.2) (λx=>[(0,o),(3,b),(4,.int .i64 (k:Int)),(5,.int .i64 (x.1:Int))])
   (λx=>[nk o (O.oe (d.ls.take (k*3+x.1))) x.2.1,x.2.2,[(b,.cells d.enc.toArray 47 (0,0))],R]) (λx=>3 - x.1) (0,u,hu) ⟨di _,hsu⟩ ?_
  rintro⟨r,w,hw⟩ ⟨hr,hsw⟩;simp only[] at hr hsw⊢;by_cases mX:r<3
  .obtain⟨x,hx,hv⟩:=d.at9 (j:=k*3+r) (by omega)
   have Qe:d.ls.take (k*3+(r+1))=d.ls.take (k*3+r)++[x]:=by
    rw[<-Nat.add_assoc,take_succ_eq_append_getElem (List.getElem?_eq_some_iff.1 hx).1,(List.getElem?_eq_some_iff.1 hx).2]
   try refine run ?_
   refine WX.as 18 (.pointer (some ⟨b,k*3+r,none⟩)) rfl (by rw[Int.toNat_natCast,Int.toNat_natCast,Nat.mul_one,Nat.zero_add]) ?_;refine WX.load rfl hv rfl ?_;refine ck (Wf hsw hl (by rw[Oe];omega) x) ?_;rintro _ _ ⟨v1,h1,rfl,hs1⟩;rw[<-Qe] at hs1⊢;refine rn ?_;exact D.rd (r+1,v1,h1) ⟨by simp only[];omega,hs1⟩ (by simp only[];omega)
  .obtain rfl:r=3:=by omega
   rw[show k*3+3=(k+1)*3+0 by omega] at hsw⊢;try refine run ?_
   exact D.rd (k+1,w,hw) ⟨by simp only[];omega,hsw⟩ (by simp only[];omega)
 .obtain rfl:k=3:=by omega
  rw[show d.ls.take (3*3+0)=d.ls from rfl] at hsu⊢;try refine run ?_
  exact D.fc [nk o (O.oe d.ls) u,hu] _ rfl ⟨_,_,rfl,hsu⟩
def IN{v:Value}(hs:ia 5 (O.oe ns).b v h)(hl:O.b.length<=549755813888)(hn:ns.length<=90)(x y:Int){o:Nat}:
  Ct prog 298 [o,.agg #[x,y]] [nk o (O.oe ns) v,h] (cx o (O.oe (ns++[x,y]))):=by
 refine ce func298 λg R=>?_;simp only[can];repeat' apply go
 refine WX.box (vs:=[x,y]) rfl rfl rfl (λb=>?_);try refine run ?_
 refine ck (Wf hs hl (by omega) x) ?_;rintro _ _ ⟨v1,h1,rfl,hs1⟩;refine rn ?_;refine ck (Wf hs1 hl (by rw[Eb];simp only[Ib,td];omega) y) ?_;rintro _ _ ⟨v2,h2,rfl,Sa⟩;rw[Sc] at Sa⊢;refine rn ?_;exact D.fc [nk o (O.oe (ns++[x,y])) v2,h2] _ rfl ⟨_,_,rfl,Sa⟩
variable{n:Nat}{k:Int}
def jX(o:Option Ch):Value:= .tuple (List.toArray [.agg (List.toArray (match o with|some c=>c.cfg|none=>Wa.z).enc),.bool o.isSome])
def AN(k i:Nat):Mem:=if i<k then⟨(i:Int),1⟩ else Mem.z
def Fk(n k:Nat):Wa:=⟨1,(n:Int),AN k 0,AN k 1,AN k 2,AN k 3,false,Mem.z⟩
def AF(h1:1<=n)(h4:n<=4):Fk n n=(Kc n).cfg:=by
 match n,h1,h4 with
 |1,_,_=>rfl
 |2,_,_=>rfl
 |3,_,_=>rfl
 |4,_,_=>rfl
def NS(h1:1<=n)(h4:n<=4):Ct prog 51 [.int .i64 (n:Int)] [] (λr H'=>r=jX (some (Kc n))/\H'=[]):=by
 have hz:Wa.enc (Fk n 0)=Wa.enc ⟨1,(n:Int),Mem.z,Mem.z,Mem.z,Mem.z,false,Mem.z⟩:=rfl;refine ce func51 λg R=>?_;repeat' first|refine rn ?_|refine al λ_=>?_
 rename_i b2 b4;refine W.flat (H':=[od b4 (Fk n 0),od b2 Wa.z,R]) rfl ?_;refine W.lo (α:=Nat) (λk=>k<=n) (λk=>[(2,b2),(3,.bool false),(4,b4),(15,.int .i64 (n:Int)),(16,.int .i64 (k:Int))]) (λk=>[od b4 (Fk n k),od b2 Wa.z,R]) (λk=>n - k) 0 (di _) ?_;intro k hk;by_cases hlt:k<n
 .rcases(by omega:k=0\/k=1\/k=2\/k=3) with rfl|rfl|rfl|rfl
  .try refine run ?_
   refine D.flat (H':=[od b4 (Fk n (0+1)),od b2 Wa.z,R]) rfl ?_;exact D.re (0+1)
  .try refine run ?_
   refine D.flat (H':=[od b4 (Fk n (1+1)),od b2 Wa.z,R]) rfl ?_;exact D.re (1+1)
  .try refine run ?_
   refine D.flat (H':=[od b4 (Fk n (2+1)),od b2 Wa.z,R]) rfl ?_;exact D.re (2+1)
  .try refine run ?_
   refine D.flat (H':=[od b4 (Fk n (3+1)),od b2 Wa.z,R]) rfl ?_;exact D.re (3+1)
 .obtain rfl:k=n:=by omega
  rw[AF h1 h4];try refine run ?_
  exact D.Bg [] _ rfl (.Va rfl rfl (.tmp rfl .nil)) rfl ⟨rfl,rfl⟩
abbrev WH(nb:Nat)(k:Int):Hp:=[(nb,.cells (List.toArray [k]) 3 (0,0))]
def wG(ms:List Mem)(k:Int):Int:=match ms.findIdx? (λp=>decide (p.nd=k)) with|none=> -1|some i=>(i:Int)
def SR{ms:List Mem}{j:Nat}{p:Mem}(hp:ms[j]? =some p)(hpk:p.nd=k)(hall:∀i p,i<j->ms[i]? =some p-> ¬p.nd=k):wG ms k=(j:Int):=by
 have hf:ms.findIdx? (λp=>decide (p.nd=k))=some j:=by
  rw[List.findIdx?_eq_some_iff_getElem];obtain⟨h1,h2⟩:=List.getElem?_eq_some_iff.1 hp;refine⟨h1,by rw[h2];simpa using hpk,λi hi=>?_⟩;have:=hall i _ hi (Wg (by omega));simpa using this
 unfold wG;rw[hf]
def TR{ms:List Mem}(hall:∀p∈ms,¬p.nd=k):wG ms k= -1:=by
 have hf:ms.findIdx? (λp=>decide (p.nd=k))=none:=by
  rw[List.findIdx?_eq_none_iff];intro x hx;simpa using hall x hx
 unfold wG;rw[hf]
def gR{c:Ch}(ok:Ag c):c.ms.length<=4:=by have:=ok.l4;omega
def SQ{c:Ch}(ok:Ag c):
  Ct prog 104 [.agg (List.toArray c.cfg.enc)] [] (λr H'=>∃h',ia 3 (c.all.map (·.nd)) r h'/\H'=[h']):=by
 have hall:c.all.length<=4:=by have:=ok.l4;unfold Ch.all;rw[Eb];exact this
 refine ce func104 λg R=>?_;repeat' first|refine rn ?_|refine Uc λ_=>?_
 refine cq (MS ok) ?_;try refine run ?_
 rename_i b;refine ck (Py ok) ?_;rintro _ _ ⟨hm,E3,rfl⟩;have hrm:=E3.rs;obtain⟨vp,vc,rfl⟩:=hrm.len;refine rn ?_;refine W.Pe ?_;refine W.lo (α:=Nat×Value×Hp) (λx=>x.1<=c.all.length/\ia 3 ((c.all.take x.1).map (·.nd)) x.2.1 x.2.2) (λx=>[(1,b),(3,x.2.1),(10,.slice vp c.all.length vc),(11,.int .i64 (c.all.length:Nat)),(12,.int .i64 (x.1:Int))]) (λx=>[x.2.2,hm,od b c.cfg,R]) (λx=>c.all.length - x.1) (0,.slice none 0 0,[]) ⟨di _,ia.nil _⟩ ?_;rintro⟨k,v,h⟩ ⟨hk,hs⟩;simp only[] at hk hs⊢;have hvl:((c.all.take k).map (·.nd)).length<=4:=by rw[bf,Oe];omega
 by_cases hlt:k<c.all.length
 .obtain⟨m,hmk⟩:=Lh hlt;repeat' first|refine run ?_|refine al λ_=>?_
  refine Up [m.nd] (λv2 h2 Sa=>?_);refine Jt (zb:=by simp only[Ib,td];omega) hs Sa.rs (λv3 h3 Cc=>?_);have Cc:ia 3 ((c.all.take (k+1)).map (·.nd)) v3 h3:=by rw[take_add_one,hmk,He];exact Cc
  try refine run ?_
  exact D.rd (k+1,v3,h3) ⟨by simp only[];omega,Cc⟩ (by simp only[];omega)
 .obtain rfl:k=c.all.length:=by omega
  rw[take_length] at hs;try refine run ?_
  exact Xa [h] rfl rfl ⟨h,hs,rfl⟩
def Rg(xs:List Int)(k:Int):Int:=match xs.findIdx? (λp=>decide (p=k)) with|none=> -1|some i=>(i:Int)
def DP{ms:List Int}{j:Nat}{p:Int}(hp:ms[j]? =some p)(hpk:p=k)(hall:∀i p,i<j->ms[i]? =some p-> ¬p=k):Rg ms k=(j:Int):=by
 have hf:ms.findIdx? (λp=>decide (p=k))=some j:=by
  rw[List.findIdx?_eq_some_iff_getElem];obtain⟨h1,h2⟩:=List.getElem?_eq_some_iff.1 hp;refine⟨h1,by rw[h2];simpa using hpk,λi hi=>?_⟩;have:=hall i _ hi (Wg (by omega));simpa using this
 unfold Rg;rw[hf]
def EP{ms:List Int}(hall:∀p∈ms,¬p=k):Rg ms k= -1:=by
 have hf:ms.findIdx? (λp=>decide (p=k))=none:=by
  rw[List.findIdx?_eq_none_iff];intro x hx;simpa using hall x hx
 unfold Rg;rw[hf]
def Kt{ps:List Int}{v:Value}{h:Hp}(hs:Rs ps v h)(k:Int)(hl:ps.length<=1000000):
  Ct prog 106 [v,k] [h] (λr H'=>r= .int .i64 (Rg ps k)/\H'=[h]):=by
 refine Tk func106 λg R=>?_;refine W.lo (α:=Nat) (λj=>j<=ps.length/\∀i p,i<j->ps[i]? =some p-> ¬p=k) (λj=>[(0,v),(1,k),(7,.int .i64 (ps.length:Int)),(8,.int .i64 (j:Int))]) (λ_=>[h,R]) (λj=>ps.length - j) 0 ⟨di _,λi p hi=>absurd hi (Nat.not_lt_zero _)⟩ ?_;rintro j ⟨hj,hall⟩;by_cases hlt:j<ps.length
 .obtain⟨p,hp⟩:=Lh hlt;by_cases hpk:k=p
  .try refine run ?_
   exact Xa [h] rfl rfl ⟨by rw[DP hp hpk.symm hall],rfl⟩
  .try refine run ?_
   refine D.rd (j+1) ⟨by omega,λi p' hi jI=>?_⟩ (by omega);rcases Nat.lt_or_ge i j with h|h
   .exact hall i p' h jI
   .obtain rfl:i=j:=by omega
    rw[hp] at jI;cases jI;exact λe=>hpk e.symm
 .have hno:∀p∈ps,¬p=k:=λx hx=>by
   obtain⟨i,hi⟩:=mem_iff_getElem?.1 hx;have hlt:=(List.getElem?_eq_some_iff.1 hi).1;exact hall i x (by omega) hi
  try refine run ?_
  exact Xa [h] rfl rfl ⟨by rw[EP hno],rfl⟩
def jc(o:Option Ch):Wa:=match o with
 |none=>Wa.z
 |some c=>c.cfg
def Ni(o:Option Ch):Prop:=∀c,o=some c->Ag c
def Ni.none:Ni none:=λc h=>by cases h
def Ni.some{c:Ch}(ok:Ag c):Ni (some c):=λc' h=>by cases h;exact ok
def Fb(o:Option Ch):List Int:=match o with
 |none=>[]
 |some c=>c.all.map (·.nd)
def Oh{o:Option Ch}(ok:Ni o):(Fb o).length<=4:=by
 cases o with
 |none=>exact di _
 |some c=>
  have:=(ok c rfl).l4;show(c.all.map (·.nd)).length<=4;rw[bf];unfold Ch.all;rw[Eb];exact this
def Wx: ¬Md Wa.z:=λh=>absurd h.1.1 (by decide)
def Zj{o:Option Ch}(ok:Ni o):
  Ct prog 104 [.agg (List.toArray (jc o).enc)] [] (λr H'=>∃h',ia 3 (Fb o) r h'/\H'=[h']):=by
 cases o with
 |some c=>exact SQ (ok c rfl)
 |none=>
  have hr:=Bq Wa.z;rw[rj Wx] at hr;refine ce func104 λg R=>?_;repeat' first|refine rn ?_|refine Uc λ_=>?_|refine cq hr ?_
  refine D.Pe ?_;exact Xa [[]] rfl rfl ⟨[],ia.nil _,rfl⟩
def Gx(xs:List Int)(i:Int):Int:=if i<0\/(xs.length:Int)<=i then -1 else xs.getD i.toNat 0
def LM{xs:List Int}{v:Value}{h:Hp}(hs:Rs xs v h)(i:Int):
  Ct prog 105 [v,i] [h] (λr H'=>r= .int .i64 (Gx xs i)/\H'=[h]):=by
 refine ce func105 λg R=>?_;simp only[can];by_cases h0:i<0
 .have e:Gx xs i= -1:=by unfold Gx;rw[if_pos (.inl h0)]
  rw[e];try refine run ?_
  exact Wi [h]
 .by_cases h1:(xs.length:Int)<=i
  .have e:Gx xs i= -1:=by unfold Gx;rw[if_pos (.inr h1)]
   rw[e];try refine run ?_
   exact Wi [h]
  .obtain⟨x,hx⟩:∃x,xs[i.toNat]? =some x:=⟨_,Wg (by omega)⟩;have e:Gx xs i=x:=by unfold Gx;rw[if_neg (by omega),getD_eq_getElem?_getD,hx,Option.getD_some]
   rw[e];try refine run ?_
   exact Wi [h]
def U0{o:Option Ch}(ok:Ni o):0<=(jc o).n/\(jc o).n<=4:=by
 cases o with
 |none=>exact⟨by decide,by decide⟩
 |some c=>have:=(ok c rfl).l4;exact⟨Int.natCast_nonneg _,by show(c.ms.length:Int)<=4;omega⟩
def jr(o:Option Ch):Int:=Gx (Fb o) 0
def VU{o:Option Ch}(ok:Ni o):Ct prog 119 [.agg (List.toArray (jc o).enc)] [] (λr H'=>r= .int .i64 (jr o)/\H'=[]):=by
 refine ce func119 λg R=>?_;repeat' first|refine rn ?_|refine Uc λ_=>?_
 refine ck (Zj ok) ?_;rintro _ _ ⟨h1,hs1,rfl⟩;simp only[can];refine cq (LM hs1.rs 0) ?_;try refine run ?_
 exact Wi []
def Xp(o:Option Ch):Int:=Gx (Fb o) ((jc o).n - 1)
def WU{o:Option Ch}(ok:Ni o):Ct prog 108 [.agg (List.toArray (jc o).enc)] [] (λr H'=>r= .int .i64 (Xp o)/\H'=[]):=by
 have hn:=U0 ok;refine ce func108 λg R=>?_;repeat' first|refine rn ?_|refine Uc λ_=>?_
 rename_i cb;refine KK (ml [1,1,3,1]) [od cb (jc o)] ?_;try refine run ?_
 refine ck (Zj ok) ?_;rintro _ _ ⟨h1,hs1,rfl⟩;refine rn ?_;refine cq (LM hs1.rs ((jc o).n - 1)) ?_;try refine run ?_
 exact Wi []
def Nd(o:Option Ch)(n:Int):Int:=Gx (Fb o) (Rg (Fb o) n - 1)
def qk(xs:List Int)(k:Int): -1<=Rg xs k/\Rg xs k<=(xs.length:Int):=by
 unfold Rg
 cases h:xs.findIdx? (λp=>decide (p=k)) with
 |none=>simp only[];omega
 |some i=>have:=(List.findIdx?_eq_some_iff_getElem.1 h).1;simp only[];omega
def Ny{o:Option Ch}(ok:Ni o)(n:Int):Ct prog 28 [.agg (List.toArray (jc o).enc),n] [] (λr H'=>r= .int .i64 (Nd o n)/\H'=[]):=by
 have hl:=Oh ok;have hi:=qk (Fb o) n;refine ce func28 λg R=>?_;repeat' first|refine rn ?_|refine Uc λ_=>?_
 refine ck (Zj ok) ?_;rintro _ _ ⟨h1,hs1,rfl⟩;refine rn ?_;refine cq (Kt hs1.rs n (by omega)) ?_;try refine run ?_
 refine cq (LM hs1.rs (Rg (Fb o) n - 1)) ?_;try refine run ?_
 exact Wi []
def Vc(o:Option Ch)(n:Int):Int:=if Rg (Fb o) n<0 then -1 else Gx (Fb o) (Rg (Fb o) n+1)
def gv{o:Option Ch}(ok:Ni o)(n:Int):Ct prog 148 [.agg (List.toArray (jc o).enc),n] [] (λr H'=>r= .int .i64 (Vc o n)/\H'=[]):=by
 have hl:=Oh ok;have hi:=qk (Fb o) n;refine ce func148 λg R=>?_;repeat' first|refine rn ?_|refine Uc λ_=>?_
 refine ck (Zj ok) ?_;rintro _ _ ⟨h1,hs1,rfl⟩;refine rn ?_;refine cq (Kt hs1.rs n (by omega)) ?_;by_cases h0:Rg (Fb o) n<0
 .have e:Vc o n= -1:=if_pos h0;rw[e];try refine run ?_
  exact Wi []
 .have e:Vc o n=Gx (Fb o) (Rg (Fb o) n+1):=if_neg h0;rw[e];try refine run ?_
  refine cq (LM hs1.rs (Rg (Fb o) n+1)) ?_;try refine run ?_
  exact Wi []
def sk(o:Option Ch)(n:Int):Bool:=decide (0<=Rg (Fb o) n/\Rg (Fb o) n<(jc o).n)
def cI{o:Option Ch}(ok:Ni o)(n:Int):Ct prog 107 [.agg (List.toArray (jc o).enc),n] [] (λr H'=>r= .bool (sk o n)/\H'=[]):=by
 have hl:=Oh ok;have hi:=qk (Fb o) n;unfold sk;refine ce func107 λg R=>?_;repeat' first|refine rn ?_|refine Uc λ_=>?_
 refine ck (Zj ok) ?_;rintro _ _ ⟨h1,hs1,rfl⟩;refine rn ?_;refine cq (Kt hs1.rs n (by omega)) ?_;by_cases h0:0<=Rg (Fb o) n
 .by_cases h2:Rg (Fb o) n<(jc o).n
  .try refine run ?_
   exact Xa [] rfl rfl ⟨by simp[h0,h2],rfl⟩
  .try refine run ?_
   exact Xa [] rfl rfl ⟨by simp[h0,h2],rfl⟩
 .try refine run ?_
  exact Xa [] rfl rfl ⟨by simp[h0],rfl⟩
def Zb(o:Option Ch)(k:Int):Int:=match o with
 |none=>0
 |some c=>match c.all.findIdx? (λp=>decide (p.nd=k)) with
  |none=>0
  |some j=>(c.all.getD j Mem.z).sn
def Oy{ms:List Mem}{k:Int}:Rg (ms.map (·.nd)) k=wG ms k:=by unfold Rg wG;rw[List.findIdx?_map];rfl
def ov{o:Option Ch}(ok:Ni o)(k:Int):
  Ct prog 84 [.agg (List.toArray (jc o).enc),k] [] (λr H'=>r= .int .i64 (Zb o k)/\H'=[]):=by
 have hl:=Oh ok;refine ce func84 λg R=>?_;repeat' first|refine rn ?_|refine Uc λ_=>?_
 refine ck (Zj ok) ?_;rintro _ _ ⟨h1,hs1,rfl⟩;refine rn ?_;refine cq (Kt hs1.rs k (by omega)) ?_
 cases o with
 |none=>
  have e:Rg (Fb none) k= -1:=rfl;rw[e];try refine run ?_
  exact Wi []
 |some c=>
  have xb:=ok c rfl;rw[show Rg (Fb (some c)) k=wG c.all k from Oy]
  cases hf:c.all.findIdx? (λp=>decide (p.nd=k)) with
  |none=>
   have e:wG c.all k= -1:=by unfold wG;rw[hf]
   have e2:Zb (some c) k=0:=by unfold Zb;simp only[];rw[hf]
   rw[e,e2];try refine run ?_
   exact Wi []
  |some j=>
   have e:wG c.all k=(j:Int):=by unfold wG;rw[hf]
   obtain⟨hj,_⟩:=List.findIdx?_eq_some_iff_getElem.1 hf;obtain⟨m,hm⟩:=Lh hj;have e2:Zb (some c) k=m.sn:=by unfold Zb;simp only[];rw[hf];simp only[getD_eq_getElem?_getD,hm,Option.getD_some]
   rw[e,e2];try refine run ?_
   refine ck (Py xb) ?_;rintro _ _ ⟨h2,Sa,rfl⟩;have DU:=Sa.rs;refine rn ?_;exact Wi []
variable{k:Nat}
def mx(i j:Int):Int:=if j>i then j else i
def Lw(i j:Int):i<=mx i j/\j<=mx i j:=by unfold mx;split<;>omega
def V9.MM(f:Nat->Int):V9:=⟨f 0,f 1,f 2,f 3,f 4,f 5,f 6,f 7,f 8⟩
def V9.at(v:V9)(k:Nat):Int:=[v.a,v.b,v.c,v.d,v.e,v.f,v.g,v.h,v.i].getD k 0
def V0(f:Nat->Int)(k:Nat)(x:Int):Nat->Int:=λi=>if i=k then x else f i
def V9.Wd(v:V9)(h:k<9):v.enc[k]? =some (.int .i64 (v.at k)):=by
 rcases(by omega:k=0\/k=1\/k=2\/k=3\/k=4\/k=5\/k=6\/k=7\/k=8) with rfl|rfl|rfl|rfl|rfl|rfl|rfl|rfl|rfl<;>rfl
def V9.qv(f:Nat->Int)(h:k<9):(V9.MM f).at k=f k:=by
 rcases(by omega:k=0\/k=1\/k=2\/k=3\/k=4\/k=5\/k=6\/k=7\/k=8) with rfl|rfl|rfl|rfl|rfl|rfl|rfl|rfl|rfl<;>rfl
theorem V9.RK(v:V9):V9.MM v.at=v:=rfl
def V9.XU(f:Nat->Int)(h:k<9)(x:Int):(V9.MM f).enc.set k (x)=(V9.MM (V0 f k x)).enc:=by
 rcases(by omega:k=0\/k=1\/k=2\/k=3\/k=4\/k=5\/k=6\/k=7\/k=8) with rfl|rfl|rfl|rfl|rfl|rfl|rfl|rfl|rfl<;>rfl
def V9.zn{f g:Nat->Int}(h:∀i,i<9->f i=g i):V9.MM f=V9.MM g:=by
 unfold V9.MM;rw[h 0 (by decide),h 1 (by decide),h 2 (by decide),h 3 (by decide),h 4 (by decide),h 5 (by decide),h 6 (by decide),h 7 (by decide),h 8 (by decide)]
def V9.put(v:V9)(k:Nat)(x:Int):V9:=V9.MM (V0 v.at k x)
def V9.tj(v:V9)(h:k<9)(x:Int):v.enc.set k (x)=(v.put k x).enc:=V9.XU v.at h x
def Jf(a b:V9)(k:Nat):V9:=V9.MM λi=>if i<k then mx (a.at i) (b.at i) else a.at i
def tv(a b:V9):V9:=Jf a b 9
def TQ(a b:V9):Jf a b 0=a:=by unfold Jf;exact(V9.zn λi _=>if_neg (Nat.not_lt_zero _)).trans a.RK
def qO(a b:V9)(h:k<9):(Jf a b k).at k=a.at k:=by unfold Jf;rw[V9.qv _ h];exact if_neg (Nat.lt_irrefl _)
def SK(a b:V9)(h:k<9):(Jf a b k).put k (mx (a.at k) (b.at k))=Jf a b (k+1):=by
 unfold V9.put;show V9.MM _=V9.MM _;refine V9.zn λi hi=>?_;unfold V0 Jf;by_cases e:i=k
 .subst e;rw[if_pos rfl,if_pos (by omega)]
 .rw[if_neg e,V9.qv _ hi];by_cases h2:i<k
  .rw[if_pos h2,if_pos (by omega)]
  .rw[if_neg h2,if_neg (by omega)]
structure V3 where
 (a b c:Int)
 deriving DecidableEq
def V3.enc(v:V3):List Value:=[v.a,v.b,v.c]
def V3.z:V3:=⟨0,0,0⟩
def V3.at(v:V3)(k:Nat):Int:=[v.a,v.b,v.c].getD k 0
def V3.put(v:V3)(k:Nat)(x:Int):V3:=match k with
 |0=>⟨x,v.b,v.c⟩
 |1=>⟨v.a,x,v.c⟩
 |2=>⟨v.a,v.b,x⟩
 |_=>v
def V3.Wd(v:V3)(h:k<3):v.enc[k]? =some (.int .i64 (v.at k)):=by
 rcases(by omega:k=0\/k=1\/k=2) with rfl|rfl|rfl<;>rfl
def V3.tj(v:V3)(h:k<3)(x:Int):v.enc.set k (x)=(v.put k x).enc:=by
 rcases(by omega:k=0\/k=1\/k=2) with rfl|rfl|rfl<;>rfl
abbrev Tb(dc rg:Int):Prop:=0<=dc/\dc<3/\0<=rg/\rg<3
def ef(rg:Int)(c:V3)(e:ya):V3:=if e.rg=rg/\Tb e.dc rg then c.put e.dc.toNat (mx (c.at e.dc.toNat) e.sq) else c
def Bc(rg:Int)(es:List ya):V3:=es.foldl (ef rg) V3.z
def uv(rg:Int)(es:List ya)(e:ya):Bc rg (es++[e])=ef rg (Bc rg es) e:=by unfold Bc;rw[foldl_append];rfl
def og(v:V9)(rg:Int):V3:=if 0<=rg/\rg<3 then⟨v.at rg.toNat,v.at (3+rg.toNat),v.at (6+rg.toNat)⟩ else V3.z
abbrev Lt(a b:V3):Prop:=b.a<=a.a/\b.b<=a.b/\b.c<=a.c
def Fg(v:V9)(dc rg sq:Int):V9:=if Tb dc rg then v.put (dc.toNat*3+rg.toNat) (mx (v.at (dc.toNat*3+rg.toNat)) sq) else v
def yh(vs:List V9):V9:=vs.foldl tv V9.z
def kr(es:List ya):V9:=es.foldl (λo e=>yh [o,e.dp]) V9.z
def Mt(es:List ya):V9:=es.foldl (λo e=>Fg o e.dc e.rg e.sq) (kr es)
abbrev MC:Int:=1099511627776
abbrev Xi(v:V9):Prop:=∀i,i<9->0<=v.at i/\v.at i<=MC
abbrev ki(ct dc rg:Int):Prop:=1<=ct/\ct<=MC/\0<=dc/\dc<3/\0<=rg/\rg<3
structure ud(e:ya):Prop where
 ch:Tb e.dc e.rg
 sq:1<=e.sq/\e.sq<=MC
 st:ki e.ct e.sd e.sr
 sd:e.sd=e.dc
 sr:e.sr=e.rg
 key:1<=e.key.size/\e.key.size<=16
 val:e.val.size<=32
 dead:e.dead=true->e.val=ByteArray.empty
 dp:Xi e.dp
 own:e.dp.at (e.dc.toNat*3+e.rg.toNat)=e.sq - 1
 cl:0<=e.cl/\e.cl<4
 op:1<=e.op/\e.op<=MC
instance(v:V9):Decidable (Xi v):=Nat.decidableBallLT 9 λi _=>0<=v.at i/\v.at i<=MC
instance(e:ya):Decidable (ud e):=decidable_of_iff (Tb e.dc e.rg/\(1<=e.sq/\e.sq<=MC)/\ki e.ct e.sd e.sr/\e.sd=e.dc/\e.sr=e.rg/\(1<=e.key.size/\e.key.size<=16)/\e.val.size<=32/\
  (e.dead=true->e.val=ByteArray.empty)/\Xi e.dp/\e.dp.at (e.dc.toNat*3+e.rg.toNat)=e.sq - 1/\(0<=e.cl/\e.cl<4)/\(1<=e.op/\e.op<=MC))
 ⟨λ⟨a,b,c,d,e,f,g,h,i,j,k,l⟩=>⟨a,b,c,d,e,f,g,h,i,j,k,l⟩,λ⟨a,b,c,d,e,f,g,h,i,j,k,l⟩=>⟨a,b,c,d,e,f,g,h,i,j,k,l⟩⟩
def Je(xs:List Int):Int:=xs.foldl mx 0
def Sf(xs:List Int):Int:=(if MC<Je xs then MC else Je xs)+1
def TK{vs:List Value}:∀{Zc:List It} {C:Cd},(∀it∈Zc,∃u e,vs[it.o]? =some u/\encI it u=some e/\Ij it u=false)->
  (Zc.foldl (Ud vs) C).arg=C.arg/\(Zc.foldl (Ud vs) C).Bd=C.Bd:=by
 intro Zc
 induction Zc with
 |nil=>intro C _;exact⟨rfl,rfl⟩
 |cons it r ih=>
  intro C h;obtain⟨u,e,h1,h2,h3⟩:=h it (qf ..);obtain⟨h4,h5⟩:=ih (C:=Ud vs C it) (λx hx=>h x (Vn _ hx));rw[foldl_cons,h4,h5];unfold Ud;rw[h1];simp[h2,h3]
def tc{o:Nat}{x:Int}(h1:0<=x)(h2:x<=MC):encI (.num o) (x)=some (Ed x.toNat):=by
 rw[Eh,if_neg (by simp only[MC] at h2;omega)]
def iF{r:Rec}(hk:r.known=true)(hb:r.bare=r)(key:∀it∈Rec.Zc r.k,∃u e,r.enc[it.o]? =some u/\encI it u=some e/\Ij it u=false):r.code=0:=by
 obtain⟨h1,h2⟩:=TK (C:={}) key;have h3:r.w.arg=((((Rec.Zc r.k).foldl (Ud r.enc) {}).arg|| !r.known)|| !decide (r.bare=r)):=rfl;have h4:r.w.Bd=((Rec.Zc r.k).foldl (Ud r.enc) {}).Bd:=rfl;rw[h1,hk,hb,Mi rfl] at h3;rw[h2] at h4;unfold Rec.code ni;rw[if_neg (by rw[h3];decide),if_neg (by rw[h4];decide)]
def Km(e:ya):Rec:=⟨1,e,Wa.z,0⟩
def ee(c:Wa)(b:Int):Rec:=⟨2,ya.z,c,b⟩
def jF{e:ya}(h:ud e):(Km e).code=0:=by
 refine iF rfl rfl λit hit=>?_;rw[show Rec.Zc (Km e).k=[.num 0,.num 1,.num 2,.num 3,.num 4,.num 5,.num 6,.Bj 7 16,.Bj 8 32,.Xn 9,.num 10,.num 11,.num 12,.num 13,.num 14,.num 15,.num 16,.num 17,.num 18,.num 19,.num 20] from rfl] at hit;simp only[mem_cons,not_mem_nil,or_false] at hit;rcases hit with rfl|rfl|rfl|rfl|rfl|rfl|rfl|rfl|rfl|rfl|rfl|rfl|rfl|rfl|rfl|rfl|rfl|rfl|rfl|rfl|rfl
 .exact⟨_,_,rfl,tc (x:=1) (by decide) (by decide),rfl⟩
 .exact⟨_,_,rfl,tc (x:=e.dc) (h.ch.1) (by have:=h.ch.2.1;simp only[MC];omega),rfl⟩
 .exact⟨_,_,rfl,tc (x:=e.rg) (h.ch.2.2.1) (by have:=h.ch.2.2.2;simp only[MC];omega),rfl⟩
 .exact⟨_,_,rfl,tc (x:=e.sq) (by have:=h.sq.1;omega) (h.sq.2),rfl⟩
 .exact⟨_,_,rfl,tc (x:=e.ct) (by have:=h.st.1;omega) (h.st.2.1),rfl⟩
 .exact⟨_,_,rfl,tc (x:=e.sd) (h.st.2.2.1) (by have:=h.st.2.2.2.1;simp only[MC];omega),rfl⟩
 .exact⟨_,_,rfl,tc (x:=e.sr) (h.st.2.2.2.2.1) (by have:=h.st.2.2.2.2.2;simp only[MC];omega),rfl⟩
 .exact⟨_,_,rfl,rfl,by show decide (16<e.key.data.toList.length)=false;rw[show e.key.data.toList.length=e.key.size from Array.length_toList];exact rj (by have:=h.key.2;omega)⟩
 .exact⟨_,_,rfl,rfl,by show decide (32<e.val.data.toList.length)=false;rw[show e.val.data.toList.length=e.val.size from Array.length_toList];exact rj (by have:=h.val;omega)⟩
 .exact⟨_,_,rfl,rfl,rfl⟩
 .exact⟨_,_,rfl,tc (x:=e.dp.at 0) ((h.dp 0 (by decide)).1) ((h.dp 0 (by decide)).2),rfl⟩
 .exact⟨_,_,rfl,tc (x:=e.dp.at 1) ((h.dp 1 (by decide)).1) ((h.dp 1 (by decide)).2),rfl⟩
 .exact⟨_,_,rfl,tc (x:=e.dp.at 2) ((h.dp 2 (by decide)).1) ((h.dp 2 (by decide)).2),rfl⟩
 .exact⟨_,_,rfl,tc (x:=e.dp.at 3) ((h.dp 3 (by decide)).1) ((h.dp 3 (by decide)).2),rfl⟩
 .exact⟨_,_,rfl,tc (x:=e.dp.at 4) ((h.dp 4 (by decide)).1) ((h.dp 4 (by decide)).2),rfl⟩
 .exact⟨_,_,rfl,tc (x:=e.dp.at 5) ((h.dp 5 (by decide)).1) ((h.dp 5 (by decide)).2),rfl⟩
 .exact⟨_,_,rfl,tc (x:=e.dp.at 6) ((h.dp 6 (by decide)).1) ((h.dp 6 (by decide)).2),rfl⟩
 .exact⟨_,_,rfl,tc (x:=e.dp.at 7) ((h.dp 7 (by decide)).1) ((h.dp 7 (by decide)).2),rfl⟩
 .exact⟨_,_,rfl,tc (x:=e.dp.at 8) ((h.dp 8 (by decide)).1) ((h.dp 8 (by decide)).2),rfl⟩
 .exact⟨_,_,rfl,tc (x:=e.cl) (h.cl.1) (by have:=h.cl.2;simp only[MC];omega),rfl⟩
 .exact⟨_,_,rfl,tc (x:=e.op) (by have:=h.op.1;omega) (h.op.2),rfl⟩
def rO{c:Ch}(ok:Ag c){b:Int}(b0:0<=b)(b1:b<=MC):(ee c.cfg b).code=0:=by
 have e1:=ok.e1;have e2:=ok.e2;have h4:=ok.l4
 have hz:∀k,(0<=(c.ms.getD k Mem.z).nd/\(c.ms.getD k Mem.z).nd<=MC)/\0<=(c.ms.getD k Mem.z).sn/\(c.ms.getD k Mem.z).sn<=MC:=λk=>by
  rw[getD_eq_getElem?_getD]
  cases h:c.ms[k]? with
  |none=>exact⟨⟨by decide,by decide⟩,by decide,by decide⟩
  |some m=>
   have:=ok.rg m (mem_append_left _ (mem_of_getElem? h));simp only[MC,Option.getD_some];omega
 have hl:(0<=(c.ln.getD Mem.z).nd/\(c.ln.getD Mem.z).nd<=MC)/\0<=(c.ln.getD Mem.z).sn/\(c.ln.getD Mem.z).sn<=MC:=by
  cases h:c.ln with
  |none=>exact⟨⟨by decide,by decide⟩,by decide,by decide⟩
  |some m=>
   have:=ok.rg m (mem_append_right _ (by rw[h];simp));simp only[MC,Option.getD_some];omega
 refine iF rfl rfl λit hit=>?_;rw[show Rec.Zc (ee c.cfg b).k=[.num 0,.num 21,.num 22,.num 23,.num 24,.num 25,.num 26,.num 27,.num 28,.num 29,.num 30,.Xn 31,.num 32,.num 33,.num 34] from rfl] at hit;simp only[mem_cons,not_mem_nil,or_false] at hit;rcases hit with rfl|rfl|rfl|rfl|rfl|rfl|rfl|rfl|rfl|rfl|rfl|rfl|rfl|rfl|rfl
 .exact⟨_,_,rfl,tc (x:=2) (by decide) (by decide),rfl⟩
 .exact⟨_,_,rfl,tc (x:=c.ep) (by omega) (by simp only[MC];omega),rfl⟩
 .exact⟨_,_,rfl,tc (x:=(c.ms.length:Int)) (by omega) (by simp only[MC];omega),rfl⟩
 .exact⟨_,_,rfl,tc (hz 0).1.1 (hz 0).1.2,rfl⟩
 .exact⟨_,_,rfl,tc (hz 0).2.1 (hz 0).2.2,rfl⟩
 .exact⟨_,_,rfl,tc (hz 1).1.1 (hz 1).1.2,rfl⟩
 .exact⟨_,_,rfl,tc (hz 1).2.1 (hz 1).2.2,rfl⟩
 .exact⟨_,_,rfl,tc (hz 2).1.1 (hz 2).1.2,rfl⟩
 .exact⟨_,_,rfl,tc (hz 2).2.1 (hz 2).2.2,rfl⟩
 .exact⟨_,_,rfl,tc (hz 3).1.1 (hz 3).1.2,rfl⟩
 .exact⟨_,_,rfl,tc (hz 3).2.1 (hz 3).2.2,rfl⟩
 .exact⟨_,_,rfl,rfl,rfl⟩
 .exact⟨_,_,rfl,tc hl.1.1 hl.1.2,rfl⟩
 .exact⟨_,_,rfl,tc hl.2.1 hl.2.2,rfl⟩
 .exact⟨_,_,rfl,tc b0 b1,rfl⟩
structure CS where
 (dc rg nd:Int)
 co:Option Ch
 (sn bs:Int)
 lg:List ya
 (du st ak ow:Int)
 su:Bool
def CS.new(dc rg nd:Int):CS:=⟨dc,rg,nd,none,0,0,[],0,0,0,0,false⟩
def CS.len(s:CS):Int:=(s.lg.length:Int)
structure Ob(s:CS):Prop where
 co:Ni s.co
 bs:0<=s.bs/\s.bs<=s.du
 du:0<=s.du/\s.du<=s.len
 len:s.lg.length<=256
 es:∀e∈s.lg,ud e
def Ob.new(dc rg nd:Int):Ob (CS.new dc rg nd):=⟨Ni.none,⟨Int.le_refl 0,Int.le_refl 0⟩,⟨Int.le_refl 0,Int.le_refl 0⟩,di _,λe h=>by cases h⟩
abbrev CS.last(s:CS):Prop:=0<=s.nd/\Xp s.co=s.nd
abbrev CS.head(s:CS):Prop:=0<=s.nd/\jr s.co=s.nd
def CS.settle(s:CS):CS:=
 if s.last then(if(jc s.co).jo=false then{s with su:=true,st:=s.du} else if s.su=true then{s with st:=mx s.st s.bs} else s) else s
def Na(s:CS):s.settle.dc=s.dc/\s.settle.rg=s.rg/\s.settle.nd=s.nd/\s.settle.co=s.co/\s.settle.sn=s.sn/\s.settle.bs=s.bs/\s.settle.lg=s.lg/\s.settle.du=s.du/\s.settle.ak=s.ak/\s.settle.ow=s.ow:=by
 unfold CS.settle;split
 .split
  .simp
  .split<;>simp
 .simp
def Ob.settle{s:CS}(ok:Ob s):Ob s.settle:=by
 obtain⟨-,-,-,h4,-,h6,h7,h8,-,-⟩:=Na s;have hl:s.settle.len=s.len:=by unfold CS.len;rw[h7]
 exact⟨by rw[h4];exact ok.co,by rw[h6,h8];exact ok.bs,by rw[h8,hl];exact ok.du,by rw[h7];exact ok.len,by rw[h7];exact ok.es⟩
def CS.Tc(s:CS)(x:Wa):CS:=
 if Zb (some (ff x)) s.nd≠0/\Zb (some (ff x)) s.nd≠s.sn then⟨s.dc,s.rg,s.nd,some (ff x),Zb (some (ff x)) s.nd,0,[],0,0,0,0,true⟩
 else⟨s.dc,s.rg,s.nd,some (ff x),s.sn,s.len,s.lg,s.len,s.st,0,0,true⟩
def CS.qi(s:CS)(x:Wa):Bool:=decide (Zb (some (ff x)) s.nd≠0/\Zb (some (ff x)) s.nd≠s.sn)
def CS.enter(s:CS)(x:Wa):(Bool×Int)×CS:=
 if ¬Md x then((false,1),s) else if x.ep<=(jc s.co).ep then((false,80),s) else((s.qi x,0),(s.Tc x).settle)
def Ob.Tc{s:CS}(ok:Ob s){x:Wa}(h:Md x):Ob (s.Tc x):=by
 unfold CS.Tc;split
 .exact⟨Ni.some h.2.2,⟨Int.le_refl 0,Int.le_refl 0⟩,⟨Int.le_refl 0,Int.le_refl 0⟩,di _,λe h=>by cases h⟩
 .exact⟨Ni.some h.2.2,⟨Int.natCast_nonneg _,Int.le_refl _⟩,⟨Int.natCast_nonneg _,Int.le_refl _⟩,ok.len,ok.es⟩
def Ob.enter{s:CS}(ok:Ob s)(x:Wa):Ob (s.enter x).2:=by
 unfold CS.enter;split
 .exact ok
 .rename_i h;split
  .exact ok
  .exact(ok.Tc (Classical.not_not.1 h)).settle
def Re(es:List ya)(cl op:Int):Int:=match es.findIdx? (λe=>decide (e.cl=cl/\e.op=op)) with
 |none=>0
 |some i=>(i:Int)+1
def CS.push(s:CS)(e:ya):CS:={s with lg:=s.lg++[e]}
def Ob.push{s:CS}(ok:Ob s)(hl:s.lg.length<256){e:ya}(he:ud e):Ob (s.push e):=by
 have h:(s.push e).len=s.len+1:=by unfold CS.push CS.len;simp
 refine⟨ok.co,ok.bs,⟨ok.du.1,by have:=ok.du.2;rw[h];show s.du<=_;omega⟩,by unfold CS.push;simp;omega,λx hx=>?_⟩;rcases mem_append.1 hx with hx|hx
 .exact ok.es x hx
 .rw[mem_singleton.1 hx];exact he
def CS.entry(s:CS)(key val:ByteArray)(dead:Bool)(deps:V9)(clock cl op:Int):ya:=
 ⟨s.dc,s.rg,(Bc s.rg s.lg).at s.dc.toNat+1,Sf (clock::s.lg.map (·.ct)),s.dc,s.rg,key,val,dead,yh [deps,Mt s.lg],cl,op⟩
abbrev CS.Yn(s:CS)(deps:V9):Prop:=Lt (Bc s.rg s.lg) (og deps s.rg)
abbrev CS.Rr(s:CS)(clock:Int):Prop:=ki (Sf (clock::s.lg.map (·.ct))) s.dc s.rg
def CS.Zf(s:CS)(key val:ByteArray)(dead:Bool)(deps:V9)(clock cl op:Int):(Int×Int)×CS:=
 if ¬s.head then((0,90),s)
 else if 0<Re s.lg cl op then((Re s.lg cl op,0),s)
 else if ¬s.Yn deps then((0,91),s)
 else if 256<=s.len\/ ¬s.Rr clock then((0,2),s)
 else if ¬ud (s.entry key val dead deps clock cl op) then((0,1),s)
 else((s.len+1,0),(s.push (s.entry key val dead deps clock cl op)).settle)
def CS.Xb(s:CS)(e:ya):Int×CS:=
 if ¬s.head then(90,s)
 else if ¬ud e\/e.rg≠s.rg\/e.dc=s.dc then(1,s)
 else if e.sq<=(Bc s.rg s.lg).at e.dc.toNat then(80,s)
 else if e.sq>(Bc s.rg s.lg).at e.dc.toNat+1 then(91,s)
 else if ¬s.Yn e.dp then(91,s)
 else if 256<=s.len then(2,s)
 else(0,(s.push e).settle)
abbrev CS.takes(s:CS)(from_ ep ix:Int)(e:ya):Prop:=ep=(jc s.co).ep/\0<=from_/\from_=Nd s.co s.nd/\ix=s.len+1/\ud e/\s.len<256
def CS.take(s:CS)(from_ ep ix:Int)(e:ya):Bool×CS:=
 if s.takes from_ ep ix e then(true,(s.push e).settle) else(false,s)
def CS.sync(s:CS):CS:=({s with du:=s.len}:CS).settle
def mn(i j:Int):Int:=if j<i then j else i
def CS.Pb(s:CS)(from_ d t:Int):CS:=
 if sk s.co from_=true then{s with ak:=mx s.ak d,st:=mx s.st t}
 else if s.su=true\/s.ow<=d then{s with ak:=mx s.ak d,su:=true,st:=mx (mx s.st s.bs) d}
 else{s with ak:=mx s.ak d}
def CS.heard(s:CS)(from_ ep du st:Int):Bool×CS:=
 if ep=(jc s.co).ep/\0<=from_/\from_=Vc s.co s.nd then(true,(s.Pb from_ (mn du s.du) (mn st s.du)).settle) else(false,s)
def CS.pg(dc rg nd:Int)(x:Wa)(sn bs:Int)(es:List ya):CS:=
 ⟨dc,rg,nd,if Md x then some (ff x) else none,sn,mx 0 (mn bs (es.length:Int)),es,(es.length:Int),0,0,(es.length:Int),false⟩
def CS.restore(dc rg nd:Int)(x:Wa)(sn bs:Int)(es:List ya):CS:=(CS.pg dc rg nd x sn bs es).settle
def Ob.restore{dc rg nd:Int}{x:Wa}{sn bs:Int}{es:List ya}(hl:es.length<=256)(he:∀e∈es,ud e):Ob (CS.restore dc rg nd x sn bs es):=by
 refine Ob.settle ⟨λc hc=>?_,?_,⟨Int.natCast_nonneg _,Int.le_refl _⟩,hl,he⟩
 .unfold CS.pg at hc;simp only[] at hc;split at hc
  .rename_i h;cases hc;exact h.2.2
  .cases hc
 .show 0<=mx 0 (mn bs (es.length:Int))/\mx 0 (mn bs (es.length:Int))<=(es.length:Int);unfold mx mn;split<;>split<;>omega
def Ob.put{s:CS}(ok:Ob s)(key val:ByteArray)(dead:Bool)(deps:V9)(clock cl op:Int):Ob (s.Zf key val dead deps clock cl op).2:=by
 unfold CS.Zf;repeat' split
 all_goals first|exact ok|skip
 rename_i h1 h2;exact(ok.push (by simp only[not_or,CS.len] at h1;omega) (Classical.not_not.1 h2)).settle
def Ob.Xb{s:CS}(ok:Ob s)(e:ya):Ob (s.Xb e).2:=by
 unfold CS.Xb;repeat' split
 all_goals first|exact ok|skip
 rename_i h1 _ _ _ h2;simp only[not_or,Classical.not_not] at h1;exact(ok.push (by simp only[CS.len] at h2;omega) h1.1).settle
def Ob.take{s:CS}(ok:Ob s)(f ep ix:Int)(e:ya):Ob (s.take f ep ix e).2:=by
 unfold CS.take;split
 .rename_i h;exact(ok.push (by have:=h.2.2.2.2.2;simp only[CS.len] at this;omega) h.2.2.2.2.1).settle
 .exact ok
def Te(s:CS)(f d t:Int):(s.Pb f d t).dc=s.dc/\(s.Pb f d t).rg=s.rg/\(s.Pb f d t).nd=s.nd/\(s.Pb f d t).co=s.co/\(s.Pb f d t).sn=s.sn/\(s.Pb f d t).bs=s.bs/\(s.Pb f d t).lg=s.lg/\(s.Pb f d t).du=s.du/\(s.Pb f d t).ow=s.ow:=by
 unfold CS.Pb;repeat' split
 all_goals simp
def Ob.heard{s:CS}(ok:Ob s)(f ep du st:Int):Ob (s.heard f ep du st).2:=by
 unfold CS.heard;split
 .obtain⟨-,-,-,h4,-,h6,h7,h8,-⟩:=Te s f (mn du s.du) (mn st s.du);have hl:(s.Pb f (mn du s.du) (mn st s.du)).len=s.len:=by unfold CS.len;rw[h7]
  exact Ob.settle ⟨by rw[h4];exact ok.co,by rw[h6,h8];exact ok.bs,by rw[h8,hl];exact ok.du,by rw[h7];exact ok.len,by rw[h7];exact ok.es⟩
 .exact ok
instance:Qb V9:=⟨9,V9.enc,λ_=>rfl,λ_=>rfl,by decide⟩
instance:Qb ya:=⟨20,ya.enc,λ_=>rfl,λ_=>rfl,by decide⟩
abbrev Ra(b:Nat)(v:V9):Hp:=[(b,.cells (List.toArray v.enc) 47 (0,0))]
abbrev Mc(b:Nat)(v:V3):Hp:=[(b,.cells (List.toArray v.enc) 50 (0,0))]
abbrev Gb(b:Nat)(e:ya):Hp:=[(b,.cells (List.toArray e.enc) 49 (0,0))]
def fk(dc rg:Int):Ct prog 117 [dc,rg] [] (λr H'=>r= .bool (decide (Tb dc rg))/\H'=[]):=by
 refine ce func117 λg R=>?_;simp only[can];by_cases h0:0<=dc
 .by_cases h1:dc<3
  .by_cases h2:0<=rg
   .try refine run ?_
    exact Xa [] rfl rfl ⟨by simp[h0,h1,h2],rfl⟩
   .try refine run ?_
    exact Xa [] rfl rfl ⟨by simp[h0,h1,h2],rfl⟩
  .try refine run ?_
   exact Xa [] rfl rfl ⟨by simp[h0,h1],rfl⟩
 .try refine run ?_
  exact Xa [] rfl rfl ⟨by simp[h0],rfl⟩
def kF(ct dc rg:Int):Ct prog 228 [.agg (List.toArray [ct,dc,rg])] [] (λr H'=>r= .bool (decide (ki ct dc rg))/\H'=[]):=by
 refine ce func228 λg R=>?_;simp only[can];by_cases h0:1<=ct
 .by_cases h1:ct<=1099511627776
  .by_cases h2:0<=dc
   .by_cases h3:dc<3
    .by_cases h4:0<=rg
     .repeat' first|refine run ?_|refine Uc λ_=>?_
      exact Xa [] rfl rfl ⟨by simp[h0,h1,h2,h3,h4],rfl⟩
     .repeat' first|refine run ?_|refine Uc λ_=>?_
      exact Xa [] rfl rfl ⟨by simp[h0,h1,h2,h3,h4],rfl⟩
    .repeat' first|refine run ?_|refine Uc λ_=>?_
     exact Xa [] rfl rfl ⟨by simp[h0,h1,h2,h3],rfl⟩
   .repeat' first|refine run ?_|refine Uc λ_=>?_
    exact Xa [] rfl rfl ⟨by simp[h0,h1,h2],rfl⟩
  .repeat' first|refine run ?_|refine Uc λ_=>?_
   exact Xa [] rfl rfl ⟨by simp[h0,h1],rfl⟩
 .repeat' first|refine run ?_|refine Uc λ_=>?_
  exact Xa [] rfl rfl ⟨by simp[h0],rfl⟩
def V9.row(v:V9)(d:Nat):List Value:=[.int .i64 (v.at (3*d)),.int .i64 (v.at (3*d+1)),.int .i64 (v.at (3*d+2))]
def V9.LX(v:V9){d:Nat}(h:d<3):(v.enc.drop (d*3)).take 3=v.row d:=by
 rcases(by omega:d=0\/d=1\/d=2) with rfl|rfl|rfl<;>rfl
def V9.MX(v:V9)(d:Nat){r:Nat}(h:r<3):(v.row d)[r]? =some (.int .i64 (v.at (3*d+r))):=by
 rcases(by omega:r=0\/r=1\/r=2) with rfl|rfl|rfl<;>rfl
def sO(v:V9):Ct prog 229 [.agg (List.toArray v.enc)] [] (λr H'=>r= .bool (decide (Xi v))/\H'=[]):=by
 refine ce func229 λg R=>?_;repeat' first|refine rn ?_|refine Uc λ_=>?_
 refine W.lo (α:=Nat) (λd=>d<=3/\∀i,i<3*d->0<=v.at i/\v.at i<=MC) (λd=>[(7,.agg (List.toArray v.enc)),(8,.int .i64 (d:Int))]) (λ_=>[R]) (λd=>3 - d) 0 ⟨di _,λi hi=>absurd hi (Nat.not_lt_zero _)⟩ ?_;rintro d ⟨hd,hall⟩;by_cases hlt:d<3
 .have hrow:=v.LX hlt;try refine run ?_
  refine WX.ixA rfl rfl hlt hrow rfl ?_;repeat' first|refine run ?_|refine al λ_=>?_
  refine W.lo (α:=Nat) (λr=>r<=3/\∀i,i<3*d+r->0<=v.at i/\v.at i<=MC) (λr=>[(7,.agg (List.toArray v.enc)),(8,.int .i64 (d:Int)),(11,.agg (List.toArray (v.row d))),(12,.int .i64 (r:Int))]) (λ_=>[R]) (λr=>3 - r) 0 ⟨di _,hall⟩ ?_;rintro r ⟨hr,dI⟩;by_cases hlr:r<3
  .have hel:=v.MX d hlr;generalize hx:v.at (3*d+r)=x at hel;by_cases hg:0<=x/\x<=1099511627776
   .obtain⟨g1,g2⟩:=hg;try refine run ?_
    refine WX.W0 rfl rfl hlr hel rfl ?_;try refine run ?_
    refine D.rd (r+1) ⟨by omega,λi hi=>?_⟩ (by omega);rcases Nat.lt_or_ge i (3*d+r) with h|h
    .exact dI i h
    .obtain rfl:i=3*d+r:=by omega
     rw[hx];exact⟨g1,g2⟩
   .have hno: ¬Xi v:=λh=>hg (by have:=h (3*d+r) (by omega);rw[hx] at this;exact this);by_cases g1:x<0
    .try refine run ?_
     refine WX.W0 rfl rfl hlr hel rfl ?_;try refine run ?_
     exact Xa [] rfl rfl ⟨by rw[rj hno],rfl⟩
    .have g2:1099511627776<x:=by omega
     try refine run ?_
     refine WX.W0 rfl rfl hlr hel rfl ?_;try refine run ?_
     exact Xa [] rfl rfl ⟨by rw[rj hno],rfl⟩
  .obtain rfl:r=3:=by omega
   try refine run ?_
   exact D.rd (d+1) ⟨by omega,λi hi=>dI i (by omega)⟩ (by omega)
 .obtain rfl:d=3:=by omega
  try refine run ?_
  exact Xa [] rfl rfl ⟨by rw[Mi (show Xi v from hall)],rfl⟩
variable{vs:List V9}{i:Nat}{u:Value}
def fI{x:V9}(h:vs[i]? =some x):yh (vs.take (i+1))=tv (yh (vs.take i)) x:=by
 unfold yh;rw[take_add_one,h,foldl_append];rfl
def Ry(hs:Rs vs u h)(hl:vs.length<=1000000):
  Ct prog 272 [u] [h] (λr H'=>r= .agg (List.toArray (yh vs).enc)/\H'=[h]):=by
 refine ce func272 λg R=>?_;repeat' first|refine rn ?_|refine al λ_=>?_
 rename_i b2 b3;refine W.h0 [Ra b3 (yh (vs.take 0)),Ra b2 V9.z,h,R] ?_;refine W.lo (α:=Nat) (λi=>i<=vs.length) (λi=>[(2,b2),(3,b3),(8,u),(9,.int .i64 (vs.length:Int)),(10,.int .i64 (i:Int))]) (λi=>[Ra b3 (yh (vs.take i)),Ra b2 V9.z,h,R]) (λi=>vs.length - i) 0 (di _) ?_;intro i hi;by_cases hlt:i<vs.length
 .obtain⟨x,hx⟩:=Lh hlt;have Qe:=fI hx;generalize yh (vs.take i)=o at Qe⊢;repeat' first|refine run ?_|refine al λ_=>?_
  rename_i b5;refine W.hp (H':=[Ra b5 x,Ra b3 (Jf o x (3*0)),Ra b2 V9.z,h,R]) (by rw[TQ];rfl) ?_;refine W.lo (α:=Nat) (λd=>d<=3) (λd=>[(2,b2),(3,b3),(5,b5),(8,u),(9,.int .i64 (vs.length:Int)),(10,.int .i64 (i:Int)),(14,.int .i64 (d:Int))]) (λd=>[Ra b5 x,Ra b3 (Jf o x (3*d)),Ra b2 V9.z,h,R]) (λd=>3 - d) 0 (di _) ?_;intro d hd;by_cases hld:d<3
  .try refine run ?_
   refine W.lo (α:=Nat) (λr=>r<=3) (λr=>[(2,b2),(3,b3),(5,b5),(6,.int .i64 (d:Int)),(8,u),(9,.int .i64 (vs.length:Int)),(10,.int .i64 (i:Int)),(14,.int .i64 (d:Int)),(17,.int .i64 (r:Int))]) (λr=>[Ra b5 x,Ra b3 (Jf o x (3*d+r)),Ra b2 V9.z,h,R]) (λr=>3 - r) 0 (di _) ?_;intro r hr;by_cases hlr:r<3
   .have hk:3*d+r<9:=by omega
    have e0:0+((d:Nat):Int).toNat*3+((r:Nat):Int).toNat*1=3*d+r:=by show 0+d*3+r*1=_;omega
    have g1:(Jf o x (3*d+r)).enc[0+((d:Nat):Int).toNat*3+((r:Nat):Int).toNat*1]? =some (.int .i64 (o.at (3*d+r))):=by rw[e0,V9.Wd _ hk,qO _ _ hk]
    have g2:x.enc[0+((d:Nat):Int).toNat*3+((r:Nat):Int).toNat*1]? =some (.int .i64 (x.at (3*d+r))):=by rw[e0,V9.Wd _ hk]
    have g3:(Jf o x (3*d+r)).enc.set (0+((d:Nat):Int).toNat*3+((r:Nat):Int).toNat*1) (.int .i64 (mx (o.at (3*d+r)) (x.at (3*d+r))))=(Jf o x (3*d+(r+1))).enc:=by rw[e0,V9.tj _ hk,SK _ _ hk];rfl
    have g4:Nat.blt (0+((d:Nat):Int).toNat*3+((r:Nat):Int).toNat*1) (Jf o x (3*d+r)).enc.length=true:=Nat.ble_eq_true_of_le (by rw[e0];show 3*d+r+1<=9;omega);try refine run ?_
    refine KK (ml [15]) [Ra b5 x,Ra b3 (Jf o x (3*d+r))] ?_;repeat' first|refine run ?_|refine lN x.enc _ rfl ?_ (hc:=g2)|refine lN (Jf o x (3*d+r)).enc _ rfl ?_ (hc:=g1)
    refine ei (Jf o x (3*d+r)).enc (Jf o x (3*d+(r+1))).enc ?_ (e:=g3) (hb:=g4);try refine run ?_
    exact D.re (r+1)
   .obtain rfl:r=3:=by omega
    try refine run ?_
    exact D.re (d+1)
  .obtain rfl:d=3:=by omega
   rw[show Jf o x (3*3)=yh (vs.take (i+1)) by rw[Qe];rfl];try refine run ?_
   exact D.re (i+1)
 .obtain rfl:i=vs.length:=by omega
  rw[take_length];generalize yh vs=o;try refine run ?_
  exact D.Gc [h] _ rfl (.Va rfl rfl .nil) ⟨rfl,rfl⟩
structure Dt where
 (dc rg sq:Int)
def Dt.enc(d:Dt):List Value:=[d.dc,d.rg,d.sq]
instance:Qb Dt:=⟨3,Dt.enc,λ_=>rfl,λ_=>rfl,by decide⟩
abbrev X0(b:Nat)(d:Dt):Hp:=[(b,.cells (List.toArray d.enc) 42 (0,0))]
def Ap(v:V9)(ds:List Dt):V9:=ds.foldl (λo d=>Fg o d.dc d.rg d.sq) v
def UK{v:V9}{ds:List Dt}{x:Dt}(h:ds[i]? =some x):Ap v (ds.take (i+1))=Fg (Ap v (ds.take i)) x.dc x.rg x.sq:=by
 unfold Ap;rw[take_add_one,h,foldl_append];rfl
def gI(v:V9){ds:List Dt}(hs:Rs ds u h)(hl:ds.length<=1000000):
  Ct prog 160 [.agg (List.toArray v.enc),u] [h] (λr H'=>r= .agg (List.toArray (Ap v ds).enc)/\H'=[h]):=by
 refine ce func160 λg R=>?_;repeat' first|refine rn ?_|refine Uc λ_=>?_|refine al λ_=>?_
 rename_i b2 b4;refine W.h0 [Ra b4 V9.z,Ra b2 (Ap v (ds.take 0)),h,R] ?_;refine W.lo (α:=Nat) (λi=>i<=ds.length) (λi=>[(2,b2),(4,b4),(7,u),(8,.int .i64 (ds.length:Int)),(9,.int .i64 (i:Int))]) (λi=>[Ra b2 (Ap v (ds.take i)),Ra b4 V9.z,h,R]) (λi=>ds.length - i) 0 (di _) ?_;intro i hi;by_cases hlt:i<ds.length
 .obtain⟨x,hx⟩:=Lh hlt;have Qe:=UK (v:=v) hx;generalize Ap v (ds.take i)=o at Qe⊢;have hch:=fk x.dc x.rg;by_cases hD:Tb x.dc x.rg
  .rw[Mi hD] at hch;rw[show Fg o x.dc x.rg x.sq=_ from if_pos hD] at Qe;obtain⟨c1,c2,c3,c4⟩:=hD;have hk:x.dc.toNat*3+x.rg.toNat<9:=by omega
   have e0:0+x.dc.toNat*3+x.rg.toNat*1=x.dc.toNat*3+x.rg.toNat:=by omega
   have g1:o.enc[0+x.dc.toNat*3+x.rg.toNat*1]? =some (.int .i64 (o.at (x.dc.toNat*3+x.rg.toNat))):=by rw[e0,V9.Wd _ hk]
   have g3:o.enc.set (0+x.dc.toNat*3+x.rg.toNat*1) (.int .i64 (mx (o.at (x.dc.toNat*3+x.rg.toNat)) x.sq))=(Ap v (ds.take (i+1))).enc:=by rw[e0,V9.tj _ hk,Qe]
   have g4:Nat.blt (0+x.dc.toNat*3+x.rg.toNat*1) o.enc.length=true:=Nat.ble_eq_true_of_le (by rw[e0];show x.dc.toNat*3+x.rg.toNat+1<=9;omega);repeat' first|refine run ?_|refine al λ_=>?_|refine cq hch ?_
   rename_i b6;refine KK (ml [16]) [X0 b6 x,Ra b2 o] ?_;repeat' first|refine run ?_|refine lN o.enc _ rfl ?_ (hc:=g1)
   refine ei o.enc (Ap v (ds.take (i+1))).enc ?_ (e:=g3) (hb:=g4);try refine run ?_
   exact D.re (i+1)
  .rw[rj hD] at hch;rw[show Fg o x.dc x.rg x.sq=_ from if_neg hD] at Qe;repeat' first|refine run ?_|refine al λ_=>?_|refine cq hch ?_
   rw[<-Qe];exact D.re (i+1)
 .obtain rfl:i=ds.length:=by omega
  rw[take_length];generalize Ap v ds=o;try refine run ?_
  exact D.Gc [h] _ rfl (.Va rfl rfl .nil) ⟨rfl,rfl⟩
variable{es:List ya}{x:ya}{xs:List Int}
def VK(h:es[i]? =some x):kr (es.take (i+1))=yh [kr (es.take i),x.dp]:=by
 unfold kr;rw[take_add_one,h,foldl_append];rfl
def Nt(o:V9)(es:List ya):V9:=es.foldl (λo e=>Fg o e.dc e.rg e.sq) o
def WK{o:V9}(h:es[i]? =some x):Nt o (es.take (i+1))=Ap (Nt o (es.take i)) [⟨x.dc,x.rg,x.sq⟩]:=by
 unfold Nt;rw[take_add_one,h,foldl_append];rfl
def YU(hs:Rs es u h)(hl:es.length<=1000000):
  Ct prog 273 [u] [h] (λr H'=>r= .agg (List.toArray (Mt es).enc)/\H'=[h]):=by
 refine ce func273 λg R=>?_;repeat' first|refine Za ?_|refine al λ_=>?_
 rename_i b2 b3;refine W.h0 [Ra b3 (kr (es.take 0)),Ra b2 V9.z,h,R] ?_;refine W.lo (α:=Nat) (λi=>i<=es.length) (λi=>[(0,u),(2,b2),(3,b3),(8,u),(9,.int .i64 (es.length:Int)),(10,.int .i64 (i:Int))]) (λi=>[Ra b3 (kr (es.take i)),Ra b2 V9.z,h,R]) (λi=>es.length - i) 0 (di _) ?_;intro i hi;by_cases hlt:i<es.length
 .obtain⟨x,hx⟩:=Lh hlt;have Qe:=VK hx;generalize kr (es.take i)=o at Qe⊢;repeat' first|refine ga ?_|refine al λ_=>?_|refine Vx hs hx ?_|refine Pg o.enc ?_|refine Xf x.enc x.dp.enc ?_|refine xg ya.z.enc x.enc ?_
  refine Up [o,x.dp] (λv2 h2 Sa=>?_);refine cq (Ry Sa.rs (by simp)) ?_;rw[<-Qe];repeat' first|refine ga ?_|refine xg o.enc (kr (es.take (i+1))).enc ?_
  exact D.re (i+1)
 .obtain rfl:i=es.length:=by omega
  rw[take_length];obtain⟨o,ho⟩:∃o,kr es=o:=⟨_,rfl⟩;have Sy:Mt es=Nt o es:=by rw[<-ho];rfl
  rw[ho,Sy];try refine ga ?_
  refine W.h0 [Ra b3 (Nt o (es.take 0)),Ra b2 V9.z,h,R] ?_;refine W.lo (α:=Nat) (λi=>i<=es.length) (λi=>[(2,b2),(3,b3),(20,u),(21,.int .i64 (es.length:Int)),(22,.int .i64 (i:Int))]) (λi=>[Ra b3 (Nt o (es.take i)),Ra b2 V9.z,h,R]) (λi=>es.length - i) 0 (di _) ?_;clear ho Sy;intro i hi;by_cases hlt:i<es.length
  .obtain⟨x,hx⟩:=Lh hlt;have Qe:=WK (o:=o) hx;generalize Nt o (es.take i)=o2 at Qe⊢;repeat' first|refine ga ?_|refine al λ_=>?_|refine Vx hs hx ?_|refine Pg o2.enc ?_|refine Xf x.enc (Dt.enc ⟨x.dc,x.rg,x.sq⟩) ?_|refine xg ya.z.enc x.enc ?_
   refine Up [(⟨x.dc,x.rg,x.sq⟩:Dt)] (λv2 h2 Sa=>?_);refine cq (gI o2 Sa.rs (by simp)) ?_;rw[<-Qe];repeat' first|refine ga ?_|refine xg o2.enc (Nt o (es.take (i+1))).enc ?_
   exact D.re (i+1)
  .obtain rfl:i=es.length:=by omega
   rw[take_length];generalize Nt o es=o2;repeat' first|refine ga ?_|refine Pg o2.enc ?_|refine xg V9.z.enc o2.enc ?_
   exact D.Gc [h] _ rfl (.Va rfl rfl .nil) ⟨rfl,rfl⟩
def qg(v:V9)(rg:Nat)(k:Nat):V3:=⟨if 0<k then v.at rg else 0,if 1<k then v.at (3+rg) else 0,if 2<k then v.at (6+rg) else 0⟩
def mF(v:V9)(rg:Nat){k:Nat}(h:k<3):(qg v rg k).put k (v.at (3*k+rg))=qg v rg (k+1):=by
 rcases(by omega:k=0\/k=1\/k=2) with rfl|rfl|rfl
 .simp[qg,V3.put]
 .simp[qg,V3.put]
 .simp[qg,V3.put]
def xG(v:V9)(rg:Int):
  Ct prog 109 [.agg (List.toArray v.enc),rg] [] (λr H'=>r= .agg (List.toArray (og v rg).enc)/\H'=[]):=by
 refine ce func109 λg R=>?_;repeat' first|refine Za ?_|refine Uc λ_=>?_|refine al λ_=>?_
 rename_i b2 b4 b5;by_cases nr:0<=rg/\rg<3
 .obtain⟨r1,r2⟩:=nr;rw[show og v rg=qg v rg.toNat 3 by unfold og;rw[if_pos ⟨r1,r2⟩];simp[qg]];refine W.h0 [Mc b5 (qg v rg.toNat 0),Mc b4 V3.z,Ra b2 v,R] ?_;refine W.lo (α:=Nat) (λk=>k<=3) (λk=>[(1,rg),(2,b2),(4,b4),(5,b5),(7,.int .i64 (k:Int))]) (λk=>[Mc b5 (qg v rg.toNat k),Mc b4 V3.z,Ra b2 v,R]) (λk=>3 - k) 0 (di _) ?_;intro k hk;by_cases hlt:k<3
  .have hch:=fk (k:Int) rg;rw[Mi (show Tb (k:Int) rg by refine⟨?_,?_,r1,r2⟩<;>omega)] at hch;have hb:3*k+rg.toNat<9:=by omega
   have g1:v.enc[0+((k:Nat):Int).toNat*3+rg.toNat*1]? =some (.int .i64 (v.at (3*k+rg.toNat))):=by rw[show 0+((k:Nat):Int).toNat*3+rg.toNat*1=3*k+rg.toNat by show 0+k*3+rg.toNat*1=_;omega,V9.Wd _ hb]
   have g3:(qg v rg.toNat k).enc.set (0+((k:Nat):Int).toNat*1) (.int .i64 (v.at (3*k+rg.toNat)))=(qg v rg.toNat (k+1)).enc:=by rw[show 0+((k:Nat):Int).toNat*1=k by show 0+k*1=k;omega,V3.tj _ hlt,mF _ _ hlt]
   have g4:Nat.blt (0+((k:Nat):Int).toNat*1) (qg v rg.toNat k).enc.length=true:=Nat.ble_eq_true_of_le (by show 0+k*1+1<=3;omega);repeat' first|refine ga ?_|refine cq hch ?_|refine lN v.enc _ rfl ?_ (hc:=g1)
   refine ei (qg v rg.toNat k).enc (qg v rg.toNat (k+1)).enc ?_ (e:=g3) (hb:=g4);try refine ga ?_
   exact D.re (k+1)
  .obtain rfl:k=3:=by omega
   generalize qg v rg.toNat 3=o;repeat' first|refine ga ?_|refine Pg o.enc ?_|refine xg V3.z.enc o.enc ?_
   exact D.Gc [] _ rfl (.Va rfl rfl .nil) ⟨rfl,rfl⟩
 .rw[show og v rg=V3.z from if_neg nr];refine W.h0 [Mc b5 V3.z,Mc b4 V3.z,Ra b2 v,R] ?_;refine W.lo (α:=Nat) (λk=>k<=3) (λk=>[(1,rg),(2,b2),(4,b4),(5,b5),(7,.int .i64 (k:Int))]) (λk=>[Mc b5 V3.z,Mc b4 V3.z,Ra b2 v,R]) (λk=>3 - k) 0 (di _) ?_;intro k hk;by_cases hlt:k<3
  .have hch:=fk (k:Int) rg;rw[rj (show ¬Tb (k:Int) rg from λh=>nr h.2.2)] at hch;repeat' first|refine ga ?_|refine cq hch ?_
   exact D.re (k+1)
  .obtain rfl:k=3:=by omega
   repeat' first|refine ga ?_|refine Pg V3.z.enc ?_|refine xg V3.z.enc V3.z.enc ?_
   exact D.Gc [] _ rfl (.Va rfl rfl .nil) ⟨rfl,rfl⟩
def UQ(a b:V3):Lt a b↔∀i,i<3->b.at i<=a.at i:=by
 constructor
 .rintro⟨h1,h2,h3⟩ i hi;rcases(by omega:i=0\/i=1\/i=2) with rfl|rfl|rfl
  .exact h1
  .exact h2
  .exact h3
 .intro h;exact⟨h 0 (by decide),h 1 (by decide),h 2 (by decide)⟩
def Xx(a b:V3):
  Ct prog 110 [.agg (List.toArray a.enc),.agg (List.toArray b.enc)] [] (λr H'=>r= .bool (decide (Lt a b))/\H'=[]):=by
 have hiff:=UQ a b;refine ce func110 λg R=>?_;repeat' first|refine Za ?_|refine Uc λ_=>?_
 rename_i b2 b3;refine W.h0 [Mc b3 b,Mc b2 a,R] ?_;refine W.lo (α:=Nat) (λk=>k<=3/\∀i,i<k->b.at i<=a.at i) (λk=>[(2,b2),(3,b3),(6,.int .i64 (k:Int))]) (λk=>[Mc b3 b,Mc b2 a,R]) (λk=>3 - k) 0 ⟨di _,λi hi=>absurd hi (Nat.not_lt_zero _)⟩ ?_;rintro k ⟨hk,hall⟩;by_cases hlt:k<3
 .have g1:a.enc[0+((k:Nat):Int).toNat*1]? =some (.int .i64 (a.at k)):=by rw[show 0+((k:Nat):Int).toNat*1=k by show 0+k*1=k;omega,V3.Wd _ hlt]
  have g2:b.enc[0+((k:Nat):Int).toNat*1]? =some (.int .i64 (b.at k)):=by rw[show 0+((k:Nat):Int).toNat*1=k by show 0+k*1=k;omega,V3.Wd _ hlt]
  by_cases hc:b.at k<=a.at k
  .try refine ga ?_
   refine wq ?_;repeat' first|refine ga ?_|refine lN a.enc _ rfl ?_ (hc:=g1)|refine lN b.enc _ rfl ?_ (hc:=g2)
   refine D.rd (k+1) ⟨by omega,λi hi=>?_⟩ (by omega);rcases Nat.lt_or_ge i k with h|h
   .exact hall i h
   .obtain rfl:i=k:=by omega
    exact hc
  .have hno: ¬Lt a b:=λh=>hc (hiff.1 h k hlt);try refine ga ?_
   refine wq ?_;repeat' first|refine ga ?_|refine lN a.enc _ rfl ?_ (hc:=g1)|refine lN b.enc _ rfl ?_ (hc:=g2)
   exact Xa [] rfl rfl ⟨by rw[rj hno],rfl⟩
 .obtain rfl:k=3:=by omega
  try refine ga ?_
  exact Xa [] rfl rfl ⟨by rw[Mi (hiff.2 hall)],rfl⟩
def nF{rg:Int}(h:es[i]? =some x):Bc rg (es.take (i+1))=ef rg (Bc rg (es.take i)) x:=by
 rw[take_add_one,h];exact uv rg _ x
def Bn(rg:Int)(hs:Rs es u h)(hl:es.length<=1000000):
  Ct prog 42 [rg,u] [h] (λr H'=>r= .agg (List.toArray (Bc rg es).enc)/\H'=[h]):=by
 refine ce func42 λg R=>?_;repeat' first|refine Za ?_|refine al λ_=>?_
 rename_i b4 b5;refine W.h0 [Mc b5 (Bc rg (es.take 0)),Mc b4 V3.z,h,R] ?_;refine W.lo (α:=Nat) (λi=>i<=es.length) (λi=>[(0,rg),(4,b4),(5,b5),(8,u),(9,.int .i64 (es.length:Int)),(10,.int .i64 (i:Int))]) (λi=>[Mc b5 (Bc rg (es.take i)),Mc b4 V3.z,h,R]) (λi=>es.length - i) 0 (di _) ?_;intro i hi;by_cases hlt:i<es.length
 .obtain⟨x,hx⟩:=Lh hlt;have Qe:=nF (rg:=rg) hx;generalize Bc rg (es.take i)=o at Qe⊢;have hch:=fk x.dc rg;by_cases hg:x.rg=rg
  .by_cases hD:Tb x.dc rg
   .rw[Mi hD] at hch;rw[show ef rg o x=_ from if_pos ⟨hg,hD⟩] at Qe;obtain⟨c1,c2,c3,c4⟩:=hD;have hk:x.dc.toNat<3:=by omega
    have g1:o.enc[0+x.dc.toNat*1]? =some (.int .i64 (o.at x.dc.toNat)):=by rw[show 0+x.dc.toNat*1=x.dc.toNat by omega,V3.Wd _ hk]
    have g3:o.enc.set (0+x.dc.toNat*1) (.int .i64 (mx (o.at x.dc.toNat) x.sq))=(Bc rg (es.take (i+1))).enc:=by rw[show 0+x.dc.toNat*1=x.dc.toNat by omega,V3.tj _ hk,Qe]
    have g4:Nat.blt (0+x.dc.toNat*1) o.enc.length=true:=Nat.ble_eq_true_of_le (by show 0+x.dc.toNat*1+1<=3;omega);repeat' first|refine ga ?_|refine al λ_=>?_|refine Vx hs hx ?_|refine xg ya.z.enc x.enc ?_|refine cq hch ?_
    rename_i b7;refine KK (ml [13]) [Gb b7 x,Mc b5 o] ?_;repeat' first|refine ga ?_|refine lN o.enc _ rfl ?_ (hc:=g1)
    refine ei o.enc (Bc rg (es.take (i+1))).enc ?_ (e:=g3) (hb:=g4);try refine ga ?_
    exact D.re (i+1)
   .rw[rj hD] at hch;rw[show ef rg o x=_ from if_neg λh=>hD h.2] at Qe;repeat' first|refine ga ?_|refine al λ_=>?_|refine Vx hs hx ?_|refine xg ya.z.enc x.enc ?_|refine cq hch ?_
    rw[<-Qe];exact D.re (i+1)
  .rw[show ef rg o x=_ from if_neg λh=>hg h.1] at Qe;repeat' first|refine ga ?_|refine al λ_=>?_|refine Vx hs hx ?_|refine xg ya.z.enc x.enc ?_
   rw[<-Qe];exact D.re (i+1)
 .obtain rfl:i=es.length:=by omega
  rw[take_length];generalize Bc rg es=o;repeat' first|refine ga ?_|refine Pg o.enc ?_|refine xg V3.z.enc o.enc ?_
  exact D.Gc [h] _ rfl (.Va rfl rfl .nil) ⟨rfl,rfl⟩
def Ty{x:Int}(h:xs[i]? =some x):Je (xs.take (i+1))=mx (Je (xs.take i)) x:=by
 unfold Je;rw[take_add_one,h,foldl_append];rfl
def Uy(xs:List Int):0<=Je xs:=by
 have key:∀(xs:List Int) (a:Int),0<=a->0<=xs.foldl mx a:=by
  intro xs
  induction xs with
  |nil=>intro a h;exact h
  |cons x t ih=>intro a h;exact ih _ (Int.le_trans h (Lw a x).1)
 exact key xs 0 (Int.le_refl 0)
def Zn(ok:Bool)(ct dc rg:Int):List Value:=if ok=true then[ct,dc,rg] else[.int .i64 0,.int .i64 0,.int .i64 0]
def Cq(dc rg:Int)(hs:Rs xs u h)(hl:xs.length<=1000000):
  Ct prog 269 [dc,rg,u] [h] (λr H'=>r= .tuple #[.agg (List.toArray (Zn (decide (ki (Sf xs) dc rg)) (Sf xs) dc rg)),.bool (decide (ki (Sf xs) dc rg))]/\H'=[h]):=by
 have VA:=Uy xs;refine ce func269 λg R=>?_;repeat' first|refine Za ?_|refine al λ_=>?_
 rename_i b6;refine W.lo (α:=Nat) (λi=>i<=xs.length) (λi=>[(0,dc),(1,rg),(6,b6),(8,.int .i64 (Je (xs.take i))),(12,u),(13,.int .i64 (xs.length:Int)),(14,.int .i64 (i:Int))]) (λi=>[[(b6,.cells (List.toArray [.int .i64 0,.int .i64 0,.int .i64 0]) 44 (0,0))],h,R]) (λi=>xs.length - i) 0 (di _) ?_;intro i hi;by_cases hlt:i<xs.length
 .obtain⟨x,hx⟩:=Lh hlt;have Qe:=Ty hx;generalize Je (xs.take i)=o at Qe⊢;try refine run ?_
  refine D.as 8 (.int .i64 (Je (xs.take (i+1)))) rfl (by rw[Qe];rfl) ?_;exact D.re (i+1)
 .obtain rfl:i=xs.length:=by omega
  rw[take_length];obtain⟨o,ho⟩:∃o,Je xs=o:=⟨_,rfl⟩;obtain⟨c,hc⟩:∃c,Sf xs=c:=⟨_,rfl⟩;have AQ:(if 1099511627776<o then 1099511627776 else o)+1=c:=by rw[<-hc,<-ho];rfl
  rw[ho] at VA;rw[ho,hc];have Mw:=kF c dc rg;have hmin:0<=(if(1099511627776:Int)<o then 1099511627776 else o)/\(if(1099511627776:Int)<o then 1099511627776 else o)<=1099511627776:=by split<;>omega
  try refine ga ?_
  rw[AQ];by_cases hR:ki c dc rg
  .rw[Mi hR] at Mw⊢;repeat' first|refine ga ?_|refine al λ_=>?_|refine Pg [.int .i64 c,dc,rg] ?_|refine cq Mw ?_|refine jf (t:=44) [.int .i64 c,dc,rg] ?_ (hf':=by exact rfl)|refine xg [.int .i64 0,.int .i64 0,.int .i64 0] [.int .i64 c,dc,rg] ?_
   exact D.Bg [h] _ rfl (.Va rfl rfl (.tmp rfl .nil)) rfl ⟨rfl,rfl⟩
  .rw[rj hR] at Mw⊢;repeat' first|refine ga ?_|refine al λ_=>?_|refine Pg [.int .i64 c,dc,rg] ?_|refine cq Mw ?_|refine jf (t:=44) [.int .i64 c,dc,rg] ?_ (hf':=by exact rfl)|refine xg [.int .i64 0,.int .i64 0,.int .i64 0] [.int .i64 c,dc,rg] ?_
   refine jf (t:=44) [.int .i64 0,.int .i64 0,.int .i64 0] ?_ (hf':=by exact rfl);repeat' first|refine ga ?_|refine xg [.int .i64 0,.int .i64 0,.int .i64 0] [.int .i64 0,.int .i64 0,.int .i64 0] ?_
   exact D.Bg [h] _ rfl (.Va rfl rfl (.tmp rfl .nil)) rfl ⟨rfl,rfl⟩
variable{s:CS}{hv:Hp}
def CS.cells(s:CS)(v:Value):List Value:=[.int .i64 s.dc,.int .i64 s.rg,.int .i64 s.nd]++((jc s.co).enc++[.int .i64 s.sn,.int .i64 s.bs,v,.int .i64 s.du,.int .i64 s.st,.int .i64 s.ak,.int .i64 s.ow,.bool s.su])
abbrev ja(b:Nat)(s:CS)(v:Value):Hp:=[(b,.cells (List.toArray (s.cells v)) 146 (0,0))]
def Dq(ok:Ni s.co)(b:Nat)(v:Value):Ct prog 32 [b] [ja b s v] (λr H'=>r= .bool (decide s.last)/\H'=[ja b s v]):=by
 have hl:=WU ok;refine ce func32 λg R=>?_;simp only[can];by_cases h0:0<=s.nd
 .try refine ga ?_
  refine wq ?_;repeat' first|refine ga ?_|refine Xf (s.cells v) (jc s.co).enc ?_|refine cq hl ?_
  exact Xa [ja b s v] rfl rfl ⟨by simp[h0],rfl⟩
 .try refine ga ?_
  refine sj ?_;exact Xa [ja b s v] rfl rfl ⟨by simp[h0],rfl⟩
def jk(ok:Ni s.co)(b:Nat)(v:Value):Ct prog 46 [b] [ja b s v] (λr H'=>r= .bool (decide s.head)/\H'=[ja b s v]):=by
 have hl:=VU ok;refine ce func46 λg R=>?_;simp only[can];by_cases h0:0<=s.nd
 .try refine ga ?_
  refine wq ?_;repeat' first|refine ga ?_|refine Xf (s.cells v) (jc s.co).enc ?_|refine cq hl ?_
  exact Xa [ja b s v] rfl rfl ⟨by simp[h0],rfl⟩
 .try refine ga ?_
  refine sj ?_;exact Xa [ja b s v] rfl rfl ⟨by simp[h0],rfl⟩
def Ve(ok:Ni s.co)(b:Nat)(v:Value):Ct prog 149 [b] [ja b s v] (λr H'=>r= .tuple #[]/\H'=[ja b s.settle v]):=by
 have hl:=Dq ok b v;refine ce func149 λg R=>?_;simp only[can];by_cases h0:s.last
 .rw[Mi h0] at hl
  cases hj:(jc s.co).jo with
  |false=>
   have e:s.settle={s with su:=true,st:=s.du}:=by unfold CS.settle;rw[if_pos h0,if_pos hj]
   rw[e];repeat' first|refine ga ?_|refine cq hl ?_
   rw[hj];try refine ga ?_
   refine ei (s.cells v) (CS.cells {s with su:=true} v) ?_;try refine ga ?_
   refine ei (CS.cells {s with su:=true} v) (CS.cells {s with su:=true,st:=s.du} v) ?_;try refine ga ?_
   first|exact D.fc [ja b ({s with su:=true,st:=s.du}:CS) v] _ rfl ⟨rfl,rfl⟩|exact D.ri [ja b ({s with su:=true,st:=s.du}:CS) v] _ rfl ⟨rfl,rfl⟩
  |true=>
   cases hs:s.su with
   |true=>
    have e:s.settle={s with st:=mx s.st s.bs}:=by unfold CS.settle;rw[if_pos h0,if_neg (by rw[hj];decide),if_pos hs]
    rw[e];repeat' first|refine ga ?_|refine cq hl ?_
    rw[hj];try refine ga ?_
    rw[hs];try refine ga ?_
    refine KK (ml [10]) [ja b s v] ?_;try refine ga ?_
    refine ei (s.cells v) (CS.cells {s with st:=mx s.st s.bs} v) ?_;try refine ga ?_
    exact D.fc [ja b ({s with st:=mx s.st s.bs}:CS) v] _ rfl ⟨rfl,by rw[hs]⟩
   |false=>
    have e:s.settle=s:=by unfold CS.settle;rw[if_pos h0,if_neg (by rw[hj];decide),if_neg (by rw[hs];decide)]
    rw[e];repeat' first|refine ga ?_|refine cq hl ?_
    rw[hj];try refine ga ?_
    rw[hs];try refine ga ?_
    first|exact D.fc [ja b s v] _ rfl ⟨rfl,rfl⟩|exact D.ri [ja b s v] _ rfl ⟨rfl,rfl⟩
 .rw[rj h0] at hl;have e:s.settle=s:=if_neg h0;rw[e];repeat' first|refine ga ?_|refine cq hl ?_
  first|exact D.fc [ja b s v] _ rfl ⟨rfl,rfl⟩|exact D.ri [ja b s v] _ rfl ⟨rfl,rfl⟩
def Zx(dc rg nd:Int):Ct prog 123 [dc,rg,nd] [] (λr H'=>∃b,r= .pointer (some ⟨b,0,none⟩)/\H'=[ja b (CS.new dc rg nd) (.slice none 0 0)]):=by
 refine ce func123 λg R=>?_;repeat' first|refine Za ?_|refine Uc λ_=>?_|refine jf ((CS.new dc rg nd).cells (.slice none 0 0)) ?_
 rename_i b;exact Xa [ja b (CS.new dc rg nd) (.slice none 0 0)] rfl rfl ⟨b,rfl,rfl⟩
def Sr(s:CS)(b:Nat){v:Value}(hs:Rs s.lg v hv)(hl:s.lg.length<=1000000):Ct prog 271 [b] [ja b s v,hv] (λr H'=>r= .agg (List.toArray (Bc s.rg s.lg).enc)/\H'=[ja b s v,hv]):=by
 have hc:=Bn s.rg hs hl;generalize Bc s.rg s.lg=o at hc⊢;refine ce func271 λg R=>?_;repeat' first|refine Za ?_|refine al λ_=>?_
 refine KK (ml [8,1]) [ja b s v] ?_;try refine ga ?_
 refine cq hc ?_;repeat' first|refine ga ?_|refine xg V3.z.enc o.enc ?_
 exact D.Gc [ja b s v,hv] _ rfl (.Va rfl rfl .nil) ⟨rfl,rfl⟩
def Vy(s:CS)(b:Nat){v:Value}(hs:Rs s.lg v hv)(hl:s.lg.length<=1000000)(deps:V9):Ct prog 270 [b,.agg (List.toArray deps.enc)] [ja b s v,hv] (λr H'=>r= .bool (decide (¬s.Yn deps))/\H'=[ja b s v,hv]):=by
 have hc:=Sr s b hs hl;have hp:=xG deps s.rg;have si:=Xx (Bc s.rg s.lg) (og deps s.rg);refine ce func270 λg R=>?_;repeat' first|refine Za ?_|refine Uc λ_=>?_
 refine wq ?_;repeat' first|refine ga ?_|refine cq hc ?_|refine cq hp ?_|refine cq si ?_|refine Pg deps.enc ?_
 exact Wi [ja b s v,hv]
def foV(b1 b2:Nat):Value:= .func (.func 299) (List.toArray []) (List.toArray [b1,b2])
def ZU(b1 b2:Nat)(cl op:Int)(e:ya):Ct prog 299 [.agg (Qb.enc e).toArray,b1,b2] [WH b1 cl,WH b2 op] (λr H'=>r= .bool (decide (e.cl=cl/\e.op=op))/\H'=[WH b1 cl,WH b2 op]):=by
 refine ce func299 λg R=>?_;simp only[can];by_cases h0:e.cl=cl
 .repeat' first|refine ga ?_|refine Uc λ_=>?_
  exact Xa [WH b1 cl,WH b2 op] rfl rfl ⟨by simp[h0],rfl⟩
 .repeat' first|refine ga ?_|refine Uc λ_=>?_
  exact Xa [WH b1 cl,WH b2 op] rfl rfl ⟨by simp[h0],rfl⟩
def VQ{ps:List ya}{v:Value}{h:Hp}(hs:Rs ps v h)(b1 b2:Nat)(cl op:Int)(hl:ps.length<=1000000):
  Ct prog 227 [v,foV b1 b2] [h,WH b1 cl,WH b2 op] (λr H'=>r= .int .i64 (Re ps cl op - 1)/\H'=[h,WH b1 cl,WH b2 op]):=by
 refine Tk func227 λg R=>?_;refine W.lo (α:=Nat) (λj=>j<=ps.length/\∀(i:Nat) (p:ya),i<j->ps[i]? =some p-> ¬(p.cl=cl/\p.op=op)) (λj=>[(0,v),(1,foV b1 b2),(7,.int .i64 (ps.length:Int)),(8,.int .i64 (j:Int))]) (λ_=>[h,WH b1 cl,WH b2 op,R]) (λj=>ps.length - j) 0 ⟨di _,λi p hi=>absurd hi (Nat.not_lt_zero _)⟩ ?_;rintro j ⟨hj,hall⟩;by_cases hlt:j<ps.length
 .obtain⟨p,hp⟩:=Lh hlt;try refine run ?_
  refine WX.Yp rfl rfl (ZU b1 b2 cl op p) rfl ?_;rintro _ _ ⟨rfl,rfl⟩;by_cases hpk:p.cl=cl/\p.op=op
  .have hf:Re ps cl op=(j:Int)+1:=by
    have:ps.findIdx? (λe=>decide (e.cl=cl/\e.op=op))=some j:=by
     rw[List.findIdx?_eq_some_iff_getElem];obtain⟨h1,h2⟩:=List.getElem?_eq_some_iff.1 hp;refine⟨h1,by rw[h2];simpa using hpk,λi hi=>?_⟩;have:=hall i _ hi (Wg (by omega));simpa using this
    unfold Re;rw[this]
   refine rn ?_;exact Xa [h,WH b1 cl,WH b2 op] rfl rfl ⟨by rw[hf];congr 1;omega,rfl⟩
  .simp only[ca,na];try refine run ?_
   refine D.rd (j+1) ⟨by omega,λi p' hi jI=>?_⟩ (by omega);rcases Nat.lt_or_ge i j with h|h
   .exact hall i p' h jI
   .obtain rfl:i=j:=by omega
    rw[hp] at jI;cases jI;exact hpk
 .have hf:Re ps cl op=0:=by
   have:ps.findIdx? (λe=>decide (e.cl=cl/\e.op=op))=none:=by
    rw[List.findIdx?_eq_none_iff];intro x hx;obtain⟨i,hi⟩:=mem_iff_getElem?.1 hx;have hlt':=(List.getElem?_eq_some_iff.1 hi).1;have:=hall i x (by omega) hi;simpa using this
   unfold Re;rw[this]
  rw[hf];try refine run ?_
  exact Wi [h,WH b1 cl,WH b2 op]
def zG(es:List ya)(cl op:Int):0<=Re es cl op/\Re es cl op<=(es.length:Int):=by
 unfold Re
 cases h:es.findIdx? (λe=>decide (e.cl=cl/\e.op=op)) with
 |none=>simp only[];omega
 |some i=>have:=(List.findIdx?_eq_some_iff_getElem.1 h).1;simp only[];omega
def tO(s:CS)(b:Nat){v:Value}(hs:Rs s.lg v hv)(hl:s.lg.length<=1000000)(cl op:Int):Ct prog 268 [b,cl,op] [ja b s v,hv] (λr H'=>r= .int .i64 (Re s.lg cl op)/\H'=[ja b s v,hv]):=by
 have hr:=zG s.lg cl op;refine ce func268 λg R=>?_;repeat' first|refine Za ?_|refine Uc λ_=>?_|(refine WX.makeFunc (first:=[]) rfl rfl rfl ?_)
 rename_i b4 b5;refine cq (VQ hs b4 b5 cl op hl) ?_;try refine ga ?_
 exact Xa [ja b s v,hv] rfl rfl ⟨by congr 1;omega,rfl⟩
end Go.Proofs.YthebagfahkebiaaGreat
