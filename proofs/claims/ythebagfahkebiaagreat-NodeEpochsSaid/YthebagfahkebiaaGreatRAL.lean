/- Texts of one road. -/
import Derived.Test.YthebagfahkebiaaGreatRAK
set_option linter.all false
set_option maxHeartbeats 8000000
set_option maxRecDepth 20000
namespace Go.Proofs.YthebagfahkebiaaGreat
open Go Go.Sl Go.Proofs.Tryz List
variable{O:Ot}{h:Hp}
def Wa.ms(c:Wa):List Mem:=[c.f0,c.f1,c.f2,c.f3]
def rX(l:List Mem):List Int:=(l.map λm=>[m.nd,m.sn]).flatten
def Wa.pre(c:Wa)(i:Nat):List Int:=[c.ep,c.n]++rX (c.ms.take i)
def Wa.Xj(c:Wa)(O:Ot):Ot:=((O.oe (c.pre 4)).put (.Xn 0) (.bool c.jo)).oe [c.le.nd,c.le.sn]
def Wa.cut(c:Wa){i:Nat}(h:i<4):∃m,c.ms[i]? =some m/\(c.enc.drop (2+i*2)).take 2=[.int .i64 m.nd,.int .i64 m.sn]:=by
 match i,h with
 |0,_=>exact⟨c.f0,rfl,rfl⟩
 |1,_=>exact⟨c.f1,rfl,rfl⟩
 |2,_=>exact⟨c.f2,rfl,rfl⟩
 |3,_=>exact⟨c.f3,rfl,rfl⟩
def JN{v:Value}(hs:ia 5 O.b v h)(hl:O.b.length<=274877906944)(c:Wa){o:Nat}:
  Ct prog 264 [o,.agg c.enc.toArray] [nk o O v,h] (cx o (c.Xj O)):=by
 refine ce func264 λg R=>?_;simp only[can];repeat' apply go
 refine WX.box (vs:=c.enc) rfl rfl rfl (λb=>?_);try refine run ?_
 refine WX.h0 [[(b,.cells c.enc.toArray 40 (0,0))],nk o (O.oe []) v,h,R] ?_;refine ck (Wf (ns:=[]) hs (by omega) (by simp) c.ep) ?_;rintro _ _ ⟨v1,h1,rfl,hs1⟩;simp only[na] at hs1;refine rn ?_;refine ck (Wf hs1 (by omega) (by simp) c.n) ?_;rintro _ _ ⟨v2,h2,rfl,Sa⟩;simp only[ca,na] at Sa;refine rn ?_;refine W.h0 [nk o (O.oe (c.pre 0)) v2,h2,[(b,.cells c.enc.toArray 40 (0,0))],R] ?_
 refine W.lo (α:=Nat×Value×Hp) (λx=>x.1<=4/\ia 5 (O.oe (c.pre x.1)).b x.2.1 x.2.2) (λx=>[(0,o),(3,b),(4,.int .i64 (x.1:Int))])
  (λx=>[nk o (O.oe (c.pre x.1)) x.2.1,x.2.2,[(b,.cells c.enc.toArray 40 (0,0))],R]) (λx=>4 - x.1) (0,v2,h2) ⟨di _,Sa⟩ ?_
 rintro⟨i,u,hu⟩ ⟨hi,hsu⟩;simp only[] at hi hsu⊢
 have hml:(c.pre i).length<=10:=by
  match i,hi with
  |0,_=>exact(by decide:2<=10)
  |1,_=>exact(by decide:4<=10)
  |2,_=>exact(by decide:6<=10)
  |3,_=>exact(by decide:8<=10)
  |4,_=>exact(by decide:10<=10)
 by_cases hi4:i<4
 .obtain⟨m,hm,Jo⟩:=c.cut hi4
  have Qe:c.pre (i+1)=c.pre i++[m.nd,m.sn]:=by
   unfold Wa.pre;rw[take_succ_eq_append_getElem (List.getElem?_eq_some_iff.1 hm).1,(List.getElem?_eq_some_iff.1 hm).2];unfold rX;simp
  try refine run ?_
  refine WX.as 20 (.pointer (some ⟨b,2+i*2,none⟩)) rfl (by rw[Int.toNat_natCast,Nat.zero_add]) ?_;refine WX.Ea (b:=b) (i:=2+i*2) (cs:=c.enc) (vs:=[m.nd,m.sn]) rfl Jo rfl rfl ?_;refine ck (IN hsu (by omega) (by omega) m.nd m.sn) ?_;rintro _ _ ⟨v3,h3,rfl,Cc⟩;rw[<-Qe] at Cc⊢;refine rn ?_;exact D.rd (i+1,v3,h3) ⟨by simp only[];omega,Cc⟩ (by simp only[];omega)
 .obtain rfl:i=4:=by omega
  have hA:=Ei (O:=O) (c.pre 4);rw[show(c.pre 4).length=10 from rfl] at hA;try refine run ?_
  refine ck (FN hsu (by omega) (t:=c.jo)) ?_;rintro _ _ ⟨v4,h4,rfl,hs4⟩;have hB:=Dy (O:=O.oe (c.pre 4)) (t:=c.jo);refine rn ?_;refine WX.h0 [nk o (((O.oe (c.pre 4)).put (.Xn 0) (.bool c.jo)).oe []) v4,h4,[(b,.cells c.enc.toArray 40 (0,0))],R] ?_;refine ck (IN (O:=(O.oe (c.pre 4)).put (.Xn 0) (.bool c.jo)) (ns:=[]) hs4 (by omega) (by simp) c.le.nd c.le.sn) ?_;rintro _ _ ⟨v5,h5,rfl,hs5⟩;refine rn ?_;exact D.fc [nk o (((O.oe (c.pre 4)).put (.Xn 0) (.bool c.jo)).oe [c.le.nd,c.le.sn]) v5,h5] _ rfl ⟨_,_,rfl,hs5⟩
def ya.bI(e:ya):List Int:=[e.dc,e.rg,e.sq,e.ct,e.sd,e.sr]
def ya.Xj(e:ya)(O:Ot):Ot:=(((((O.oe e.bI).put (.Bj 0 0) (.string e.key)).put (.Bj 0 0) (.string e.val)).put (.Xn 0) (.bool e.dead)).oe e.dp.ls).oe [e.cl,e.op]
def KN{v:Value}(hs:ia 5 O.b v h)(hl:O.b.length<=1073741824)(e:ya)(hk:e.key.data.toList.length<=1073741824)(hv:e.val.data.toList.length<=1073741824){o:Nat}:
  Ct prog 263 [o,.agg e.enc.toArray] [nk o O v,h] (cx o (e.Xj O)):=by
 have l1:=Ei (O:=O) e.bI;rw[show e.bI.length=6 from rfl] at l1;have l2:=Cy (O:=O.oe e.bI) hk;have l3:=Cy (O:=(O.oe e.bI).put (.Bj 0 0) (.string e.key)) hv;have l4:=Dy (O:=((O.oe e.bI).put (.Bj 0 0) (.string e.key)).put (.Bj 0 0) (.string e.val)) (t:=e.dead);have l5:=Ei (O:=(((O.oe e.bI).put (.Bj 0 0) (.string e.key)).put (.Bj 0 0) (.string e.val)).put (.Xn 0) (.bool e.dead)) e.dp.ls;rw[show e.dp.ls.length=9 from rfl] at l5;refine ce func263 λg R=>?_;simp only[can];repeat' apply go
 refine WX.box (vs:=e.enc) rfl rfl rfl (λb=>?_);refine WX.h0 [[(b,.cells e.enc.toArray 49 (0,0))],nk o (O.oe []) v,h,R] ?_;try refine run ?_
 refine ck (Wf (ns:=[]) hs (by omega) (by simp) e.dc) ?_;rintro _ _ ⟨v1,ZH,rfl,M3⟩;simp only[ca,na] at M3;refine rn ?_;refine ck (Wf M3 (by omega) (by simp) e.rg) ?_;rintro _ _ ⟨v2,NM,rfl,N3⟩;simp only[ca,na] at N3;refine rn ?_;refine ck (Wf N3 (by omega) (by simp) e.sq) ?_;rintro _ _ ⟨v3,hv3,rfl,O3⟩;simp only[ca,na] at O3;refine rn ?_;refine ck (Wf O3 (by omega) (by simp) e.ct) ?_;rintro _ _ ⟨v4,hv4,rfl,P3⟩;simp only[ca,na] at P3;refine rn ?_;refine ck (Wf P3 (by omega) (by simp) e.sd) ?_;rintro _ _ ⟨v5,hv5,rfl,Q3⟩;simp only[ca,na] at Q3;refine rn ?_;refine ck (Wf Q3 (by omega) (by simp) e.sr) ?_;rintro _ _ ⟨v6,hv6,rfl,qW⟩;simp only[ca,na] at qW;simp only[can];have qW:ia 5 (O.oe e.bI).b v6 hv6:=qW;refine WX.h0 [nk o (O.oe e.bI) v6,hv6,[(b,.cells e.enc.toArray 49 (0,0))],R] ?_;unfold ya.Xj;generalize O.oe e.bI=A at*;try refine run ?_
 refine ck (HN qW (by omega) hk) ?_;rintro _ _ ⟨v7,h7,rfl,Gn⟩;generalize A.put (.Bj 0 0) (.string e.key)=B at*;refine rn ?_;refine ck (HN Gn (by omega) hv) ?_;rintro _ _ ⟨v8,h8,rfl,ju⟩;generalize B.put (.Bj 0 0) (.string e.val)=C at*;refine rn ?_;refine ck (FN ju (by omega) (t:=e.dead)) ?_;rintro _ _ ⟨v9,h9,rfl,Bp⟩;generalize C.put (.Xn 0) (.bool e.dead)=G at*;refine rn ?_;refine ck (oW Bp (by omega) e.dp) ?_;rintro _ _ ⟨v10,ZV,rfl,jT⟩;generalize G.oe e.dp.ls=F at*;refine WX.h0 [nk o (F.oe []) v10,ZV,[(b,.cells e.enc.toArray 49 (0,0))],R] ?_;try refine run ?_
 refine ck (Wf (O:=F) (ns:=[]) jT (by omega) (by simp) e.cl) ?_;rintro _ _ ⟨v11,uaa,rfl,sX⟩;simp only[ca,na] at sX;refine rn ?_;refine ck (Wf sX (by omega) (by simp) e.op) ?_;rintro _ _ ⟨v12,L8,rfl,tX⟩;simp only[ca,na] at tX;refine rn ?_;exact D.fc [nk o (F.oe [e.cl,e.op]) v12,L8] _ rfl ⟨_,_,rfl,tX⟩
def NY(n:Nat):UInt8.ofNat (n% 256)=UInt8.ofNat n:=by
 apply UInt8.toNat_inj.1;rw[UInt8.toNat_ofNat',UInt8.toNat_ofNat'];omega
def nw{B:List UInt8}{v:Value}{h:Hp}(hr:Rs B v h)(hl:B.length<=1099511627776):
  Ct prog 266 [v] [h] (λr H'=>∃hb,H'=[h,hb]/\ia 5 (frame B) r hb):=by
 have Ah:=LN B;have hd:(B.length:Int).tmod 256=((B.length% 256:Nat):Int):=by rw[Int.ofNat_tmod];rfl
 refine ce func266 λg R=>?_;repeat' first|refine rn ?_|refine WX.mY (a:=B.length) (b:=256) rfl rfl rfl rfl (by decide) (by omega) rfl ?_|(refine WX.rem rfl rfl rfl (by decide) ?_;rw[hd])|refine WX.eG rfl rfl ?_
 refine WX.as 9 (.int .u8 ((UInt8.ofNat (B.length/2^8)).toNat:Int)) rfl (by rw[Ef]) ?_;refine WX.as 13 (.int .u8 ((UInt8.ofNat B.length).toNat:Int)) rfl (by rw[Ef,NY]) ?_;refine Up [UInt8.ofNat (B.length/2^8),UInt8.ofNat B.length] (λv1 h1 hs1=>?_);refine WX.Pe ?_;refine Jt (zb:=by simp only[Ib,td];omega) (ia.nil _) hs1.rs (λv2 h2 Sa=>?_);try refine run ?_
 refine Jt (zb:=by simp only[Eb,Ib,td];omega) Sa hr (λv3 h3 Cc=>?_);try refine run ?_
 refine cq (QJ hr hl) ?_;repeat' first|refine run ?_|refine WX.Po (m:=24) rfl rfl (by decide) rfl ?_|refine WX.Po (m:=16) rfl rfl (by decide) rfl ?_|refine WX.Po (m:=8) rfl rfl (by decide) rfl ?_|refine WX.eG rfl rfl ?_
 refine WX.as 24 (.int .u8 ((UInt8.ofNat (wg B/2^24)).toNat:Int)) rfl (by rw[Ef]) ?_;refine WX.as 27 (.int .u8 ((UInt8.ofNat (wg B/2^16)).toNat:Int)) rfl (by rw[Ef]) ?_;refine WX.as 30 (.int .u8 ((UInt8.ofNat (wg B/2^8)).toNat:Int)) rfl (by rw[Ef]) ?_;refine WX.as 32 (.int .u8 ((UInt8.ofNat (wg B)).toNat:Int)) rfl (by rw[Ef]) ?_;refine Up (Nn (wg B)) (λv4 h4 hs4=>?_);refine Jt (zb:=by rw[show(Nn (wg B)).length=4 from rfl];simp only[Eb,Ib,td];omega) Cc hs4.rs (λv5 h5 hs5=>?_);try refine run ?_
 exact Xa [h,h5] rfl rfl ⟨_,rfl,hs5⟩
structure Sb where
 s:ByteArray
instance:Qb Sb:=⟨1,λx=>[.string x.s],λ_=>rfl,λ_=>rfl,by decide⟩
def nA{x y:Sb}{u w:Value}{hu hw:Hp}(h1:Rs [x] u hu)(h2:Rs [y] w hw):
  Ct prog 265 [u,w] [hu,hw] (λr H'=>r= .bool (decide (16<x.s.size\/32<y.s.size))/\H'=[hu,hw]):=by
 have e1:[x][0]? =some x:=rfl;have e2:[y][0]? =some y:=rfl;have tg:(([x].length:Nat):Int)=1:=rfl;refine Tk func265 λg R=>?_;refine W.lo (α:=Nat) (λi=>i<=1/\(i=1-> ¬(16<x.s.size\/32<y.s.size))) (λi=>[(0,u),(1,w),(5,.int .i64 (i:Int))]) (λ_=>[hu,hw,R]) (λi=>1 - i) 0 ⟨di _,λh=>absurd h (by decide)⟩ ?_;intro i ⟨hi,hn⟩;by_cases CQ:i=0
 .subst CQ;by_cases hk:16<x.s.size
  .try refine run ?_
   exact Xa [hu,hw] rfl rfl ⟨by rw[Mi (.inl hk)],rfl⟩
  .by_cases hv:32<y.s.size
   .try refine run ?_
    exact Xa [hu,hw] rfl rfl ⟨by rw[Mi (.inr hv)],rfl⟩
   .try refine run ?_
    exact D.rd 1 ⟨by omega,λ_=>by omega⟩ (by omega)
 .obtain rfl:i=1:=by omega
  have hn:=hn rfl;try refine run ?_
  exact Xa [hu,hw] rfl rfl ⟨by rw[rj hn],rfl⟩
def qw(n:Int):Bool:=decide (n<0\/4611686018427387904<n)
def Gm{n:Int}:(O.put (.num 0) (n)).bad=(O.bad||qw n):=by
 rw[Ot.AH];unfold qw;by_cases h:n<0\/4611686018427387904<n
 .rw[if_pos h,Mi h];simp
 .rw[if_neg h,rj h];simp
def nq(ns:List Int):(O.oe ns).bad=(O.bad||ns.any qw):=by
 induction ns generalizing O with
 |nil=>simp[Ot.oe]
 |cons n t ih=>
  have h1:=ih (O:=O.put (.num 0) (n));show((O.put (.num 0) (n)).oe t).bad=_;rw[h1,Gm,any_cons,Bool.or_assoc]
def dx{s:ByteArray}:(O.put (.Bj 0 0) (.string s)).bad=O.bad:=by
 show(O.bad||(encI (.Bj 0 0) (.string s)).isNone)=_;rw[show encI (.Bj 0 0) (.string s)=some (Ed s.data.toList.length++s.data.toList) from rfl];simp
def gx{t:Bool}:(O.put (.Xn 0) (.bool t)).bad=O.bad:=by
 show(O.bad||(encI (.Xn 0) (.bool t)).isNone)=_;rw[show encI (.Xn 0) (.bool t)=some (Ed (if t=true then 1 else 0)) from rfl];simp
def ya.sw(e:ya):Bool:=(e.bI.any qw||e.dp.ls.any qw)||[e.cl,e.op].any qw
def ya.pq{e:ya}:(e.Xj O).bad=(O.bad||e.sw):=by
 unfold ya.Xj ya.sw;rw[nq,nq,gx,dx,dx,nq,Bool.or_assoc,Bool.or_assoc,Bool.or_assoc]
def Wa.sw(c:Wa):Bool:=(c.pre 4).any qw||[c.le.nd,c.le.sn].any qw
def Wa.pq{c:Wa}:(c.Xj O).bad=(O.bad||c.sw):=by
 unfold Wa.Xj Wa.sw;rw[nq,gx,nq,Bool.or_assoc]
def O1(k:Int):Ot:=Ot.put {} (.num 0) (k)
def OY(k:Int)(e:ya)(c:Wa)(b:Int):(([It.num 0]++Ox 1).foldl (Ud (Rec.enc ⟨k,e,c,b⟩)) {}).ot=e.Xj (O1 k):=by kernel_rfl
def PY(k:Int)(e:ya)(c:Wa)(b:Int):(([It.num 0]++(BH 21++[It.num 34])).foldl (Ud (Rec.enc ⟨k,e,c,b⟩)) {}).ot=(c.Xj (O1 k)).put (.num 0) (b):=by kernel_rfl
theorem QY(k:Int)(e:ya)(c:Wa)(b:Int):([It.num 0].foldl (Ud (Rec.enc ⟨k,e,c,b⟩)) {}).ot=O1 k:=rfl
def RY(k:Int)(e:ya)(c:Wa)(b:Int):(([It.num 0]++Ox 1).foldl (Ud (Rec.enc ⟨k,e,c,b⟩)) {}).Bd=decide (16<e.key.size\/32<e.val.size):=by
 have:(([It.num 0]++Ox 1).foldl (Ud (Rec.enc ⟨k,e,c,b⟩)) {}).Bd=(((((((((((((((((((((false||false)||false)||false)||false)||false)||false)||false)||decide (16<e.key.data.toList.length))||decide (32<e.val.data.toList.length))||false)||false)||false)||false)||false)||false)||false)||false)||false)||false)||false)||false):=rfl;rw[this];simp only[Bool.or_false,Bool.false_or];exact(Bool.decide_or _ _).symm
theorem SY(k:Int)(e:ya)(c:Wa)(b:Int):(([It.num 0]++(BH 21++[It.num 34])).foldl (Ud (Rec.enc ⟨k,e,c,b⟩)) {}).Bd=false:=rfl
theorem TY(k:Int)(e:ya)(c:Wa)(b:Int):([It.num 0].foldl (Ud (Rec.enc ⟨k,e,c,b⟩)) {}).Bd=false:=rfl
variable{k:Int}
def kM(h0:0<=k)(h1:k<=3):(O1 k).bad=false:=by
 unfold O1;rw[Gm];unfold qw;rw[rj (by omega)];rfl
theorem Cd.UY(C:Cd):C.ot.b=C.b:=rfl
theorem Cd.lM(C:Cd):C.ot.bad=C.arg:=rfl
theorem Ro(F:Cd)(r:Rec):ni (F.seen r)=if((F.arg|| !r.known)|| !decide (r.bare=r))=true then([],1) else if F.Bd=true then([],42) else(frame F.b,0):=rfl
def VY(e:ya)(c:Wa)(b:Int):ni (Rec.w ⟨1,e,c,b⟩)=if(e.sw|| !decide (Rec.mk 1 e Wa.z 0=⟨1,e,c,b⟩))=true then([],1) else if(16<e.key.size\/32<e.val.size) then([],42) else(frame (e.Xj (O1 1)).b,0):=by
 have h1:=OY 1 e c b;have h2:=RY 1 e c b;have h3:Rec.Zc 1=[It.num 0]++Ox 1:=rfl;unfold Rec.w;rw[Ro,h3]
 have ha:(([It.num 0]++Ox 1).foldl (Ud (Rec.enc ⟨1,e,c,b⟩)) {}).arg=e.sw:=by
  have:=congrArg Ot.bad h1;rw[ya.pq,show(O1 1).bad=false from kM (by decide) (by decide),Bool.false_or,Cd.lM] at this;exact this
 have hb:(([It.num 0]++Ox 1).foldl (Ud (Rec.enc ⟨1,e,c,b⟩)) {}).b=(e.Xj (O1 1)).b:=by
  have:=congrArg Ot.b h1;rw[Cd.UY] at this;exact this
 have hk:Rec.known ⟨1,e,c,b⟩=true:=rfl;have xF:Rec.bare ⟨1,e,c,b⟩=⟨1,e,Wa.z,0⟩:=rfl;rw[ha,h2,hb,hk,xF];simp only[Bool.not_true,Bool.or_false,decide_eq_true_eq]
def XY(e:ya)(c:Wa)(b:Int):ni (Rec.w ⟨2,e,c,b⟩)=if((c.sw||qw b)|| !decide (Rec.mk 2 ya.z c b=⟨2,e,c,b⟩))=true then([],1) else(frame ((c.Xj (O1 2)).put (.num 0) (b)).b,0):=by
 have h1:=PY 2 e c b;have h2:=SY 2 e c b;have h3:Rec.Zc 2=[It.num 0]++(BH 21++[It.num 34]):=rfl;unfold Rec.w;rw[Ro,h3]
 have ha:(([It.num 0]++(BH 21++[It.num 34])).foldl (Ud (Rec.enc ⟨2,e,c,b⟩)) {}).arg=(c.sw||qw b):=by
  have:=congrArg Ot.bad h1;rw[Gm,Wa.pq,show(O1 2).bad=false from kM (by decide) (by decide),Bool.false_or,Cd.lM] at this;exact this
 have hb:(([It.num 0]++(BH 21++[It.num 34])).foldl (Ud (Rec.enc ⟨2,e,c,b⟩)) {}).b=((c.Xj (O1 2)).put (.num 0) (b)).b:=by
  have:=congrArg Ot.b h1;rw[Cd.UY] at this;exact this
 have hk:Rec.known ⟨2,e,c,b⟩=true:=rfl;have xF:Rec.bare ⟨2,e,c,b⟩=⟨2,ya.z,c,b⟩:=rfl;rw[ha,h2,hb,hk,xF];simp only[Bool.not_true,Bool.or_false,Bool.false_eq_true,if_false]
def YY(e:ya)(c:Wa)(b:Int):ni (Rec.w ⟨3,e,c,b⟩)=if(!decide (Rec.mk 3 ya.z Wa.z 0=⟨3,e,c,b⟩))=true then([],1) else(frame (O1 3).b,0):=by
 have h1:=QY 3 e c b;have h2:=TY 3 e c b;have h3:Rec.Zc 3=[It.num 0]:=rfl;unfold Rec.w;rw[Ro,h3]
 have ha:([It.num 0].foldl (Ud (Rec.enc ⟨3,e,c,b⟩)) {}).arg=false:=by
  have:=congrArg Ot.bad h1;rw[show(O1 3).bad=false from kM (by decide) (by decide),Cd.lM] at this;exact this
 have hb:([It.num 0].foldl (Ud (Rec.enc ⟨3,e,c,b⟩)) {}).b=(O1 3).b:=by
  have:=congrArg Ot.b h1;rw[Cd.UY] at this;exact this
 have hk:Rec.known ⟨3,e,c,b⟩=true:=rfl;have xF:Rec.bare ⟨3,e,c,b⟩=⟨3,ya.z,Wa.z,0⟩:=rfl;rw[ha,h2,hb,hk,xF];simp only[Bool.not_true,Bool.or_false,Bool.false_or,Bool.false_eq_true,if_false]
def ZY(e:ya)(c:Wa)(b:Int)(h1:k≠1)(h2:k≠2)(h3:k≠3):ni (Rec.w ⟨k,e,c,b⟩)=([],1):=by
 unfold Rec.w;have hk:Rec.known ⟨k,e,c,b⟩=false:=by unfold Rec.known;exact rj (by rintro(h|h|h)<;>contradiction)
 rw[Ro,hk];simp
def ya.ZE(e:ya):ya:={e with key:=ByteArray.empty,val:=ByteArray.empty}
def mT(e:ya):(e.ZE.Xj {}).bad=e.sw:=by rw[ya.pq];rfl
def MN(F:List UInt8×Int):Value->HH->Prop:=λres H'=>∃u hb,res= .tuple #[u,.int .i64 F.2]/\H'=[hb]/\ia 5 F.1 u hb
def ya.Du{e:ya}(hk:e.key.data.toList.length<=1073741824)(hv:e.val.data.toList.length<=1073741824):(e.Xj O).b.length<=O.b.length+2147483900:=by
 have l1:=Ei (O:=O) e.bI;rw[show e.bI.length=6 from rfl] at l1;have l2:=Cy (O:=O.oe e.bI) hk;have l3:=Cy (O:=(O.oe e.bI).put (.Bj 0 0) (.string e.key)) hv;have l4:=Dy (O:=((O.oe e.bI).put (.Bj 0 0) (.string e.key)).put (.Bj 0 0) (.string e.val)) (t:=e.dead);have l5:=Ei (O:=(((O.oe e.bI).put (.Bj 0 0) (.string e.key)).put (.Bj 0 0) (.string e.val)).put (.Xn 0) (.bool e.dead)) e.dp.ls;rw[show e.dp.ls.length=9 from rfl] at l5;have l6:=Ei (O:=((((O.oe e.bI).put (.Bj 0 0) (.string e.key)).put (.Bj 0 0) (.string e.val)).put (.Xn 0) (.bool e.dead)).oe e.dp.ls) [e.cl,e.op];rw[show[e.cl,e.op].length=2 from rfl] at l6;unfold ya.Xj;omega
def Wa.Du{c:Wa}:(c.Xj O).b.length<=O.b.length+200:=by
 have l1:=Ei (O:=O) (c.pre 4);rw[show(c.pre 4).length=10 from rfl] at l1;have l2:=Dy (O:=O.oe (c.pre 4)) (t:=c.jo);have l3:=Ei (O:=(O.oe (c.pre 4)).put (.Xn 0) (.bool c.jo)) [c.le.nd,c.le.sn];rw[show[c.le.nd,c.le.sn].length=2 from rfl] at l3;unfold Wa.Xj;omega
def mM:(O1 k).b.length<=9:=by
 have:=Ot.Cu (O:={}) (o:=0) (n:=k);exact this
def nT(e:ya)(cf:Wa)(bs:Int)(hk:e.key.data.toList.length<=1073741824)(hv:e.val.data.toList.length<=1073741824):Ct prog 216 [.agg (Rec.enc ⟨1,e,cf,bs⟩).toArray] [] (MN (ni (Rec.w ⟨1,e,cf,bs⟩))):=by
 rw[VY];have hcmp:=rec_eq ⟨1,e,cf,bs⟩ ⟨1,e,Wa.z,0⟩;have l1:=mM (k:=1);have l2:=ya.Du (O:=O1 1) hk hv;refine ce func216 λg R=>?_;simp only[can];repeat' apply go
 refine WX.box (vs:=Rec.enc ⟨1,e,cf,bs⟩) rfl rfl rfl (λb=>?_);repeat' first|refine WX.load (v:= .int .i64 1) (b:=b) (i:=0) (cs:=Rec.enc ⟨1,e,cf,bs⟩) rfl rfl rfl ?_|refine wm ?_|refine Uc λ_=>?_|refine al λ_=>?_
 rename_i bw o;refine WX.h0 [nk o {} (.slice none 0 0),[(bw,.cells (Rec.enc ⟨1,ya.z,Wa.z,0⟩).toArray 140 (0,0))],[(b,.cells (Rec.enc ⟨1,e,cf,bs⟩).toArray 140 (0,0))],R] ?_;refine WX.Pe ?_;refine ck (Wj (O:={}) (ia.nil _) (by decide) (n:=1)) ?_;rintro _ _ ⟨v1,h1,rfl,hs1⟩;have hs1:ia 5 (O1 1).b v1 h1:=hs1;refine WX.h0 [nk o (O1 1) v1,h1,[(bw,.cells (Rec.enc ⟨1,ya.z,Wa.z,0⟩).toArray 140 (0,0))],[(b,.cells (Rec.enc ⟨1,e,cf,bs⟩).toArray 140 (0,0))],R] ?_;repeat' first|refine WX.load (v:= .int .i64 1) (b:=b) (i:=0) (cs:=Rec.enc ⟨1,e,cf,bs⟩) rfl rfl rfl ?_|refine WX.Ea (b:=b) (i:=1) (cs:=Rec.enc ⟨1,e,cf,bs⟩) (vs:=e.enc) rfl (Rec.oA _ _ _ _) rfl rfl ?_|(refine I.st ?_;refine WX.qd (vs:=e.enc) (b:=bw) (i:=1) (cs:=Rec.enc ⟨1,ya.z,Wa.z,0⟩) rfl rfl rfl (ya.Cp _) (ya.one _) rfl ?_;rw[Rec.Zw])|refine wm ?_|refine Uc λ_=>?_|refine al λ_=>?_
 rename_i bt pb;refine WX.h0 [nk pb {} (.slice none 0 0),[(bt,.cells e.ZE.enc.toArray 49 (0,0))],nk o (O1 1) v1,h1,[(bw,.cells (Rec.enc ⟨1,e,Wa.z,0⟩).toArray 140 (0,0))],[(b,.cells (Rec.enc ⟨1,e,cf,bs⟩).toArray 140 (0,0))],R] ?_;refine WX.as 31 (.agg e.ZE.enc.toArray) rfl rfl ?_;refine WX.Pe ?_;refine ck (KN (O:={}) (ia.nil _) (by decide) e.ZE (by show 0<=1073741824;decide) (by show 0<=1073741824;decide)) ?_;rintro _ _ ⟨v2,h2,rfl,-⟩;have vk:=mT e;generalize e.ZE.Xj {}=P at*;simp only[can]
 cases R3:e.sw with
 |true=>
  rw[R3] at vk;rw[if_pos (by simp)];refine WX.hp (H':=[[(pb,.cells (List.toArray [v2,.bool true]) 278 (0,0))],h2,[(bt,.cells e.ZE.enc.toArray 49 (0,0))],nk o (O1 1) v1,h1,[(bw,.cells (Rec.enc ⟨1,e,Wa.z,0⟩).toArray 140 (0,0))],[(b,.cells (Rec.enc ⟨1,e,cf,bs⟩).toArray 140 (0,0))],R]) (by rw[<-vk]) ?_;try refine run ?_
  refine D.Pe ?_
  exact D.Vb [[]] _ rfl rfl rfl ⟨_,_,rfl,rfl,ia.nil _⟩
 |false=>
  rw[R3] at vk;refine WX.hp (H':=[[(pb,.cells (List.toArray [v2,.bool false]) 278 (0,0))],h2,[(bt,.cells e.ZE.enc.toArray 49 (0,0))],nk o (O1 1) v1,h1,[(bw,.cells (Rec.enc ⟨1,e,Wa.z,0⟩).toArray 140 (0,0))],[(b,.cells (Rec.enc ⟨1,e,cf,bs⟩).toArray 140 (0,0))],R]) (by rw[<-vk]) ?_;by_cases heq:Rec.mk 1 e cf bs=⟨1,e,Wa.z,0⟩
  .rw[Mi heq] at hcmp;rw[if_neg (by rw[Mi heq.symm];simp)];repeat' first|refine bn b 0 (Rec.enc ⟨1,e,cf,bs⟩) (Rec.enc ⟨1,e,cf,bs⟩) ?_|refine bn bw 0 (Rec.enc ⟨1,e,Wa.z,0⟩) (Rec.enc ⟨1,e,Wa.z,0⟩) ?_|refine WX.aj rfl rfl hcmp rfl ?_|refine wm ?_|fail
   refine Up [(⟨e.key⟩:Sb)] (λv3 h3 Cc=>?_);try refine run ?_
   refine Up [(⟨e.val⟩:Sb)] (λv4 h4 hs4=>?_);have kz:=nA Cc.rs hs4.rs;by_cases jx:16<e.key.size\/32<e.val.size
   .rw[if_pos jx];refine cq (Ct.mono kz (post':=λr H'=>r= .bool true/\H'=[h3,h4]) (λr H' p=>⟨p.1.trans (congrArg _ (Mi jx)),p.2⟩)) ?_;try refine run ?_
    refine D.Pe ?_;exact D.Vb [[]] _ rfl rfl rfl ⟨_,_,rfl,rfl,ia.nil _⟩
   .rw[if_neg jx];refine cq (Ct.mono kz (post':=λr H'=>r= .bool false/\H'=[h3,h4]) (λr H' p=>⟨p.1.trans (congrArg _ (rj jx)),p.2⟩)) ?_;repeat' first|refine WX.load (v:= .int .i64 1) (b:=b) (i:=0) (cs:=Rec.enc ⟨1,e,cf,bs⟩) rfl rfl rfl ?_|refine WX.Ea (b:=b) (i:=1) (cs:=Rec.enc ⟨1,e,cf,bs⟩) (vs:=e.enc) rfl (Rec.oA _ _ _ _) rfl rfl ?_|refine wm ?_|fail
    refine ck (KN hs1 (by omega) e hk hv) ?_;rintro _ _ ⟨v5,h5,rfl,hs5⟩;generalize e.Xj (O1 1)=S at*;simp only[can];repeat' first|refine WX.load (v:= .int .i64 1) (b:=b) (i:=0) (cs:=Rec.enc ⟨1,e,cf,bs⟩) rfl rfl rfl ?_|refine wm ?_|fail
    refine ck (nw hs5.rs (by omega)) ?_;rintro u6 _ ⟨h6,rfl,Nq⟩;refine rn ?_;exact D.Vb [h6] _ rfl rfl rfl ⟨_,_,rfl,rfl,Nq⟩
  .rw[rj heq] at hcmp;rw[if_pos (by rw[rj (λh=>heq h.symm)];simp)];repeat' first|refine bn b 0 (Rec.enc ⟨1,e,cf,bs⟩) (Rec.enc ⟨1,e,cf,bs⟩) ?_|refine bn bw 0 (Rec.enc ⟨1,e,Wa.z,0⟩) (Rec.enc ⟨1,e,Wa.z,0⟩) ?_|refine WX.aj rfl rfl hcmp rfl ?_|refine wm ?_|fail
   refine D.Pe ?_;exact D.Vb [[]] _ rfl rfl rfl ⟨_,_,rfl,rfl,ia.nil _⟩
def oT(e:ya)(cf:Wa)(bs:Int):Ct prog 216 [.agg (Rec.enc ⟨2,e,cf,bs⟩).toArray] [] (MN (ni (Rec.w ⟨2,e,cf,bs⟩))):=by
 rw[XY];have hcmp:=rec_eq ⟨2,e,cf,bs⟩ ⟨2,ya.z,cf,bs⟩;have l1:=mM (k:=2);have l2:=Wa.Du (c:=cf) (O:=O1 2);have l3:=Wa.Du (c:=cf) (O:={});have l0:({}:Ot).b.length=0:=rfl;have S3:((cf.Xj {}).put (.num 0) (bs)).bad=(cf.sw||qw bs):=by rw[Gm,Wa.pq];rfl
 refine ce func216 λg R=>?_;simp only[can];repeat' apply go
 refine WX.box (vs:=Rec.enc ⟨2,e,cf,bs⟩) rfl rfl rfl (λb=>?_);repeat' first|refine WX.load (v:= .int .i64 2) (b:=b) (i:=0) (cs:=Rec.enc ⟨2,e,cf,bs⟩) rfl rfl rfl ?_|refine wm ?_|refine Uc λ_=>?_|refine al λ_=>?_
 rename_i bw o;refine WX.h0 [nk o {} (.slice none 0 0),[(bw,.cells (Rec.enc ⟨2,ya.z,Wa.z,0⟩).toArray 140 (0,0))],[(b,.cells (Rec.enc ⟨2,e,cf,bs⟩).toArray 140 (0,0))],R] ?_;refine WX.Pe ?_;refine ck (Wj (O:={}) (ia.nil _) (by decide) (n:=2)) ?_;rintro _ _ ⟨v1,h1,rfl,hs1⟩;have hs1:ia 5 (O1 2).b v1 h1:=hs1;refine WX.h0 [nk o (O1 2) v1,h1,[(bw,.cells (Rec.enc ⟨2,ya.z,Wa.z,0⟩).toArray 140 (0,0))],[(b,.cells (Rec.enc ⟨2,e,cf,bs⟩).toArray 140 (0,0))],R] ?_;repeat' first|refine WX.load (v:= .int .i64 2) (b:=b) (i:=0) (cs:=Rec.enc ⟨2,e,cf,bs⟩) rfl rfl rfl ?_|refine WX.load (v:= .int .i64 bs) (b:=b) (i:=34) (cs:=Rec.enc ⟨2,e,cf,bs⟩) rfl rfl rfl ?_|refine WX.Ea (b:=b) (i:=1) (cs:=Rec.enc ⟨2,e,cf,bs⟩) (vs:=e.enc) rfl (Rec.oA _ _ _ _) rfl rfl ?_|refine WX.Ea (b:=b) (i:=21) (cs:=Rec.enc ⟨2,e,cf,bs⟩) (vs:=cf.enc) rfl (Rec.qT _ _ _ _) rfl rfl ?_|(refine I.st ?_;refine WX.qd (vs:=cf.enc) (b:=bw) (i:=21) (cs:=Rec.enc ⟨2,ya.z,Wa.z,0⟩) rfl rfl rfl (Wa.SJ _) (Wa.one _) rfl ?_;rw[Rec.KJ])|(refine I.st ?_;refine WX.store (v:= .int .i64 bs) (b:=bw) (i:=34) (cs:=Rec.enc ⟨2,ya.z,cf,0⟩) rfl rfl rfl rfl ?_;rw[Rec.rT])|refine wm ?_|refine Uc λ_=>?_|refine al λ_=>?_
 rename_i bt pb;refine WX.h0 [nk pb {} (.slice none 0 0),[(bt,.cells e.ZE.enc.toArray 49 (0,0))],nk o (O1 2) v1,h1,[(bw,.cells (Rec.enc ⟨2,ya.z,cf,bs⟩).toArray 140 (0,0))],[(b,.cells (Rec.enc ⟨2,e,cf,bs⟩).toArray 140 (0,0))],R] ?_;refine WX.Pe ?_;refine ck (JN (O:={}) (ia.nil _) (by decide) cf) ?_;rintro _ _ ⟨v3,h3,rfl,Cc⟩;generalize cf.Xj {}=P0 at*;simp only[can];repeat' first|refine WX.load (v:= .int .i64 bs) (b:=b) (i:=34) (cs:=Rec.enc ⟨2,e,cf,bs⟩) rfl rfl rfl ?_|refine wm ?_|fail
 refine ck (Wj Cc (by omega) (n:=bs)) ?_;rintro _ _ ⟨v2,h2,rfl,-⟩;have vk:=S3;generalize P0.put (.num 0) (bs)=P at*;simp only[can]
 cases R3:(cf.sw||qw bs) with
 |true=>
  rw[R3] at vk;rw[if_pos (by simp)];refine WX.hp (H':=[[(pb,.cells (List.toArray [v2,.bool true]) 278 (0,0))],h2,[(bt,.cells e.ZE.enc.toArray 49 (0,0))],nk o (O1 2) v1,h1,[(bw,.cells (Rec.enc ⟨2,ya.z,cf,bs⟩).toArray 140 (0,0))],[(b,.cells (Rec.enc ⟨2,e,cf,bs⟩).toArray 140 (0,0))],R]) (by rw[<-vk]) ?_;try refine run ?_
  refine D.Pe ?_
  exact D.Vb [[]] _ rfl rfl rfl ⟨_,_,rfl,rfl,ia.nil _⟩
 |false=>
  rw[R3] at vk;refine WX.hp (H':=[[(pb,.cells (List.toArray [v2,.bool false]) 278 (0,0))],h2,[(bt,.cells e.ZE.enc.toArray 49 (0,0))],nk o (O1 2) v1,h1,[(bw,.cells (Rec.enc ⟨2,ya.z,cf,bs⟩).toArray 140 (0,0))],[(b,.cells (Rec.enc ⟨2,e,cf,bs⟩).toArray 140 (0,0))],R]) (by rw[<-vk]) ?_;by_cases heq:Rec.mk 2 e cf bs=⟨2,ya.z,cf,bs⟩
  .rw[Mi heq] at hcmp;rw[if_neg (by rw[Mi heq.symm];simp)];have M8:e=ya.z:=by simpa using heq
   repeat' first|refine bn b 0 (Rec.enc ⟨2,e,cf,bs⟩) (Rec.enc ⟨2,e,cf,bs⟩) ?_|refine bn bw 0 (Rec.enc ⟨2,ya.z,cf,bs⟩) (Rec.enc ⟨2,ya.z,cf,bs⟩) ?_|refine WX.aj rfl rfl hcmp rfl ?_|refine wm ?_|fail
   refine Up [(⟨e.key⟩:Sb)] (λv3 h3 Cc=>?_);try refine run ?_
   refine Up [(⟨e.val⟩:Sb)] (λv4 h4 hs4=>?_);have kz:=nA Cc.rs hs4.rs;have jx: ¬(16<e.key.size\/32<e.val.size):=by rw[M8];decide
   refine cq (Ct.mono kz (post':=λr H'=>r= .bool false/\H'=[_,h4]) (λr H' p=>⟨p.1.trans (congrArg _ (rj jx)),p.2⟩)) ?_;repeat' first|refine WX.load (v:= .int .i64 2) (b:=b) (i:=0) (cs:=Rec.enc ⟨2,e,cf,bs⟩) rfl rfl rfl ?_|refine WX.Ea (b:=b) (i:=21) (cs:=Rec.enc ⟨2,e,cf,bs⟩) (vs:=cf.enc) rfl (Rec.qT _ _ _ _) rfl rfl ?_|refine wm ?_|fail
   refine ck (JN hs1 (by omega) cf) ?_;rintro _ _ ⟨v5,h5,rfl,hs5⟩;generalize cf.Xj (O1 2)=S at*;simp only[can];repeat' first|refine WX.load (v:= .int .i64 bs) (b:=b) (i:=34) (cs:=Rec.enc ⟨2,e,cf,bs⟩) rfl rfl rfl ?_|refine wm ?_|fail
   refine ck (Wj hs5 (by omega) (n:=bs)) ?_;rintro _ _ ⟨v7,h7,rfl,Gn⟩;have l4:=S.Cu (o:=0) (n:=bs);generalize S.put (.num 0) (bs)=T at*;simp only[can];repeat' first|refine wm ?_|fail
   refine ck (nw Gn.rs (by omega)) ?_;rintro u6 _ ⟨h6,rfl,Nq⟩;refine rn ?_;exact D.Vb [h6] _ rfl rfl rfl ⟨_,_,rfl,rfl,Nq⟩
  .rw[rj heq] at hcmp;rw[if_pos (by rw[rj (λh=>heq h.symm)];simp)];repeat' first|refine bn b 0 (Rec.enc ⟨2,e,cf,bs⟩) (Rec.enc ⟨2,e,cf,bs⟩) ?_|refine bn bw 0 (Rec.enc ⟨2,ya.z,cf,bs⟩) (Rec.enc ⟨2,ya.z,cf,bs⟩) ?_|refine WX.aj rfl rfl hcmp rfl ?_|refine wm ?_|fail
   refine D.Pe ?_;exact D.Vb [[]] _ rfl rfl rfl ⟨_,_,rfl,rfl,ia.nil _⟩
def tT(e:ya)(cf:Wa)(bs:Int):Ct prog 216 [.agg (Rec.enc ⟨3,e,cf,bs⟩).toArray] [] (MN (ni (Rec.w ⟨3,e,cf,bs⟩))):=by
 rw[YY];have hcmp:=rec_eq ⟨3,e,cf,bs⟩ ⟨3,ya.z,Wa.z,0⟩;have l1:=mM (k:=3);refine ce func216 λg R=>?_;simp only[can];by_cases heq:Rec.mk 3 e cf bs=⟨3,ya.z,Wa.z,0⟩
 .rw[Mi heq] at hcmp;rw[if_neg (by rw[Mi heq.symm];simp)]
  have M8:e=ya.z:=by
   simp only[Rec.mk.injEq,true_and] at heq;exact heq.1
  repeat' apply go
  refine WX.box (vs:=Rec.enc ⟨3,e,cf,bs⟩) rfl rfl rfl (λb=>?_);repeat' first|refine WX.load (v:= .int .i64 3) (b:=b) (i:=0) (cs:=Rec.enc ⟨3,e,cf,bs⟩) rfl rfl rfl ?_|refine wm ?_|refine Uc λ_=>?_|refine al λ_=>?_
  rename_i bw o;refine WX.h0 [nk o {} (.slice none 0 0),[(bw,.cells (Rec.enc ⟨3,ya.z,Wa.z,0⟩).toArray 140 (0,0))],[(b,.cells (Rec.enc ⟨3,e,cf,bs⟩).toArray 140 (0,0))],R] ?_;refine WX.Pe ?_;refine ck (Wj (O:={}) (ia.nil _) (by decide) (n:=3)) ?_;rintro _ _ ⟨v1,h1,rfl,hs1⟩;have hs1:ia 5 (O1 3).b v1 h1:=hs1;refine WX.h0 [nk o (O1 3) v1,h1,[(bw,.cells (Rec.enc ⟨3,ya.z,Wa.z,0⟩).toArray 140 (0,0))],[(b,.cells (Rec.enc ⟨3,e,cf,bs⟩).toArray 140 (0,0))],R] ?_;repeat' first|refine WX.load (v:= .int .i64 3) (b:=b) (i:=0) (cs:=Rec.enc ⟨3,e,cf,bs⟩) rfl rfl rfl ?_|refine WX.Ea (b:=b) (i:=1) (cs:=Rec.enc ⟨3,e,cf,bs⟩) (vs:=e.enc) rfl (Rec.oA _ _ _ _) rfl rfl ?_|refine bn b 0 (Rec.enc ⟨3,e,cf,bs⟩) (Rec.enc ⟨3,e,cf,bs⟩) ?_|refine bn bw 0 (Rec.enc ⟨3,ya.z,Wa.z,0⟩) (Rec.enc ⟨3,ya.z,Wa.z,0⟩) ?_|refine WX.aj rfl rfl hcmp rfl ?_|refine wm ?_|refine Uc λ_=>?_|refine al λ_=>?_
  rename_i bt pb;refine Up [(⟨e.key⟩:Sb)] (λv3 h3 Cc=>?_);try refine run ?_
  refine Up [(⟨e.val⟩:Sb)] (λv4 h4 hs4=>?_);have kz:=nA Cc.rs hs4.rs;have jx: ¬(16<e.key.size\/32<e.val.size):=by rw[M8];decide
  refine cq (Ct.mono kz (post':=λr H'=>r= .bool false/\H'=[h3,h4]) (λr H' p=>⟨p.1.trans (congrArg _ (rj jx)),p.2⟩)) ?_;repeat' first|refine WX.load (v:= .int .i64 3) (b:=b) (i:=0) (cs:=Rec.enc ⟨3,e,cf,bs⟩) rfl rfl rfl ?_|refine wm ?_|fail
  refine ck (nw hs1.rs (by omega)) ?_;rintro u6 _ ⟨h6,rfl,Nq⟩;refine rn ?_;exact D.Vb [h6] _ rfl rfl rfl ⟨_,_,rfl,rfl,Nq⟩
 .rw[rj heq] at hcmp;rw[if_pos (by rw[rj (λh=>heq h.symm)];simp)];repeat' apply go
  refine WX.box (vs:=Rec.enc ⟨3,e,cf,bs⟩) rfl rfl rfl (λb=>?_);repeat' first|refine WX.load (v:= .int .i64 3) (b:=b) (i:=0) (cs:=Rec.enc ⟨3,e,cf,bs⟩) rfl rfl rfl ?_|refine wm ?_|refine Uc λ_=>?_|refine al λ_=>?_
  rename_i bw o;refine WX.h0 [nk o {} (.slice none 0 0),[(bw,.cells (Rec.enc ⟨3,ya.z,Wa.z,0⟩).toArray 140 (0,0))],[(b,.cells (Rec.enc ⟨3,e,cf,bs⟩).toArray 140 (0,0))],R] ?_;refine WX.Pe ?_;refine ck (Wj (O:={}) (ia.nil _) (by decide) (n:=3)) ?_;rintro _ _ ⟨v1,h1,rfl,hs1⟩;have hs1:ia 5 (O1 3).b v1 h1:=hs1;refine WX.h0 [nk o (O1 3) v1,h1,[(bw,.cells (Rec.enc ⟨3,ya.z,Wa.z,0⟩).toArray 140 (0,0))],[(b,.cells (Rec.enc ⟨3,e,cf,bs⟩).toArray 140 (0,0))],R] ?_;repeat' first|refine WX.load (v:= .int .i64 3) (b:=b) (i:=0) (cs:=Rec.enc ⟨3,e,cf,bs⟩) rfl rfl rfl ?_|refine WX.Ea (b:=b) (i:=1) (cs:=Rec.enc ⟨3,e,cf,bs⟩) (vs:=e.enc) rfl (Rec.oA _ _ _ _) rfl rfl ?_|refine bn b 0 (Rec.enc ⟨3,e,cf,bs⟩) (Rec.enc ⟨3,e,cf,bs⟩) ?_|refine bn bw 0 (Rec.enc ⟨3,ya.z,Wa.z,0⟩) (Rec.enc ⟨3,ya.z,Wa.z,0⟩) ?_|refine WX.aj rfl rfl hcmp rfl ?_|refine wm ?_|refine Uc λ_=>?_|refine al λ_=>?_
  rename_i bt pb;refine D.Pe ?_;exact D.Vb [[]] _ rfl rfl rfl ⟨_,_,rfl,rfl,ia.nil _⟩
def uT{k:Int}(e:ya)(cf:Wa)(bs:Int)(n1:k≠1)(n2:k≠2)(n3:k≠3):Ct prog 216 [.agg (Rec.enc ⟨k,e,cf,bs⟩).toArray] [] (MN (ni (Rec.w ⟨k,e,cf,bs⟩))):=by
 rw[ZY e cf bs n1 n2 n3];refine ce func216 λg R=>?_;simp only[can];repeat' apply go
 refine WX.box (vs:=Rec.enc ⟨k,e,cf,bs⟩) rfl rfl rfl (λb=>?_);repeat' first|refine WX.load (v:= .int .i64 k) (b:=b) (i:=0) (cs:=Rec.enc ⟨k,e,cf,bs⟩) rfl rfl rfl ?_|refine wm ?_|refine Uc λ_=>?_|refine al λ_=>?_
 rename_i bw o;refine WX.h0 [nk o {} (.slice none 0 0),[(bw,.cells (Rec.enc ⟨k,ya.z,Wa.z,0⟩).toArray 140 (0,0))],[(b,.cells (Rec.enc ⟨k,e,cf,bs⟩).toArray 140 (0,0))],R] ?_;refine WX.Pe ?_;refine ck (Wj (O:={}) (ia.nil _) (by decide) (n:=k)) ?_;rintro _ _ ⟨v1,h1,rfl,hs1⟩;have hs1:ia 5 (O1 k).b v1 h1:=hs1;refine WX.h0 [nk o (O1 k) v1,h1,[(bw,.cells (Rec.enc ⟨k,ya.z,Wa.z,0⟩).toArray 140 (0,0))],[(b,.cells (Rec.enc ⟨k,e,cf,bs⟩).toArray 140 (0,0))],R] ?_;repeat' first|refine WX.load (v:= .int .i64 k) (b:=b) (i:=0) (cs:=Rec.enc ⟨k,e,cf,bs⟩) rfl rfl rfl ?_|refine WX.Ea (b:=b) (i:=1) (cs:=Rec.enc ⟨k,e,cf,bs⟩) (vs:=e.enc) rfl (Rec.oA _ _ _ _) rfl rfl ?_|refine wm ?_|refine Uc λ_=>?_|refine al λ_=>?_
 rename_i bt pb;refine D.Pe ?_;exact D.Vb [[]] _ rfl rfl rfl ⟨_,_,rfl,rfl,ia.nil _⟩
def NN(r:Rec)(hz:r.size<=1073741824):Ct prog 216 [.agg r.enc.toArray] [] (λres H'=>∃u hb,res= .tuple #[u,r.code]/\H'=[hb]/\ia 5 r.fr u hb):=by
 obtain⟨k,e,cf,bs⟩:=r;unfold Rec.size at hz;simp only[] at hz;by_cases n1:k=1
 .subst n1;exact nT e cf bs (by omega) (by omega)
 by_cases n2:k=2
 .subst n2;exact oT e cf bs
 by_cases n3:k=3
 .subst n3;exact tT e cf bs
 exact uT e cf bs n1 n2 n3
variable{B:List UInt8}{p:Nat}
abbrev cn(o:Nat)(v:Value)(p:Nat):Hp:=[(o,.cells (List.toArray [v,.int .i64 (p:Int),.bool false]) 274 (0,0))]
def qq(o:Nat)(v:Value)(h:Hp)(p:Nat)(u:Value):Value->HH->Prop:=λr H'=>r=u/\H'=[cn o v p,h]
def TJ{v:Value}(hr:Rs B v h){x:UInt8}(hx:B[p]? =some x)(hl:B.length<=1099511627776){o:Nat}:
  Ct prog 290 [o] [cn o v p,h] (qq o v h (p+1) (.int .u8 (x.toNat:Int))):=by
 have hlt:=(List.getElem?_eq_some_iff.1 hx).1;obtain⟨q,c,rfl⟩:=hr.len;have hx':B[((p:Int)+1 - 1).toNat]? =some x:=by rw[show((p:Int)+1 - 1).toNat=p by omega];exact hx
 refine Tk func290 λg R=>?_;refine wr ?_;refine wr ?_;refine D.hp (H':=[cn o (.slice q B.length c) (p+1),h,R]) rfl ?_;exact Wi [cn o (.slice q B.length c) (p+1),h]
def aZ(x:Nat):x &&& 127=x% 128:=Nat.and_two_pow_sub_one_eq_mod x 7
def ON{v:Value}(hs:Rs B v h){n:Nat}(hn:n<=4611686018427387904){rest:List UInt8}(hd:B.drop p=Ed n++rest)(hl:B.length<=1099511627776){o:Nat}:
  Ct prog 259 [o] [cn o v p,h] (qq o v h (p+(Ed n).length) (.int .i64 (n:Int))):=by
 refine Tk func259 λg R=>?_;refine W.as 3 (.int .u64 ((n% 128^0:Nat):Int)) rfl (by rw[Nat.pow_zero,Nat.mod_one];rfl) ?_;refine W.lo (α:=Nat) (λi=>i=0\/1<=n/128^i) (λi=>[(0,o),(3,.int .u64 ((n% 128^i:Nat):Int)),(4,.int .i64 (i:Int))]) (λi=>[cn o v (p+i),h,R]) (λi=>9 - i) 0 (.inl rfl) ?_;intro i hi;have K8:=le8 hn hi;obtain⟨pre,DO,hpe⟩:=PN i n hi;have hlen:(Ed n).length=i+(Ed (n/128^i)).length:=by rw[hpe,Eb,DO]
 have Sp:B.drop (p+i)=Ed (n/128^i)++rest:=by
  rw[<-drop_drop,hd,hpe,Sc,drop_append_of_le_length (by omega),<-DO,drop_length];rfl
 have hpi:p+i<B.length:=by
  have:=congrArg List.length Sp;rw[length_drop,Eb] at this;have:=Eu (n/128^i);omega
 have hmn:n% 128^i<=n:=Nat.mod_le _ _;have hsu:n% 128^(i+1)=n% 128^i+n/128^i% 128*2^(7*i):=by rw[vT,Nat.pow_succ,Nat.mod_mul,Nat.mul_comm (128^i)]
 have N8:n% 128^(i+1)<=n:=Nat.mod_le _ _;have hb:n/128^i% 128*2^(7*i)<=4611686018427387904:=by omega
 have h7:7*i<=IntKind.u64.bits:=by show 7*i<=64;omega
 generalize hm:n/128^i=m at*;obtain⟨x,hx⟩:=Lh hpi;have hx0:(Ed m++rest)[0]? =some x:=by rw[<-Sp,List.getElem?_drop];exact hx
 have uX:=Mh x
 have IQ:x.toNat% 128=m% 128/\(m<128->x.toNat=m)/\(¬m<128->128<=x.toNat):=by
  by_cases hge:m<128
  .rw[mg hge] at hx0;have h1:UInt8.ofNat m=x:=by simpa using hx0
   have h2:x.toNat=m:=by rw[<-h1,Of (by omega)]
   exact⟨by rw[h2],λ_=>h2,λh=>absurd hge h⟩
  .rw[Qo hge] at hx0;have h1:UInt8.ofNat (128+m% 128)=x:=by simpa using hx0
   have h2:x.toNat=128+m% 128:=by rw[<-h1,Of (by omega)]
   exact⟨by omega,λh=>absurd h hge,λ_=>by omega⟩
 try refine run ?_
 refine ck (TJ hs hx hl) ?_;rintro _ _ ⟨rfl,rfl⟩;repeat' first|refine rn ?_|refine WX.O8 (b:=127) rfl rfl uX (by decide) rfl ?_
 refine WX.as 14 (.int .u8 ((m% 128:Nat):Int)) rfl (by rw[aZ,IQ.1]) ?_;refine WX.conv rfl rfl (IntWalk.u64_in _ (by omega)) ?_;repeat' first|refine run ?_|refine WX.mul rfl rfl rfl (by omega) ?_
 refine WX.as 17 (.int .i64 ((7*i:Nat):Int)) rfl (by congr 1) ?_;refine WX.MP rfl rfl h7 (IntWalk.u64_in _ ⟨Int.natCast_nonneg _,Int.le_trans (Int.ofNat_le.2 hb) (by decide)⟩) rfl ?_;refine WX.rW rfl rfl rfl ?_;refine WX.as 19 (.int .u64 ((n% 128^(i+1):Nat):Int)) rfl (by rw[<-Int.natCast_add,<-hsu];exact congrArg _ (IntWalk.u64_in _ (by omega))) ?_;by_cases hge:m<128
 .have hx2:=IQ.2.1 hge
  have VA:n% 128^(i+1)=n:=by
   refine Nat.mod_eq_of_lt ?_;rw[Nat.pow_succ,Nat.mul_comm,<-Nat.div_lt_iff_lt_mul (Nat.pow_pos (by decide)),hm];exact hge
  have cg:(Ed n).length=i+1:=by rw[hlen,mg hge];rfl
  rw[cg,show p+(i+1)=p+i+1 from rfl];by_cases hm0:m=0
  .have CQ:i=0:=by omega
   repeat' first|refine run ?_|refine WX.conv rfl rfl (IntWalk.i64_in _ (by omega)) ?_
   exact Xa [cn o v (p+i+1),h] rfl rfl ⟨by rw[VA],rfl⟩
  .repeat' first|refine run ?_|refine WX.conv rfl rfl (IntWalk.i64_in _ (by omega)) ?_
   exact Xa [cn o v (p+i+1),h] rfl rfl ⟨by rw[VA],rfl⟩
 .have hx2:=IQ.2.2 hge;try refine run ?_
  exact D.rd (i+1) (.inr (by rw[Nat.pow_succ,<-Nat.div_div_eq_div_mul,hm];omega)) (by omega)
variable{rest:List UInt8}
def sW{v:Value}(hs:Rs B v h){t:Bool}(hd:B.drop p=Ed (if t=true then 1 else 0)++rest)(hl:B.length<=1099511627776){o:Nat}:
  Ct prog 292 [o] [cn o v p,h] (qq o v h (p+(Ed (if t=true then 1 else 0)).length) (.bool t)):=by
 have hx:B[p]? =some (if t=true then 1 else 0):=by
  have:(B.drop p)[0]? =some (if t=true then 1 else 0):=by
   rw[hd];cases t
   .rw[if_neg (by decide),mg (by decide)];rfl
   .rw[if_pos rfl,mg (by decide)];rfl
  rwa [List.getElem?_drop] at this
 have cg:(Ed (if t=true then 1 else 0)).length=1:=by
  cases t
  .rw[if_neg (by decide),mg (by decide)];rfl
  .rw[if_pos rfl,mg (by decide)];rfl
 rw[cg];refine Tk func292 λg R=>?_;refine ck (TJ hs hx hl) ?_;rintro _ _ ⟨rfl,rfl⟩;simp only[can]
 cases t with
 |true=>
  rw[show(((if true=true then 1 else 0:UInt8).toNat:Nat):Int)=1 from rfl];try refine run ?_
  exact Wi [cn o v (p+1),h]
 |false=>
  rw[show(((if false=true then 1 else 0:UInt8).toNat:Nat):Int)=0 from rfl];try refine run ?_
  exact Wi [cn o v (p+1),h]
def tW{v:Value}(hs:Rs B v h){s:ByteArray}{most:Nat}(hm:s.data.toList.length<=most)(vX:most<=1000)(hd:B.drop p=(Ed s.data.toList.length++s.data.toList)++rest)(hl:B.length<=1099511627776){o:Nat}:
  Ct prog 291 [o,.int .i64 (most:Int)] [cn o v p,h] (qq o v h (p+(Ed s.data.toList.length++s.data.toList).length) (.string s)):=by
 rw[Sc] at hd;rw[Eb]
 have Jd:B.drop (p+(Ed s.data.toList.length).length)=s.data.toList++rest:=by
  rw[<-drop_drop,hd,drop_left]
 have hle:=congrArg List.length Jd;rw[length_drop,Eb] at hle;have P8:=congrArg List.length hd;rw[length_drop,Eb,Eb] at P8;have hpos:=Eu s.data.toList.length;obtain⟨q,c,rfl⟩:=hs.len;have hcap:B.length<=c:=by obtain⟨a,cc,e,le,_⟩:=id hs;cases e;exact le
 generalize hp1:p+(Ed s.data.toList.length).length=p1 at*
 have hrc:Rs s.data.toList (Ui (.slice q B.length c) 1 p1 (p1+s.data.toList.length) c) h:=by
  have:=hs.cut (m:=1) (lo:=p1) (hi:=p1+s.data.toList.length) (mx:=c) rfl (by omega) (by omega) (by omega);rw[Jd,show p1+s.data.toList.length - p1=s.data.toList.length from by omega,take_left] at this;exact this
 have aP:=ON (o:=o) hs (n:=s.data.toList.length) (by omega) hd hl;rw[hp1] at aP;generalize hz:s.data.toList.length=z at*;refine Tk func291 λg R=>?_;refine ck aP ?_;rintro _ _ ⟨rfl,rfl⟩;refine rn ?_;refine wr ?_;refine wr ?_;refine WX.as 52 (.int .i64 (p1:Int)) rfl (by congr 1;omega) ?_;refine WX.as 56 (.int .i64 ((p1+z:Nat):Int)) rfl rfl ?_;refine WX.EJ (lo:=p1) (hi:=p1+z) rfl rfl rfl (by omega) (by omega) rfl ?_;refine WX.strOf rfl hrc rfl ?_;rw[qA];try refine run ?_
 refine D.hp (H':=[cn o (.slice q B.length c) (p1+z),h,R]) rfl ?_;exact Xa [cn o (.slice q B.length c) (p1+z),h] rfl rfl ⟨rfl,by rw[<-hp1,Nat.add_assoc]⟩
def Rd(B:List UInt8):Nat->List (It×Value)->Nat->Prop
 |p,[],q=>p=q
 |p,x::l,q=>∃b rest,encI x.1 x.2=some b/\Ij x.1 x.2=false/\B.drop p=b++rest/\Rd B (p+b.length) l q
def Rd.split{B:List UInt8}:∀{l m:List (It×Value)} {p q:Nat},Rd B p (l++m) q->∃s,Rd B p l s/\Rd B s m q
 |[],m,p,q,h=>⟨p,rfl,h⟩
 |x::l,m,p,q,h=>by
  obtain⟨b,rest,h1,h2,h3,h4⟩:=h;obtain⟨s,h5,h6⟩:=Rd.split (l:=l) h4;exact⟨s,⟨b,rest,h1,h2,h3,h5⟩,h6⟩
section
variable{B:List UInt8}{v:Value}{h:Hp}{p o:Nat}
def Ge(hs:Rs B v h){n:Int}{b rest:List UInt8}{j:Nat}(he:encI (.num j) (n)=some b)(hd:B.drop p=b++rest)(hl:B.length<=1099511627776):
  Ct prog 259 [o] [cn o v p,h] (qq o v h (p+b.length) (n)):=by
 have hne: ¬(n<0\/4611686018427387904<n):=λhc=>by rw[Eh,if_pos hc] at he;cases he
 have he:b=Ed n.toNat:=by rw[Eh,if_neg hne] at he;exact(Option.some.inj he).symm
 subst he;obtain⟨m,rfl⟩:∃m:Nat,n=(m:Int):=⟨n.toNat,by omega⟩;rw[Int.toNat_natCast] at hd⊢;exact ON hs (by omega) hd hl
def UJ(hs:Rs B v h){t:Bool}{b rest:List UInt8}{j:Nat}(he:encI (.Xn j) (.bool t)=some b)(hd:B.drop p=b++rest)(hl:B.length<=1099511627776):
  Ct prog 292 [o] [cn o v p,h] (qq o v h (p+b.length) (.bool t)):=by
 have he:b=Ed (if t=true then 1 else 0):=(Option.some.inj he).symm;subst he;exact sW hs hd hl
def VJ(hs:Rs B v h){s:ByteArray}{b rest:List UInt8}{j most:Nat}(vX:most<=1000)(he:encI (.Bj j most) (.string s)=some b)(hg:Ij (.Bj j most) (.string s)=false)(hd:B.drop p=b++rest)(hl:B.length<=1099511627776):
  Ct prog 291 [o,.int .i64 (most:Int)] [cn o v p,h] (qq o v h (p+b.length) (.string s)):=by
 have he:b=Ed s.data.toList.length++s.data.toList:=(Option.some.inj he).symm;have hm: ¬most<s.data.toList.length:=of_decide_eq_false hg;subst he;exact tW hs (by omega) vX hd hl
end
def QN{B:List UInt8}{v:Value}{h:Hp}(hs:Rs B v h){p p' i j:Nat}{x y:Int}(hrd:Rd B p [(.num i,x),(.num j,y)] p')(hl:B.length<=1099511627776){o:Nat}:
  Ct prog 294 [o] [cn o v p,h] (qq o v h p' (.agg #[x,y])):=by
 obtain⟨b0,r0,e0,-,d0,b1,r1,e1,-,d1,rfl⟩:=hrd;refine ce func294 λg R=>?_;repeat' first|refine rn ?_|refine al λ_=>?_
 rename_i b2 b3;refine ck (Ge hs e0 d0 hl) ?_;rintro _ _ ⟨rfl,rfl⟩;refine rn ?_;refine ck (Ge hs e1 d1 hl) ?_;rintro _ _ ⟨rfl,rfl⟩;refine rn ?_;exact D.Gc [cn o v (p+b0.length+b1.length),h] _ rfl (.Va rfl rfl .nil) ⟨rfl,rfl⟩
variable{xs zs:List Value}{j:Nat}{d:V9}
def Qf(xs zs:List Value)(j:Nat):List Value:=xs.take j++zs.drop j
def wT{x:Value}(hx:xs[j]? =some x)(hz:zs.length=xs.length):(Qf xs zs j).set j x=Qf xs zs (j+1):=by
 obtain⟨h1,h2⟩:=List.getElem?_eq_some_iff.1 hx;unfold Qf;have h3:(xs.take j).length=j:=by rw[Oe];omega
 rw[set_append_right _ _ (by omega),h3,Nat.sub_self,drop_eq_getElem_cons (by omega:j<zs.length),set_cons_zero,take_succ_eq_append_getElem h1,h2,Sc];rfl
def WJ(hz:zs.length=xs.length)(hj:j<=xs.length):(Qf xs zs j).length=xs.length:=by
 unfold Qf;rw[Eb,Oe,length_drop];omega
def To(o:Nat)(d:V9):List (It×Value):=(Px o).zip d.enc
def XJ{o:Nat}{x:Int}(h:j<9)(hx:d.enc[j]? =some (.int .i64 x)):(To o d).drop j=(.num (o+j),.int .i64 x)::(To o d).drop (j+1):=by
 have hl:(To o d).length=9:=rfl;rw[drop_eq_getElem_cons (by omega)];congr 1
 have h1:(To o d)[j]? =some (It.num (o+j),Value.int .i64 x):=by
  unfold To;rw[List.getElem?_zip_eq_some];exact⟨by unfold Px;simp[h],hx⟩
 exact(List.getElem?_eq_some_iff.1 h1).2
def uW{B:List UInt8}{v:Value}{h:Hp}(hs:Rs B v h){p p' k0:Nat}(hrd:Rd B p (To k0 d) p')(hl:B.length<=1099511627776){o:Nat}:
  Ct prog 293 [o] [cn o v p,h] (qq o v h p' (.agg d.enc.toArray)):=by
 have hzl:V9.z.enc.length=d.enc.length:=rfl;have hdl:d.enc.length=9:=rfl;refine ce func293 λg R=>?_;repeat' first|refine rn ?_|refine al λ_=>?_
 rename_i b2 b3;refine W.h0 [[(b3,.cells (Qf d.enc V9.z.enc (0*3+0)).toArray 47 (0,0))],[(b2,.cells V9.z.enc.toArray 47 (0,0))],cn o v p,h,R] ?_
 refine W.lo (α:=Nat×Nat) (λx=>x.1<=3/\Rd B x.2 ((To k0 d).drop (x.1*3+0)) p') (λx=>[(0,o),(2,b2),(3,b3),(4,.int .i64 (x.1:Int))])
  (λx=>[[(b3,.cells (Qf d.enc V9.z.enc (x.1*3+0)).toArray 47 (0,0))],[(b2,.cells V9.z.enc.toArray 47 (0,0))],cn o v x.2,h,R]) (λx=>3 - x.1) (0,p) ⟨di _,hrd⟩ ?_
 rintro⟨k,q⟩ ⟨hk,hq⟩;simp only[] at hk hq⊢;by_cases pW:k<3
 .try refine run ?_
  refine W.lo (α:=Nat×Nat) (λx=>x.1<=3/\Rd B x.2 ((To k0 d).drop (k*3+x.1)) p') (λx=>[(0,o),(2,b2),(3,b3),(4,.int .i64 (k:Int)),(5,.int .i64 (x.1:Int))])
   (λx=>[[(b3,.cells (Qf d.enc V9.z.enc (k*3+x.1)).toArray 47 (0,0))],[(b2,.cells V9.z.enc.toArray 47 (0,0))],cn o v x.2,h,R]) (λx=>3 - x.1) (0,q) ⟨di _,hq⟩ ?_
  rintro⟨r,s⟩ ⟨hr,FF⟩;simp only[] at hr FF⊢;by_cases mX:r<3
  .obtain⟨x,-,hx⟩:=d.at9 (j:=k*3+r) (by omega);rw[XJ (by omega) hx] at FF;obtain⟨b,rest,e1,-,d1,FF⟩:=FF;have hfl:=WJ (j:=k*3+r) hzl (by omega);have hlt:Nat.blt (k*3+r) (Qf d.enc V9.z.enc (k*3+r)).length=true:=Nat.ble_eq_true_of_le (by rw[hfl,hdl];omega);have fY:=wT hx hzl;try refine run ?_
   refine W.mix [true,true,true,false,true,true,false] ([]:HH) Tryz.mix (by kernel_rfl) ?_;try refine run ?_
   refine ck (Ge hs e1 d1 hl) ?_;rintro _ _ ⟨rfl,rfl⟩;refine rn ?_;refine WX.as 19 (.pointer (some ⟨b3,k*3+r,none⟩)) rfl (by rw[Int.toNat_natCast,Int.toNat_natCast,Nat.mul_one,Nat.zero_add]) ?_;refine WX.store (v:= .int .i64 x) (b:=b3) (i:=k*3+r) (cs:=Qf d.enc V9.z.enc (k*3+r)) rfl rfl rfl hlt ?_;rw[fY];try refine run ?_
   exact D.rd (r+1,s+b.length) ⟨by simp only[];omega,FF⟩ (by simp only[];omega)
  .obtain rfl:r=3:=by omega
   rw[show k*3+3=(k+1)*3+0 by omega] at FF⊢;try refine run ?_
   exact D.rd (k+1,s) ⟨by simp only[];omega,FF⟩ (by simp only[];omega)
 .obtain rfl:k=3:=by omega
  have hq:q=p':=hq;subst hq;rw[show Qf d.enc V9.z.enc (3*3+0)=d.enc from rfl];try refine run ?_
  exact D.Gc [cn o v q,h] _ rfl (.Va rfl rfl .nil) ⟨rfl,rfl⟩
variable{p' k0:Nat}
def uw(o:Nat)(c:Wa):List (It×Value):=(BH o).zip c.enc
def nM(o:Nat)(c:Wa){i:Nat}(h:i<4):∃(m:Mem) (j k:Nat),(uw o c).drop (2+i*2)=[(.num j,.int .i64 m.nd),(.num k,.int .i64 m.sn)]++(uw o c).drop (2+(i+1)*2)/\setAt (Qf c.enc Wa.z.enc (2+i*2)) (2+i*2) [.int .i64 m.nd,.int .i64 m.sn]=Qf c.enc Wa.z.enc (2+(i+1)*2):=by
 match i,h with
 |0,_=>exact⟨c.f0,_,_,rfl,rfl⟩
 |1,_=>exact⟨c.f1,_,_,rfl,rfl⟩
 |2,_=>exact⟨c.f2,_,_,rfl,rfl⟩
 |3,_=>exact⟨c.f3,_,_,rfl,rfl⟩
def vW{v:Value}(hs:Rs B v h){p:Nat}{c:Wa}(hrd:Rd B p (uw k0 c) p')(hl:B.length<=1099511627776){o:Nat}:
  Ct prog 261 [o] [cn o v p,h] (qq o v h p' (.agg c.enc.toArray)):=by
 have hzl:Wa.z.enc.length=c.enc.length:=rfl;obtain⟨b0,r0,e0,-,d0,b1,r1,e1,-,d1,hrd⟩:=hrd;have hrd:Rd B (p+b0.length+b1.length) ((uw k0 c).drop (2+0*2)) p':=hrd;refine ce func261 λg R=>?_;repeat' first|refine rn ?_|refine al λ_=>?_
 rename_i b2 b3;refine WX.h0 [[(b3,.cells (Qf c.enc Wa.z.enc 0).toArray 40 (0,0))],[(b2,.cells Wa.z.enc.toArray 40 (0,0))],cn o v p,h,R] ?_;refine ck (Ge hs e0 d0 hl) ?_;rintro _ _ ⟨rfl,rfl⟩;simp only[can];repeat' first|refine WX.store (v:= .int .i64 c.ep) (b:=b3) (i:=0) (cs:=Qf c.enc Wa.z.enc 0) rfl rfl rfl rfl ?_|refine wm ?_|fail
 refine WX.h0 [cn o v (p+b0.length),h,[(b3,.cells (Qf c.enc Wa.z.enc 1).toArray 40 (0,0))],[(b2,.cells Wa.z.enc.toArray 40 (0,0))],R] ?_;refine ck (Ge hs e1 d1 hl) ?_;rintro _ _ ⟨rfl,rfl⟩;simp only[can];repeat' first|refine WX.store (v:= .int .i64 c.n) (b:=b3) (i:=1) (cs:=Qf c.enc Wa.z.enc 1) rfl rfl rfl rfl ?_|refine wm ?_|fail
 refine W.h0 [cn o v (p+b0.length+b1.length),h,[(b3,.cells (Qf c.enc Wa.z.enc (2+0*2)).toArray 40 (0,0))],[(b2,.cells Wa.z.enc.toArray 40 (0,0))],R] ?_
 refine W.lo (α:=Nat×Nat) (λx=>x.1<=4/\Rd B x.2 ((uw k0 c).drop (2+x.1*2)) p') (λx=>[(0,o),(2,b2),(3,b3),(4,.int .i64 (x.1:Int))])
  (λx=>[cn o v x.2,h,[(b3,.cells (Qf c.enc Wa.z.enc (2+x.1*2)).toArray 40 (0,0))],[(b2,.cells Wa.z.enc.toArray 40 (0,0))],R]) (λx=>4 - x.1) (0,p+b0.length+b1.length) ⟨di _,hrd⟩ ?_
 rintro⟨i,q⟩ ⟨hi,hq⟩;simp only[] at hi hq⊢;by_cases hi4:i<4
 .obtain⟨m,j,k,e2,e3⟩:=nM k0 c hi4;rw[e2] at hq;obtain⟨s,hm,hq⟩:=hq.split;have hfl:=WJ (j:=2+i*2) hzl (by rw[Wa.SJ];omega);have Q8:Nat.ble (2+i*2+[Value.int .i64 m.nd,m.sn].length) (Qf c.enc Wa.z.enc (2+i*2)).length=true:=Nat.ble_eq_true_of_le (by rw[hfl,Wa.SJ];simp only[Ib,td];omega);try refine run ?_
  refine ck (QN hs hm hl) ?_;rintro _ _ ⟨rfl,rfl⟩;refine rn ?_;refine WX.as 19 (.pointer (some ⟨b3,2+i*2,none⟩)) rfl (by rw[Int.toNat_natCast,Nat.zero_add]) ?_;refine WX.qd (vs:=[m.nd,m.sn]) (b:=b3) (i:=2+i*2) (cs:=Qf c.enc Wa.z.enc (2+i*2)) rfl rfl rfl rfl rfl Q8 ?_;rw[e3];try refine run ?_
  exact D.rd (i+1,s) ⟨by simp only[];omega,hq⟩ (by simp only[];omega)
 .obtain rfl:i=4:=by omega
  obtain⟨b4,r4,e4,-,d4,hq⟩:=hq;have hq:Rd B (q+b4.length) [(.num (k0+11),c.le.nd),(.num (k0+12),c.le.sn)] p':=hq;try refine run ?_
  refine ck (UJ hs e4 d4 hl) ?_;rintro _ _ ⟨rfl,rfl⟩;simp only[can];repeat' first|refine WX.store (v:= .bool c.jo) (b:=b3) (i:=10) (cs:=Qf c.enc Wa.z.enc (2+4*2)) rfl rfl rfl rfl ?_|refine wm ?_|fail
  refine WX.h0 [cn o v (q+b4.length),h,[(b3,.cells (Qf c.enc Wa.z.enc 11).toArray 40 (0,0))],[(b2,.cells Wa.z.enc.toArray 40 (0,0))],R] ?_;refine ck (QN hs hq hl) ?_;rintro _ _ ⟨rfl,rfl⟩;simp only[can];repeat' first|(refine I.st ?_;refine WX.qd (vs:=[c.le.nd,c.le.sn]) (b:=b3) (i:=11) (cs:=Qf c.enc Wa.z.enc 11) rfl rfl rfl rfl rfl rfl ?_;refine WX.nil ?_)|refine wm ?_|fail
  refine D.hp (H':=[cn o v p',h,[(b3,.cells c.enc.toArray 40 (0,0))],[(b2,.cells c.enc.toArray 40 (0,0))],R]) rfl ?_;exact D.Gc [cn o v p',h] _ rfl (.Va rfl rfl .nil) ⟨rfl,rfl⟩
def xT(o:Nat)(e:ya):List (It×Value):=(Ox o).zip e.enc
def wW{v:Value}(hs:Rs B v h){p:Nat}{e:ya}(hrd:Rd B p (xT k0 e) p')(hl:B.length<=1099511627776){o:Nat}:
  Ct prog 260 [.pointer (some ⟨o,0,none⟩)] [cn o v p,h] (qq o v h p' (.agg e.enc.toArray)):=by
 have hzl:ya.z.enc.length=e.enc.length:=rfl;obtain⟨b0,r0,e0,-,d0,b1,r1,e1,-,d1,b2,r2,e2,-,d2,b3,r3,e3,-,d3,b4,r4,e4,-,d4,b5,r5,e5,-,d5,hrd⟩:=hrd;obtain⟨b6,r6,e6,g6,d6,b7,r7,e7,g7,d7,b8,r8,e8,-,d8,hrd⟩:=hrd;generalize U5:p+b0.length+b1.length+b2.length+b3.length+b4.length+b5.length+b6.length+b7.length+b8.length=q9 at hrd;have hrd:Rd B q9 (To (k0+9) e.dp++[(.num (k0+18),.int .i64 e.cl),(.num (k0+19),.int .i64 e.op)]) p':=hrd;obtain⟨R8,yG,G0,r18,Z2,-,d18,YZ,r19,e19,-,d19,rfl⟩:=hrd.split;refine ce func260 λg R=>?_;repeat' first|refine rn ?_|refine al λ_=>?_
 rename_i b2 b3;refine WX.hp (H':=[[(b3,.cells (Qf e.enc ya.z.enc 0).toArray 49 (0,0))],[(b2,.cells ya.z.enc.toArray 49 (0,0))],cn o v p,h,R]) rfl ?_;refine ck (Ge hs e0 d0 hl) ?_;rintro _ _ ⟨rfl,rfl⟩;refine rn ?_;refine ck (Ge hs e1 d1 hl) ?_;rintro _ _ ⟨rfl,rfl⟩;refine rn ?_;refine ck (Ge hs e2 d2 hl) ?_;rintro _ _ ⟨rfl,rfl⟩;refine rn ?_;refine ck (Ge hs e3 d3 hl) ?_;rintro _ _ ⟨rfl,rfl⟩;refine rn ?_;refine ck (Ge hs e4 d4 hl) ?_;rintro _ _ ⟨rfl,rfl⟩;refine rn ?_;refine ck (Ge hs e5 d5 hl) ?_;rintro _ _ ⟨rfl,rfl⟩;refine rn ?_;refine ck (VJ hs (most:=16) (by decide) e6 g6 d6 hl) ?_;rintro _ _ ⟨rfl,rfl⟩;refine rn ?_;refine ck (VJ hs (most:=32) (by decide) e7 g7 d7 hl) ?_;rintro _ _ ⟨rfl,rfl⟩;refine rn ?_;refine ck (UJ hs e8 d8 hl) ?_;rintro _ _ ⟨rfl,rfl⟩;refine rn ?_;rw[U5];refine WX.hp (H':=[cn o v q9,h,[(b3,.cells (Qf e.enc ya.z.enc 9).toArray 49 (0,0))],[(b2,.cells ya.z.enc.toArray 49 (0,0))],R]) rfl ?_;refine ck (uW hs yG hl) ?_;rintro _ _ ⟨rfl,rfl⟩;simp only[can];repeat' first|refine WX.qd (vs:=e.dp.enc) (b:=b3) (i:=9) (cs:=Qf e.enc ya.z.enc 9) rfl rfl rfl rfl rfl rfl ?_|refine wm ?_|fail
 refine WX.hp (H':=[cn o v R8,h,[(b3,.cells (Qf e.enc ya.z.enc 18).toArray 49 (0,0))],[(b2,.cells ya.z.enc.toArray 49 (0,0))],R]) rfl ?_;refine ck (Ge hs Z2 d18 hl) ?_;rintro _ _ ⟨rfl,rfl⟩;refine rn ?_;refine ck (Ge hs e19 d19 hl) ?_;rintro _ _ ⟨rfl,rfl⟩;refine rn ?_;refine D.hp (H':=[cn o v (R8+G0.length+YZ.length),h,[(b3,.cells e.enc.toArray 49 (0,0))],[(b2,.cells e.enc.toArray 49 (0,0))],R]) rfl ?_;exact D.Gc [cn o v (R8+G0.length+YZ.length),h] _ rfl (.Va rfl rfl .nil) ⟨rfl,rfl⟩
def rA(h:B.length<65536):(UInt8.ofNat (B.length/2^8)).toNat*256+(UInt8.ofNat B.length).toNat=B.length:=by
 rw[Of (by omega),UInt8.toNat_ofNat'];omega
def YJ{xs:List UInt8}(hB:B.length<65536){k:Nat}(hk:k<(frame B).length)(hx:xs=(frame B).take k){v:Value}(hr:Rs xs v h):
  Ct prog 258 [v] [h] (λr H'=>r= .tuple #[.slice none 0 0,.int .i64 0,.int .i64 40]/\H'=[h]):=by
 have zy:xs.length=k:=by rw[hx,Oe];omega
 rw[On] at hk;refine ce func258 λg R=>?_;simp only[can];by_cases h2:xs.length<2
 .try refine run ?_
  exact D.Bg [h] _ rfl (.tmp rfl (.tmp rfl (.tmp rfl .nil))) rfl ⟨rfl,rfl⟩
 .obtain⟨x0,hx0⟩:∃x,xs[(0:Int).toNat]? =some x:=⟨_,Wg (by show 0<xs.length;omega)⟩;obtain⟨x1,hx1⟩:∃x,xs[(1:Int).toNat]? =some x:=⟨_,Wg (by show 1<xs.length;omega)⟩
  have e0:x0=UInt8.ofNat (B.length/2^8):=by
   have hx0:xs[0]? =some x0:=hx0;rw[hx,List.getElem?_take_of_lt (by omega),RN] at hx0;exact(Option.some.inj hx0).symm
  have e1:x1=UInt8.ofNat B.length:=by
   have hx1:xs[1]? =some x1:=hx1;rw[hx,List.getElem?_take_of_lt (by omega),SN] at hx1;exact(Option.some.inj hx1).symm
  have hn:=rA hB;rw[<-e0,<-e1] at hn;have hb0:=Mh x0;have YH:=Mh x1;try refine run ?_
  refine wq ?_;repeat' first|refine run ?_|refine WX.conv rfl rfl (IntWalk.i64_in _ (by omega)) ?_|refine WX.mul rfl rfl rfl (by omega) ?_
  exact D.Bg [h] _ rfl (.tmp rfl (.tmp rfl (.tmp rfl .nil))) rfl ⟨rfl,rfl⟩
def yT{rest xs:List UInt8}(hB:B.length<65536)(hx:xs=frame B++rest){v:Value}(hr:Rs xs v h)(hl:xs.length<=1099511627776):
  Ct prog 258 [v] [h] (λr H'=>∃u,r= .tuple #[u,.int .i64 ((B.length+6:Nat):Int),.int .i64 0]/\H'=[h]/\Rs B u h):=by
 have zy:xs.length=B.length+6+rest.length:=by rw[hx,Eb,On]
 obtain⟨p,c,rfl⟩:=hr.len;have hcap:xs.length<=c:=by obtain⟨a,cc,e,le,_⟩:=id hr;cases e;exact le
 have x0h:xs[(0:Int).toNat]? =some (UInt8.ofNat (B.length/2^8)):=by rw[hx];rfl
 have x1h:xs[(1:Int).toNat]? =some (UInt8.ofNat B.length):=by rw[hx];rfl
 have hn:=rA hB;have hb0:=Mh (UInt8.ofNat (B.length/2^8));have YH:=Mh (UInt8.ofNat B.length)
 have bZ:Rs B (Ui (.slice p xs.length c) 1 2 (B.length+2) c) h:=by
  have:=hr.cut (m:=1) (lo:=2) (hi:=B.length+2) (mx:=c) rfl (by omega) (by omega) (by omega);rw[hx] at this;rw[TN] at this;rw[<-hx] at this;exact this
 have hrS:Rs (Nn (wg B)) (Ui (.slice p xs.length c) 1 (B.length+2) (B.length+6) c) h:=by
  have:=hr.cut (m:=1) (lo:=B.length+2) (hi:=B.length+6) (mx:=c) rfl (by omega) (by omega) (by omega);rw[hx] at this;rw[UN] at this;rw[<-hx] at this;exact this
 obtain⟨q1,q2,q3,hq⟩:∃q1 q2 q3,Ui (.slice p xs.length c) 1 2 (B.length+2) c= .slice q1 q2 q3:=⟨_,_,_,rfl⟩;rw[hq] at bZ;have Ah:=LN B;have s0:(Nn (wg B))[(0:Int).toNat]? =some (UInt8.ofNat (wg B/2^24)):=rfl;have s1:(Nn (wg B))[(1:Int).toNat]? =some (UInt8.ofNat (wg B/2^16)):=rfl;have s2:(Nn (wg B))[(2:Int).toNat]? =some (UInt8.ofNat (wg B/2^8)):=rfl;have s3:(Nn (wg B))[(3:Int).toNat]? =some (UInt8.ofNat (wg B)):=rfl;refine Tk func258 λg R=>?_;refine wq ?_;repeat' first|refine run ?_|refine WX.conv rfl rfl (IntWalk.i64_in _ (by omega)) ?_|refine WX.mul rfl rfl rfl (by omega) ?_
 refine WX.as 28 (.int .i64 ((B.length+2:Nat):Int)) rfl (by congr 1;omega) ?_;refine WX.EJ (lo:=2) (hi:=B.length+2) rfl rfl rfl (by omega) (by omega) rfl ?_;rw[hq];refine cq (QJ bZ (by omega)) ?_;try refine run ?_
 refine WX.as 33 (.int .i64 ((B.length+2:Nat):Int)) rfl (by congr 1;omega) ?_;refine WX.as 35 (.int .i64 ((B.length+6:Nat):Int)) rfl (by congr 1;omega) ?_;refine WX.EJ (lo:=B.length+2) (hi:=B.length+6) rfl rfl rfl (by omega) (by omega) rfl ?_;repeat' first|refine run ?_|refine WX.Po (m:=24) rfl rfl (by decide) rfl ?_|refine WX.Po (m:=16) rfl rfl (by decide) rfl ?_|refine WX.Po (m:=8) rfl rfl (by decide) rfl ?_|(refine WX.eG rfl rfl ?_;rw[Ef])
 refine WX.as 72 (.int .i64 ((B.length+2:Nat):Int)) rfl (by congr 1;omega) ?_;refine WX.EJ (lo:=2) (hi:=B.length+2) rfl rfl rfl (by omega) (by omega) rfl ?_;rw[hq];try refine run ?_
 refine D.as 3 (.int .i64 ((B.length+6:Nat):Int)) rfl (by congr 1;omega) ?_;exact D.Bg [h] _ rfl (.tmp rfl (.tmp rfl (.tmp rfl .nil))) rfl ⟨_,rfl,rfl,bZ⟩
variable{xs:List UInt8}{r:Rec}
def cZ(vs:List Value)(it:It):It×Value:=(it,(vs[it.o]?).getD (.bool false))
def vJ{vs:List Value}:∀{Zc:List It} {pre B:List UInt8},(∀it∈Zc,∃u e,vs[it.o]? =some u/\encI it u=some e/\Ij it u=false)->B=pre++(xj vs Zc++rest)->Rd B pre.length (Zc.map (cZ vs)) (pre.length+(xj vs Zc).length):=by
 intro Zc
 induction Zc with
 |nil=>intro pre B _ _;rfl
 |cons it t ih=>
  intro pre B h hB;obtain⟨u,e,h1,h2,h3⟩:=h it (qf ..)
  have he:xj vs (it::t)=e++xj vs t:=by
   unfold xj;rw[map_cons,flatten_cons,h1];simp[h2]
  rw[he] at hB⊢;have hv:cZ vs it=(it,u):=by unfold cZ;rw[h1];rfl
  rw[map_cons,hv];refine⟨e,xj vs t++rest,h2,h3,by rw[hB,drop_left,Sc],?_⟩;have:=ih (pre:=pre++e) (B:=B) (λx hx=>h x (Vn _ hx)) (by rw[hB];simp);rw[Eb] at this;rw[Eb,<-Nat.add_assoc];exact this
def Rec.Good.rd(gd:r.Good):Rd r.body 0 ((Rec.Zc r.k).map (cZ r.enc)) r.body.length:=by
 have:=vJ (vs:=r.enc) (rest:=[]) (Zc:=Rec.Zc r.k) (pre:=[]) (B:=r.body) (λit hit=>by
  obtain⟨u,e,h1,_,h2,h3⟩:=gd.Zc it hit;exact⟨u,e,h1,h2,h3⟩) (by rw[nil_append,append_nil];rfl)
 simp only[td,Nat.zero_add] at this;exact this
def T3(e:ya)(c:Wa)(b:Int):(Rec.Zc 1).map (cZ (Rec.enc ⟨1,e,c,b⟩))=(.num 0,.int .i64 1)::xT 1 e:=by kernel_rfl
def U3(e:ya)(c:Wa)(b:Int):(Rec.Zc 2).map (cZ (Rec.enc ⟨2,e,c,b⟩))=(.num 0,.int .i64 2)::(uw 21 c++[(.num 34,.int .i64 b)]):=by kernel_rfl
def W3(e:ya)(c:Wa)(b:Int):(Rec.Zc 3).map (cZ (Rec.enc ⟨3,e,c,b⟩))=[(.num 0,.int .i64 3)]:=by kernel_rfl
def zT(gd:r.Good)(hx:xs=r.fr++rest){v:Value}(hr:Rs xs v h)(hl:xs.length<=1099511627776):
  Ct prog 211 [v] [h] (λres H'=>res= .tuple #[.agg r.enc.toArray,.int .i64 (r.fr.length:Int),.int .i64 0]/\H'=[h]):=by
 have hfl:=gd.oM;have hle:=gd.Jh;have zy:xs.length=r.fr.length+rest.length:=by rw[hx,Eb]
 have hB:=gd.len;have hrd:=gd.rd;have hkn:=gd.known;have xF:=gd.bare;rw[gd.fr] at hx;have M0:r.body.length<=1099511627776:=by omega
 generalize r.body=B at*;generalize r.fr.length=F at*;obtain⟨k,e,c,bs⟩:=r;refine ce func211 λg R=>?_;repeat' first|refine rn ?_|refine al λ_=>?_
 refine ck (yT (B:=B) (by omega) hx hr hl) ?_;rintro _ _ ⟨u,rfl,rfl,hu⟩;simp only[can];obtain⟨q1,c1,rfl⟩:=hu.len;repeat' first|refine run ?_|refine Uc λ_=>?_|refine al λ_=>?_
 rename_i b2 i bk;refine WX.h0 [[(bk,.cells Rec.z.enc.toArray 140 (0,0))],cn i (.slice q1 B.length c1) 0,h,[(b2,.cells Rec.z.enc.toArray 140 (0,0))],R] ?_;have pW:k=1\/k=2\/k=3:=of_decide_eq_true hkn;rcases pW with rfl|rfl|rfl
 .rw[T3] at hrd;obtain⟨b0,r0,e0,-,d0,hrd⟩:=hrd;have xF:Rec.mk 1 e Wa.z 0=⟨1,e,c,bs⟩:=xF;simp only[Rec.mk.injEq,true_and] at xF;obtain⟨rfl,rfl⟩:=xF;refine ck (Ge hu e0 d0 M0) ?_;rintro _ _ ⟨rfl,rfl⟩;simp only[can];repeat' first|refine WX.store (v:= .int .i64 1) (b:=bk) (i:=0) (cs:=Rec.z.enc) rfl rfl rfl rfl ?_|refine wm ?_|fail
  refine WX.h0 [cn i (.slice q1 B.length c1) (0+b0.length),h,[(bk,.cells (Rec.enc ⟨1,ya.z,Wa.z,0⟩).toArray 140 (0,0))],[(b2,.cells Rec.z.enc.toArray 140 (0,0))],R] ?_;refine ck (wW hu hrd M0) ?_;rintro _ _ ⟨rfl,rfl⟩;simp only[can];repeat' first|refine bn bk 0 (Rec.enc ⟨1,e,Wa.z,0⟩) (Rec.enc ⟨1,e,Wa.z,0⟩) ?_|(refine I.st ?_;refine WX.qd (vs:=e.enc) (b:=bk) (i:=1) (cs:=Rec.enc ⟨1,ya.z,Wa.z,0⟩) rfl rfl rfl (ya.Cp _) (ya.one _) rfl ?_;rw[Rec.Zw])|refine wm ?_|fail
  exact D.Bg [h] _ rfl (.Va rfl rfl (.tmp rfl (.tmp rfl .nil))) rfl ⟨by rw[hfl],rfl⟩
 .rw[U3] at hrd;obtain⟨b0,r0,e0,-,d0,hrd⟩:=hrd;obtain⟨q,hrc,b3,r3,e3,-,d3,hq⟩:=hrd.split;have xF:Rec.mk 2 ya.z c bs=⟨2,e,c,bs⟩:=xF;simp only[Rec.mk.injEq,true_and,and_true] at xF;obtain rfl:=xF;refine ck (Ge hu e0 d0 M0) ?_;rintro _ _ ⟨rfl,rfl⟩;simp only[can];repeat' first|refine WX.store (v:= .int .i64 2) (b:=bk) (i:=0) (cs:=Rec.z.enc) rfl rfl rfl rfl ?_|refine wm ?_|fail
  refine WX.h0 [cn i (.slice q1 B.length c1) (0+b0.length),h,[(bk,.cells (Rec.enc ⟨2,ya.z,Wa.z,0⟩).toArray 140 (0,0))],[(b2,.cells Rec.z.enc.toArray 140 (0,0))],R] ?_;refine ck (vW hu hrc M0) ?_;rintro _ _ ⟨rfl,rfl⟩;simp only[can];repeat' first|(refine I.st ?_;refine WX.qd (vs:=c.enc) (b:=bk) (i:=21) (cs:=Rec.enc ⟨2,ya.z,Wa.z,0⟩) rfl rfl rfl (Wa.SJ _) (Wa.one _) rfl ?_;rw[Rec.KJ])|refine wm ?_|fail
  refine ck (Ge hu e3 d3 M0) ?_;rintro _ _ ⟨rfl,rfl⟩;have hq:q+b3.length=B.length:=hq;rw[hq];simp only[can];repeat' first|refine bn bk 0 (Rec.enc ⟨2,ya.z,c,bs⟩) (Rec.enc ⟨2,ya.z,c,bs⟩) ?_|(refine I.st ?_;refine WX.store (v:= .int .i64 bs) (b:=bk) (i:=34) (cs:=Rec.enc ⟨2,ya.z,c,0⟩) rfl rfl rfl rfl ?_;rw[Rec.rT])|refine wm ?_|fail
  exact D.Bg [h] _ rfl (.Va rfl rfl (.tmp rfl (.tmp rfl .nil))) rfl ⟨by rw[hfl],rfl⟩
 .rw[W3] at hrd;obtain⟨b0,r0,e0,-,d0,hq⟩:=hrd;have hq:0+b0.length=B.length:=hq;have xF:Rec.mk 3 ya.z Wa.z 0=⟨3,e,c,bs⟩:=xF;simp only[Rec.mk.injEq,true_and] at xF;obtain⟨rfl,rfl,rfl⟩:=xF;refine ck (Ge hu e0 d0 M0) ?_;rintro _ _ ⟨rfl,rfl⟩;rw[hq];simp only[can];repeat' first|refine bn bk 0 (Rec.enc ⟨3,ya.z,Wa.z,0⟩) (Rec.enc ⟨3,ya.z,Wa.z,0⟩) ?_|(refine I.st ?_;refine WX.store (v:= .int .i64 3) (b:=bk) (i:=0) (cs:=Rec.z.enc) rfl rfl rfl rfl ?_;refine WX.h0 [cn i (.slice q1 B.length c1) B.length,h,[(bk,.cells (Rec.enc ⟨3,ya.z,Wa.z,0⟩).toArray 140 (0,0))],[(b2,.cells Rec.z.enc.toArray 140 (0,0))],R] ?_)|refine wm ?_|fail
  exact D.Bg [h] _ rfl (.Va rfl rfl (.tmp rfl (.tmp rfl .nil))) rfl ⟨by rw[hfl],rfl⟩
def ZJ(gd:r.Good){k:Nat}(hk:k<r.fr.length)(h0:0<k)(hx:xs=r.fr.take k){v:Value}(hr:Rs xs v h):
  Ct prog 211 [v] [h] (λres H'=>res= .tuple #[.agg Rec.z.enc.toArray,.int .i64 0,.int .i64 40]/\H'=[h]):=by
 have hB:=gd.len;have zy:xs.length=k:=by rw[hx,Oe];omega
 rw[gd.fr] at hx hk;refine ce func211 λg R=>?_;repeat' first|refine rn ?_|refine al λ_=>?_
 refine ck (YJ (B:=r.body) (by omega) hk hx hr) ?_;rintro _ _ ⟨rfl,rfl⟩;refine rn ?_;exact D.Bg [h] _ rfl (.Va rfl rfl (.tmp rfl (.tmp rfl .nil))) rfl ⟨rfl,rfl⟩
end Go.Proofs.YthebagfahkebiaaGreat
