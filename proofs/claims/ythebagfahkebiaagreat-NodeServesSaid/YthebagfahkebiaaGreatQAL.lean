/- Texts of one road. -/
import Derived.Test.YthebagfahkebiaaGreatQAK
set_option linter.all false
set_option maxHeartbeats 8000000
set_option maxRecDepth 20000
namespace Go.Proofs.YthebagfahkebiaaGreat
open Go Go.Sl Go.Proofs.Tryz List
variable{O:Ot}{h:Hp}
def Va.ms(c:Va):List Mem:=[c.f0,c.f1,c.f2,c.f3]
def nX(l:List Mem):List Int:=(l.map λm=>[m.nd,m.sn]).flatten
def Va.pre(c:Va)(i:Nat):List Int:=[c.ep,c.n]++nX (c.ms.take i)
def Va.Uj(c:Va)(O:Ot):Ot:=((O.je (c.pre 4)).put (.Sn 0) (.bool c.jo)).je [c.le.nd,c.le.sn]
def Va.cut(c:Va){i:Nat}(h:i<4):∃m,c.ms[i]? =some m/\(c.enc.drop (2+i*2)).take 2=[.int .i64 m.nd,.int .i64 m.sn]:=by
 match i,h with
 |0,_=>exact⟨c.f0,rfl,rfl⟩
 |1,_=>exact⟨c.f1,rfl,rfl⟩
 |2,_=>exact⟨c.f2,rfl,rfl⟩
 |3,_=>exact⟨c.f3,rfl,rfl⟩
def uN{v:Value}(hs:ia 5 O.b v h)(hl:O.b.length<=274877906944)(c:Va){o:Nat}:
  Ct prog 264 [.pointer (some ⟨o,0,none⟩),.agg c.enc.toArray] [Zj o O v,h] (Nw o (c.Uj O)):=by
 refine ce func264 λg R=>?_;simp only[can];repeat' apply go
 refine WX.box (vs:=c.enc) rfl rfl rfl (λb=>?_);try refine run ?_
 refine WX.hp (H':=[[(b,.cells c.enc.toArray 40 (0,0))],Zj o (O.je []) v,h,R]) rfl ?_;refine ck (Tf (ns:=[]) hs (by omega) (by simp) c.ep) ?_;rintro _ _ ⟨v1,h1,rfl,hs1⟩;simp only[na] at hs1;refine rn ?_;refine ck (Tf hs1 (by omega) (by simp) c.n) ?_;rintro _ _ ⟨v2,h2,rfl,Oa⟩;simp only[ca,na] at Oa;refine rn ?_;refine W.hp (H':=[Zj o (O.je (c.pre 0)) v2,h2,[(b,.cells c.enc.toArray 40 (0,0))],R]) rfl ?_
 refine W.lo (α:=Nat×Value×Hp) (λx=>x.1<=4/\ia 5 (O.je (c.pre x.1)).b x.2.1 x.2.2) (λx=>[(0,.pointer (some ⟨o,0,none⟩)),(3,.pointer (some ⟨b,0,none⟩)),(4,.int .i64 (x.1:Int))])
  (λx=>[Zj o (O.je (c.pre x.1)) x.2.1,x.2.2,[(b,.cells c.enc.toArray 40 (0,0))],R]) (λx=>4 - x.1) (0,v2,h2) ⟨Nat.zero_le _,Oa⟩ ?_
 rintro⟨i,u,hu⟩ ⟨hi,hsu⟩;simp only[] at hi hsu⊢
 have hml:(c.pre i).length<=10:=by
  match i,hi with
  |0,_=>exact(by decide:2<=10)
  |1,_=>exact(by decide:4<=10)
  |2,_=>exact(by decide:6<=10)
  |3,_=>exact(by decide:8<=10)
  |4,_=>exact(by decide:10<=10)
 by_cases hi4:i<4
 .obtain⟨m,hm,yo⟩:=c.cut hi4
  have Le:c.pre (i+1)=c.pre i++[m.nd,m.sn]:=by
   unfold Va.pre;rw[take_succ_eq_append_getElem (List.getElem?_eq_some_iff.1 hm).1,(List.getElem?_eq_some_iff.1 hm).2];unfold nX;simp
  try refine run ?_
  refine WX.as 20 (.pointer (some ⟨b,2+i*2,none⟩)) rfl (by rw[Int.toNat_natCast,Nat.zero_add]) ?_;refine WX.Fa (b:=b) (i:=2+i*2) (cs:=c.enc) (vs:=[.int .i64 m.nd,.int .i64 m.sn]) rfl yo rfl rfl ?_;refine ck (tN hsu (by omega) (by omega) m.nd m.sn) ?_;rintro _ _ ⟨v3,h3,rfl,Fc⟩;rw[<-Le] at Fc⊢;refine rn ?_;exact D.rd (i+1,v3,h3) ⟨by simp only[];omega,Fc⟩ (by simp only[];omega)
 .obtain rfl:i=4:=by omega
  have hA:=Ai (O:=O) (c.pre 4);rw[show(c.pre 4).length=10 from rfl] at hA;try refine run ?_
  refine ck (qN hsu (by omega) (t:=c.jo)) ?_;rintro _ _ ⟨v4,h4,rfl,hs4⟩;have hB:=ey (O:=O.je (c.pre 4)) (t:=c.jo);refine rn ?_;refine WX.hp (H':=[Zj o (((O.je (c.pre 4)).put (.Sn 0) (.bool c.jo)).je []) v4,h4,[(b,.cells c.enc.toArray 40 (0,0))],R]) rfl ?_;refine ck (tN (O:=(O.je (c.pre 4)).put (.Sn 0) (.bool c.jo)) (ns:=[]) hs4 (by omega) (by simp) c.le.nd c.le.sn) ?_;rintro _ _ ⟨v5,h5,rfl,hs5⟩;refine rn ?_;exact D.Bc [Zj o (((O.je (c.pre 4)).put (.Sn 0) (.bool c.jo)).je [c.le.nd,c.le.sn]) v5,h5] _ rfl ⟨_,_,rfl,hs5⟩
def ya.TH(e:ya):List Int:=[e.dc,e.rg,e.sq,e.ct,e.sd,e.sr]
def ya.Uj(e:ya)(O:Ot):Ot:=(((((O.je e.TH).put (.xj 0 0) (.string e.key)).put (.xj 0 0) (.string e.val)).put (.Sn 0) (.bool e.dead)).je e.dp.ls).je [e.cl,e.op]
def vN{v:Value}(hs:ia 5 O.b v h)(hl:O.b.length<=1073741824)(e:ya)(hk:e.key.data.toList.length<=1073741824)(hv:e.val.data.toList.length<=1073741824){o:Nat}:
  Ct prog 263 [o,.agg e.enc.toArray] [Zj o O v,h] (Nw o (e.Uj O)):=by
 have l1:=Ai (O:=O) e.TH;rw[show e.TH.length=6 from rfl] at l1;have l2:=dy (O:=O.je e.TH) hk;have l3:=dy (O:=(O.je e.TH).put (.xj 0 0) (.string e.key)) hv;have l4:=ey (O:=((O.je e.TH).put (.xj 0 0) (.string e.key)).put (.xj 0 0) (.string e.val)) (t:=e.dead);have l5:=Ai (O:=(((O.je e.TH).put (.xj 0 0) (.string e.key)).put (.xj 0 0) (.string e.val)).put (.Sn 0) (.bool e.dead)) e.dp.ls;rw[show e.dp.ls.length=9 from rfl] at l5;refine ce func263 λg R=>?_;simp only[can];repeat' apply go
 refine WX.box (vs:=e.enc) rfl rfl rfl (λb=>?_);refine WX.h0 [[(b,.cells e.enc.toArray 49 (0,0))],Zj o (O.je []) v,h,R] ?_;try refine run ?_
 refine ck (Tf (ns:=[]) hs (by omega) (by simp) e.dc) ?_;rintro _ _ ⟨v1,RH,rfl,T3⟩;simp only[ca,na] at T3;refine rn ?_;refine ck (Tf T3 (by omega) (by simp) e.rg) ?_;rintro _ _ ⟨v2,IQ,rfl,U3⟩;simp only[ca,na] at U3;refine rn ?_;refine ck (Tf U3 (by omega) (by simp) e.sq) ?_;rintro _ _ ⟨v3,hv3,rfl,W3⟩;simp only[ca,na] at W3;refine rn ?_;refine ck (Tf W3 (by omega) (by simp) e.ct) ?_;rintro _ _ ⟨v4,hv4,rfl,Y3⟩;simp only[ca,na] at Y3;refine rn ?_;refine ck (Tf Y3 (by omega) (by simp) e.sd) ?_;rintro _ _ ⟨v5,hv5,rfl,Z3⟩;simp only[ca,na] at Z3;refine rn ?_;refine ck (Tf Z3 (by omega) (by simp) e.sr) ?_;rintro _ _ ⟨v6,hv6,rfl,kW⟩;simp only[ca,na] at kW;simp only[can];have kW:ia 5 (O.je e.TH).b v6 hv6:=kW;refine WX.h0 [Zj o (O.je e.TH) v6,hv6,[(b,.cells e.enc.toArray 49 (0,0))],R] ?_;unfold ya.Uj;generalize O.je e.TH=A at*;try refine run ?_
 refine ck (sN kW (by omega) hk) ?_;rintro _ _ ⟨v7,h7,rfl,Cn⟩;generalize A.put (.xj 0 0) (.string e.key)=B at*;refine rn ?_;refine ck (sN Cn (by omega) hv) ?_;rintro _ _ ⟨v8,h8,rfl,Mq⟩;generalize B.put (.xj 0 0) (.string e.val)=C at*;refine rn ?_;refine ck (qN Mq (by omega) (t:=e.dead)) ?_;rintro _ _ ⟨v9,h9,rfl,Wo⟩;generalize C.put (.Sn 0) (.bool e.dead)=G at*;refine rn ?_;refine ck (iW Wo (by omega) e.dp) ?_;rintro _ _ ⟨v10,SV,rfl,YS⟩;generalize G.je e.dp.ls=F at*;refine WX.h0 [Zj o (F.je []) v10,SV,[(b,.cells e.enc.toArray 49 (0,0))],R] ?_;try refine run ?_
 refine ck (Tf (O:=F) (ns:=[]) YS (by omega) (by simp) e.cl) ?_;rintro _ _ ⟨v11,Caa,rfl,oX⟩;simp only[ca,na] at oX;refine rn ?_;refine ck (Tf oX (by omega) (by simp) e.op) ?_;rintro _ _ ⟨v12,W8,rfl,pX⟩;simp only[ca,na] at pX;refine rn ?_;exact D.Bc [Zj o (F.je [e.cl,e.op]) v12,W8] _ rfl ⟨_,_,rfl,pX⟩
def LY(n:Nat):UInt8.ofNat (n% 256)=UInt8.ofNat n:=by
 apply UInt8.toNat_inj.1;rw[UInt8.toNat_ofNat',UInt8.toNat_ofNat'];omega
def Rv{B:List UInt8}{v:Value}{h:Hp}(hr:Rs B v h)(hl:B.length<=1099511627776):
  Ct prog 266 [v] [h] (λr H'=>∃hb,H'=[h,hb]/\ia 5 (frame B) r hb):=by
 have mh:=wN B;have hd:(B.length:Int).tmod 256=((B.length% 256:Nat):Int):=by rw[Int.ofNat_tmod];rfl
 refine ce func266 λg R=>?_;repeat' first|refine rn ?_|refine WX.kY (a:=B.length) (b:=256) rfl rfl rfl rfl (by decide) (by omega) rfl ?_|(refine WX.rem rfl rfl rfl (by decide) ?_;rw[hd])|refine WX.aG rfl rfl ?_
 refine WX.as 9 (.int .u8 ((UInt8.ofNat (B.length/2^8)).toNat:Int)) rfl (by rw[vf]) ?_;refine WX.as 13 (.int .u8 ((UInt8.ofNat B.length).toNat:Int)) rfl (by rw[vf,LY]) ?_;refine Kp [UInt8.ofNat (B.length/2^8),UInt8.ofNat B.length] (λv1 h1 hs1=>?_);refine WX.Ke ?_;refine Ys (zb:=by simp only[Gb,jd];omega) (ia.nil _) hs1.rs (λv2 h2 Oa=>?_);try refine run ?_
 refine Ys (zb:=by simp only[Cb,Gb,jd];omega) Oa hr (λv3 h3 Fc=>?_);try refine run ?_
 refine cq (zJ hr hl) ?_;repeat' first|refine run ?_|refine WX.Fo (m:=24) rfl rfl (by decide) rfl ?_|refine WX.Fo (m:=16) rfl rfl (by decide) rfl ?_|refine WX.Fo (m:=8) rfl rfl (by decide) rfl ?_|refine WX.aG rfl rfl ?_
 refine WX.as 24 (.int .u8 ((UInt8.ofNat (tg B/2^24)).toNat:Int)) rfl (by rw[vf]) ?_;refine WX.as 27 (.int .u8 ((UInt8.ofNat (tg B/2^16)).toNat:Int)) rfl (by rw[vf]) ?_;refine WX.as 30 (.int .u8 ((UInt8.ofNat (tg B/2^8)).toNat:Int)) rfl (by rw[vf]) ?_;refine WX.as 32 (.int .u8 ((UInt8.ofNat (tg B)).toNat:Int)) rfl (by rw[vf]) ?_;refine Kp (Gn (tg B)) (λv4 h4 hs4=>?_);refine Ys (zb:=by rw[show(Gn (tg B)).length=4 from rfl];simp only[Cb,Gb,jd];omega) Fc hs4.rs (λv5 h5 hs5=>?_);try refine run ?_
 exact Wa [h,h5] rfl rfl ⟨_,rfl,hs5⟩
structure Sb where
 s:ByteArray
instance:Nb Sb:=⟨1,λx=>[.string x.s],λ_=>rfl,λ_=>rfl,by decide⟩
def nA{x y:Sb}{u w:Value}{hu hw:Hp}(h1:Rs [x] u hu)(h2:Rs [y] w hw):
  Ct prog 265 [u,w] [hu,hw] (λr H'=>r= .bool (decide (16<x.s.size\/32<y.s.size))/\H'=[hu,hw]):=by
 have e1:[x][0]? =some x:=rfl;have e2:[y][0]? =some y:=rfl;have jg:(([x].length:Nat):Int)=1:=rfl;refine cr func265 λg R=>?_;refine W.lo (α:=Nat) (λi=>i<=1/\(i=1-> ¬(16<x.s.size\/32<y.s.size))) (λi=>[(0,u),(1,w),(5,.int .i64 (i:Int))]) (λ_=>[hu,hw,R]) (λi=>1 - i) 0 ⟨Gi _,λh=>absurd h (by decide)⟩ ?_;intro i ⟨hi,hn⟩;by_cases qQ:i=0
 .subst qQ;by_cases hk:16<x.s.size
  .try refine run ?_
   exact Wa [hu,hw] rfl rfl ⟨by rw[Fi (.inl hk)],rfl⟩
  .by_cases hv:32<y.s.size
   .try refine run ?_
    exact Wa [hu,hw] rfl rfl ⟨by rw[Fi (.inr hv)],rfl⟩
   .try refine run ?_
    exact D.rd 1 ⟨by omega,λ_=>by omega⟩ (by omega)
 .obtain rfl:i=1:=by omega
  have hn:=hn rfl;try refine run ?_
  exact Wa [hu,hw] rfl rfl ⟨by rw[gj hn],rfl⟩
def Tv(n:Int):Bool:=decide (n<0\/4611686018427387904<n)
def Dm{n:Int}:(O.put (.num 0) (n)).bad=(O.bad||Tv n):=by
 rw[Ot.uH];unfold Tv;by_cases h:n<0\/4611686018427387904<n
 .rw[if_pos h,Fi h];simp
 .rw[if_neg h,gj h];simp
def Xp(ns:List Int):(O.je ns).bad=(O.bad||ns.any Tv):=by
 induction ns generalizing O with
 |nil=>simp[Ot.je]
 |cons n t ih=>
  have h1:=ih (O:=O.put (.num 0) (n));show((O.put (.num 0) (n)).je t).bad=_;rw[h1,Dm,any_cons,Bool.or_assoc]
def Ow{s:ByteArray}:(O.put (.xj 0 0) (.string s)).bad=O.bad:=by
 show(O.bad||(encI (.xj 0 0) (.string s)).isNone)=_;rw[show encI (.xj 0 0) (.string s)=some (Gd s.data.toList.length++s.data.toList) from rfl];simp
def Pw{t:Bool}:(O.put (.Sn 0) (.bool t)).bad=O.bad:=by
 show(O.bad||(encI (.Sn 0) (.bool t)).isNone)=_;rw[show encI (.Sn 0) (.bool t)=some (Gd (if t=true then 1 else 0)) from rfl];simp
def ya.Uv(e:ya):Bool:=(e.TH.any Tv||e.dp.ls.any Tv)||[e.cl,e.op].any Tv
def ya.Yp{e:ya}:(e.Uj O).bad=(O.bad||e.Uv):=by
 unfold ya.Uj ya.Uv;rw[Xp,Xp,Pw,Ow,Ow,Xp,Bool.or_assoc,Bool.or_assoc,Bool.or_assoc]
def Va.Uv(c:Va):Bool:=(c.pre 4).any Tv||[c.le.nd,c.le.sn].any Tv
def Va.Yp{c:Va}:(c.Uj O).bad=(O.bad||c.Uv):=by
 unfold Va.Uj Va.Uv;rw[Xp,Pw,Xp,Bool.or_assoc]
def O1(k:Int):Ot:=Ot.put {} (.num 0) (k)
def MY(k:Int)(e:ya)(c:Va)(b:Int):(([It.num 0]++Bx 1).foldl (Sd (Rec.enc ⟨k,e,c,b⟩)) {}).ot=e.Uj (O1 k):=by kernel_rfl
def NY(k:Int)(e:ya)(c:Va)(b:Int):(([It.num 0]++(vH 21++[It.num 34])).foldl (Sd (Rec.enc ⟨k,e,c,b⟩)) {}).ot=(c.Uj (O1 k)).put (.num 0) (b):=by kernel_rfl
theorem OY(k:Int)(e:ya)(c:Va)(b:Int):([It.num 0].foldl (Sd (Rec.enc ⟨k,e,c,b⟩)) {}).ot=O1 k:=rfl
def PY(k:Int)(e:ya)(c:Va)(b:Int):(([It.num 0]++Bx 1).foldl (Sd (Rec.enc ⟨k,e,c,b⟩)) {}).Ad=decide (16<e.key.size\/32<e.val.size):=by
 have:(([It.num 0]++Bx 1).foldl (Sd (Rec.enc ⟨k,e,c,b⟩)) {}).Ad=(((((((((((((((((((((false||false)||false)||false)||false)||false)||false)||false)||decide (16<e.key.data.toList.length))||decide (32<e.val.data.toList.length))||false)||false)||false)||false)||false)||false)||false)||false)||false)||false)||false)||false):=rfl;rw[this];simp only[Bool.or_false,Bool.false_or];exact(Bool.decide_or _ _).symm
theorem QY(k:Int)(e:ya)(c:Va)(b:Int):(([It.num 0]++(vH 21++[It.num 34])).foldl (Sd (Rec.enc ⟨k,e,c,b⟩)) {}).Ad=false:=rfl
theorem RY(k:Int)(e:ya)(c:Va)(b:Int):([It.num 0].foldl (Sd (Rec.enc ⟨k,e,c,b⟩)) {}).Ad=false:=rfl
variable{k:Int}
def aM(h0:0<=k)(h1:k<=3):(O1 k).bad=false:=by
 unfold O1;rw[Dm];unfold Tv;rw[gj (by omega)];rfl
theorem Cd.SY(C:Cd):C.ot.b=C.b:=rfl
theorem Cd.bM(C:Cd):C.ot.bad=C.arg:=rfl
theorem Io(F:Cd)(r:Rec):Yh (F.seen r)=if((F.arg|| !r.known)|| !decide (r.bare=r))=true then([],1) else if F.Ad=true then([],42) else(frame F.b,0):=rfl
def TY(e:ya)(c:Va)(b:Int):Yh (Rec.w ⟨1,e,c,b⟩)=if(e.Uv|| !decide (Rec.mk 1 e Va.z 0=⟨1,e,c,b⟩))=true then([],1) else if(16<e.key.size\/32<e.val.size) then([],42) else(frame (e.Uj (O1 1)).b,0):=by
 have h1:=MY 1 e c b;have h2:=PY 1 e c b;have h3:Rec.Uc 1=[It.num 0]++Bx 1:=rfl;unfold Rec.w;rw[Io,h3]
 have ha:(([It.num 0]++Bx 1).foldl (Sd (Rec.enc ⟨1,e,c,b⟩)) {}).arg=e.Uv:=by
  have:=congrArg Ot.bad h1;rw[ya.Yp,show(O1 1).bad=false from aM (by decide) (by decide),Bool.false_or,Cd.bM] at this;exact this
 have hb:(([It.num 0]++Bx 1).foldl (Sd (Rec.enc ⟨1,e,c,b⟩)) {}).b=(e.Uj (O1 1)).b:=by
  have:=congrArg Ot.b h1;rw[Cd.SY] at this;exact this
 have hk:Rec.known ⟨1,e,c,b⟩=true:=rfl;have sF:Rec.bare ⟨1,e,c,b⟩=⟨1,e,Va.z,0⟩:=rfl;rw[ha,h2,hb,hk,sF];simp only[Bool.not_true,Bool.or_false,decide_eq_true_eq]
def UY(e:ya)(c:Va)(b:Int):Yh (Rec.w ⟨2,e,c,b⟩)=if((c.Uv||Tv b)|| !decide (Rec.mk 2 ya.z c b=⟨2,e,c,b⟩))=true then([],1) else(frame ((c.Uj (O1 2)).put (.num 0) (b)).b,0):=by
 have h1:=NY 2 e c b;have h2:=QY 2 e c b;have h3:Rec.Uc 2=[It.num 0]++(vH 21++[It.num 34]):=rfl;unfold Rec.w;rw[Io,h3]
 have ha:(([It.num 0]++(vH 21++[It.num 34])).foldl (Sd (Rec.enc ⟨2,e,c,b⟩)) {}).arg=(c.Uv||Tv b):=by
  have:=congrArg Ot.bad h1;rw[Dm,Va.Yp,show(O1 2).bad=false from aM (by decide) (by decide),Bool.false_or,Cd.bM] at this;exact this
 have hb:(([It.num 0]++(vH 21++[It.num 34])).foldl (Sd (Rec.enc ⟨2,e,c,b⟩)) {}).b=((c.Uj (O1 2)).put (.num 0) (b)).b:=by
  have:=congrArg Ot.b h1;rw[Cd.SY] at this;exact this
 have hk:Rec.known ⟨2,e,c,b⟩=true:=rfl;have sF:Rec.bare ⟨2,e,c,b⟩=⟨2,ya.z,c,b⟩:=rfl;rw[ha,h2,hb,hk,sF];simp only[Bool.not_true,Bool.or_false,Bool.false_eq_true,if_false]
def VY(e:ya)(c:Va)(b:Int):Yh (Rec.w ⟨3,e,c,b⟩)=if(!decide (Rec.mk 3 ya.z Va.z 0=⟨3,e,c,b⟩))=true then([],1) else(frame (O1 3).b,0):=by
 have h1:=OY 3 e c b;have h2:=RY 3 e c b;have h3:Rec.Uc 3=[It.num 0]:=rfl;unfold Rec.w;rw[Io,h3]
 have ha:([It.num 0].foldl (Sd (Rec.enc ⟨3,e,c,b⟩)) {}).arg=false:=by
  have:=congrArg Ot.bad h1;rw[show(O1 3).bad=false from aM (by decide) (by decide),Cd.bM] at this;exact this
 have hb:([It.num 0].foldl (Sd (Rec.enc ⟨3,e,c,b⟩)) {}).b=(O1 3).b:=by
  have:=congrArg Ot.b h1;rw[Cd.SY] at this;exact this
 have hk:Rec.known ⟨3,e,c,b⟩=true:=rfl;have sF:Rec.bare ⟨3,e,c,b⟩=⟨3,ya.z,Va.z,0⟩:=rfl;rw[ha,h2,hb,hk,sF];simp only[Bool.not_true,Bool.or_false,Bool.false_or,Bool.false_eq_true,if_false]
def XY(e:ya)(c:Va)(b:Int)(h1:k≠1)(h2:k≠2)(h3:k≠3):Yh (Rec.w ⟨k,e,c,b⟩)=([],1):=by
 unfold Rec.w;have hk:Rec.known ⟨k,e,c,b⟩=false:=by unfold Rec.known;exact gj (by rintro(h|h|h)<;>contradiction)
 rw[Io,hk];simp
def ya.RE(e:ya):ya:={e with key:=ByteArray.empty,val:=ByteArray.empty}
def bT(e:ya):(e.RE.Uj {}).bad=e.Uv:=by rw[ya.Yp];rfl
def xN(F:List UInt8×Int):Value->HH->Prop:=λres H'=>∃u hb,res= .tuple #[u,.int .i64 F.2]/\H'=[hb]/\ia 5 F.1 u hb
def ya.mu{e:ya}(hk:e.key.data.toList.length<=1073741824)(hv:e.val.data.toList.length<=1073741824):(e.Uj O).b.length<=O.b.length+2147483900:=by
 have l1:=Ai (O:=O) e.TH;rw[show e.TH.length=6 from rfl] at l1;have l2:=dy (O:=O.je e.TH) hk;have l3:=dy (O:=(O.je e.TH).put (.xj 0 0) (.string e.key)) hv;have l4:=ey (O:=((O.je e.TH).put (.xj 0 0) (.string e.key)).put (.xj 0 0) (.string e.val)) (t:=e.dead);have l5:=Ai (O:=(((O.je e.TH).put (.xj 0 0) (.string e.key)).put (.xj 0 0) (.string e.val)).put (.Sn 0) (.bool e.dead)) e.dp.ls;rw[show e.dp.ls.length=9 from rfl] at l5;have l6:=Ai (O:=((((O.je e.TH).put (.xj 0 0) (.string e.key)).put (.xj 0 0) (.string e.val)).put (.Sn 0) (.bool e.dead)).je e.dp.ls) [e.cl,e.op];rw[show[e.cl,e.op].length=2 from rfl] at l6;unfold ya.Uj;omega
def Va.mu{c:Va}:(c.Uj O).b.length<=O.b.length+200:=by
 have l1:=Ai (O:=O) (c.pre 4);rw[show(c.pre 4).length=10 from rfl] at l1;have l2:=ey (O:=O.je (c.pre 4)) (t:=c.jo);have l3:=Ai (O:=(O.je (c.pre 4)).put (.Sn 0) (.bool c.jo)) [c.le.nd,c.le.sn];rw[show[c.le.nd,c.le.sn].length=2 from rfl] at l3;unfold Va.Uj;omega
def cM:(O1 k).b.length<=9:=by
 have:=Ot.lu (O:={}) (o:=0) (n:=k);exact this
def eT(e:ya)(cf:Va)(bs:Int)(hk:e.key.data.toList.length<=1073741824)(hv:e.val.data.toList.length<=1073741824):Ct prog 216 [.agg (Rec.enc ⟨1,e,cf,bs⟩).toArray] [] (xN (Yh (Rec.w ⟨1,e,cf,bs⟩))):=by
 rw[TY];have hcmp:=rec_eq ⟨1,e,cf,bs⟩ ⟨1,e,Va.z,0⟩;have l1:=cM (k:=1);have l2:=ya.mu (O:=O1 1) hk hv;refine ce func216 λg R=>?_;simp only[can];repeat' apply go
 refine WX.box (vs:=Rec.enc ⟨1,e,cf,bs⟩) rfl rfl rfl (λb=>?_);repeat' first|refine WX.load (v:= .int .i64 1) (b:=b) (i:=0) (cs:=Rec.enc ⟨1,e,cf,bs⟩) rfl rfl rfl ?_|refine om ?_|refine Ud λ_=>?_|refine al λ_=>?_
 rename_i bw o;refine WX.h0 [Zj o {} (.slice none 0 0),[(bw,.cells (Rec.enc ⟨1,ya.z,Va.z,0⟩).toArray 140 (0,0))],[(b,.cells (Rec.enc ⟨1,e,cf,bs⟩).toArray 140 (0,0))],R] ?_;refine WX.Ke ?_;refine ck (Tj (O:={}) (ia.nil _) (by decide) (n:=1)) ?_;rintro _ _ ⟨v1,h1,rfl,hs1⟩;have hs1:ia 5 (O1 1).b v1 h1:=hs1;refine WX.h0 [Zj o (O1 1) v1,h1,[(bw,.cells (Rec.enc ⟨1,ya.z,Va.z,0⟩).toArray 140 (0,0))],[(b,.cells (Rec.enc ⟨1,e,cf,bs⟩).toArray 140 (0,0))],R] ?_;repeat' first|refine WX.load (v:= .int .i64 1) (b:=b) (i:=0) (cs:=Rec.enc ⟨1,e,cf,bs⟩) rfl rfl rfl ?_|refine WX.Fa (b:=b) (i:=1) (cs:=Rec.enc ⟨1,e,cf,bs⟩) (vs:=e.enc) rfl (Rec.oA _ _ _ _) rfl rfl ?_|(refine I.st ?_;refine WX.Yc (vs:=e.enc) (b:=bw) (i:=1) (cs:=Rec.enc ⟨1,ya.z,Va.z,0⟩) rfl rfl rfl (ya.Xo _) (ya.one _) rfl ?_;rw[Rec.Lw])|refine om ?_|refine Ud λ_=>?_|refine al λ_=>?_
 rename_i bt pb;refine WX.h0 [Zj pb {} (.slice none 0 0),[(bt,.cells e.RE.enc.toArray 49 (0,0))],Zj o (O1 1) v1,h1,[(bw,.cells (Rec.enc ⟨1,e,Va.z,0⟩).toArray 140 (0,0))],[(b,.cells (Rec.enc ⟨1,e,cf,bs⟩).toArray 140 (0,0))],R] ?_;refine WX.as 31 (.agg e.RE.enc.toArray) rfl rfl ?_;refine WX.Ke ?_;refine ck (vN (O:={}) (ia.nil _) (by decide) e.RE (by show 0<=1073741824;decide) (by show 0<=1073741824;decide)) ?_;rintro _ _ ⟨v2,h2,rfl,-⟩;have qk:=bT e;generalize e.RE.Uj {}=P at*;simp only[can]
 cases j4:e.Uv with
 |true=>
  rw[j4] at qk;rw[if_pos (by simp)];refine WX.hp (H':=[[(pb,.cells (List.toArray [v2,.bool true]) 278 (0,0))],h2,[(bt,.cells e.RE.enc.toArray 49 (0,0))],Zj o (O1 1) v1,h1,[(bw,.cells (Rec.enc ⟨1,e,Va.z,0⟩).toArray 140 (0,0))],[(b,.cells (Rec.enc ⟨1,e,cf,bs⟩).toArray 140 (0,0))],R]) (by rw[<-qk]) ?_;try refine run ?_
  refine D.Ke ?_
  exact D.Vb [[]] _ rfl rfl rfl ⟨_,_,rfl,rfl,ia.nil _⟩
 |false=>
  rw[j4] at qk;refine WX.hp (H':=[[(pb,.cells (List.toArray [v2,.bool false]) 278 (0,0))],h2,[(bt,.cells e.RE.enc.toArray 49 (0,0))],Zj o (O1 1) v1,h1,[(bw,.cells (Rec.enc ⟨1,e,Va.z,0⟩).toArray 140 (0,0))],[(b,.cells (Rec.enc ⟨1,e,cf,bs⟩).toArray 140 (0,0))],R]) (by rw[<-qk]) ?_;by_cases heq:Rec.mk 1 e cf bs=⟨1,e,Va.z,0⟩
  .rw[Fi heq] at hcmp;rw[if_neg (by rw[Fi heq.symm];simp)];repeat' first|refine Xm b 0 (Rec.enc ⟨1,e,cf,bs⟩) (Rec.enc ⟨1,e,cf,bs⟩) ?_|refine Xm bw 0 (Rec.enc ⟨1,e,Va.z,0⟩) (Rec.enc ⟨1,e,Va.z,0⟩) ?_|refine WX.xl rfl rfl hcmp rfl ?_|refine om ?_|fail
   refine Kp [(⟨e.key⟩:Sb)] (λv3 h3 Fc=>?_);try refine run ?_
   refine Kp [(⟨e.val⟩:Sb)] (λv4 h4 hs4=>?_);have Ry:=nA Fc.rs hs4.rs;by_cases Qw:16<e.key.size\/32<e.val.size
   .rw[if_pos Qw];refine cq (Ct.mono Ry (post':=λr H'=>r= .bool true/\H'=[h3,h4]) (λr H' p=>⟨p.1.trans (congrArg _ (Fi Qw)),p.2⟩)) ?_;try refine run ?_
    refine D.Ke ?_;exact D.Vb [[]] _ rfl rfl rfl ⟨_,_,rfl,rfl,ia.nil _⟩
   .rw[if_neg Qw];refine cq (Ct.mono Ry (post':=λr H'=>r= .bool false/\H'=[h3,h4]) (λr H' p=>⟨p.1.trans (congrArg _ (gj Qw)),p.2⟩)) ?_;repeat' first|refine WX.load (v:= .int .i64 1) (b:=b) (i:=0) (cs:=Rec.enc ⟨1,e,cf,bs⟩) rfl rfl rfl ?_|refine WX.Fa (b:=b) (i:=1) (cs:=Rec.enc ⟨1,e,cf,bs⟩) (vs:=e.enc) rfl (Rec.oA _ _ _ _) rfl rfl ?_|refine om ?_|fail
    refine ck (vN hs1 (by omega) e hk hv) ?_;rintro _ _ ⟨v5,h5,rfl,hs5⟩;generalize e.Uj (O1 1)=S at*;simp only[can];repeat' first|refine WX.load (v:= .int .i64 1) (b:=b) (i:=0) (cs:=Rec.enc ⟨1,e,cf,bs⟩) rfl rfl rfl ?_|refine om ?_|fail
    refine ck (Rv hs5.rs (by omega)) ?_;rintro u6 _ ⟨h6,rfl,Zo⟩;refine rn ?_;exact D.Vb [h6] _ rfl rfl rfl ⟨_,_,rfl,rfl,Zo⟩
  .rw[gj heq] at hcmp;rw[if_pos (by rw[gj (λh=>heq h.symm)];simp)];repeat' first|refine Xm b 0 (Rec.enc ⟨1,e,cf,bs⟩) (Rec.enc ⟨1,e,cf,bs⟩) ?_|refine Xm bw 0 (Rec.enc ⟨1,e,Va.z,0⟩) (Rec.enc ⟨1,e,Va.z,0⟩) ?_|refine WX.xl rfl rfl hcmp rfl ?_|refine om ?_|fail
   refine D.Ke ?_;exact D.Vb [[]] _ rfl rfl rfl ⟨_,_,rfl,rfl,ia.nil _⟩
def fT(e:ya)(cf:Va)(bs:Int):Ct prog 216 [.agg (Rec.enc ⟨2,e,cf,bs⟩).toArray] [] (xN (Yh (Rec.w ⟨2,e,cf,bs⟩))):=by
 rw[UY];have hcmp:=rec_eq ⟨2,e,cf,bs⟩ ⟨2,ya.z,cf,bs⟩;have l1:=cM (k:=2);have l2:=Va.mu (c:=cf) (O:=O1 2);have l3:=Va.mu (c:=cf) (O:={});have l0:({}:Ot).b.length=0:=rfl;have o4:((cf.Uj {}).put (.num 0) (bs)).bad=(cf.Uv||Tv bs):=by rw[Dm,Va.Yp];rfl
 refine ce func216 λg R=>?_;simp only[can];repeat' apply go
 refine WX.box (vs:=Rec.enc ⟨2,e,cf,bs⟩) rfl rfl rfl (λb=>?_);repeat' first|refine WX.load (v:= .int .i64 2) (b:=b) (i:=0) (cs:=Rec.enc ⟨2,e,cf,bs⟩) rfl rfl rfl ?_|refine om ?_|refine Ud λ_=>?_|refine al λ_=>?_
 rename_i bw o;refine WX.h0 [Zj o {} (.slice none 0 0),[(bw,.cells (Rec.enc ⟨2,ya.z,Va.z,0⟩).toArray 140 (0,0))],[(b,.cells (Rec.enc ⟨2,e,cf,bs⟩).toArray 140 (0,0))],R] ?_;refine WX.Ke ?_;refine ck (Tj (O:={}) (ia.nil _) (by decide) (n:=2)) ?_;rintro _ _ ⟨v1,h1,rfl,hs1⟩;have hs1:ia 5 (O1 2).b v1 h1:=hs1;refine WX.h0 [Zj o (O1 2) v1,h1,[(bw,.cells (Rec.enc ⟨2,ya.z,Va.z,0⟩).toArray 140 (0,0))],[(b,.cells (Rec.enc ⟨2,e,cf,bs⟩).toArray 140 (0,0))],R] ?_;repeat' first|refine WX.load (v:= .int .i64 2) (b:=b) (i:=0) (cs:=Rec.enc ⟨2,e,cf,bs⟩) rfl rfl rfl ?_|refine WX.load (v:= .int .i64 bs) (b:=b) (i:=34) (cs:=Rec.enc ⟨2,e,cf,bs⟩) rfl rfl rfl ?_|refine WX.Fa (b:=b) (i:=1) (cs:=Rec.enc ⟨2,e,cf,bs⟩) (vs:=e.enc) rfl (Rec.oA _ _ _ _) rfl rfl ?_|refine WX.Fa (b:=b) (i:=21) (cs:=Rec.enc ⟨2,e,cf,bs⟩) (vs:=cf.enc) rfl (Rec.iT _ _ _ _) rfl rfl ?_|(refine I.st ?_;refine WX.Yc (vs:=cf.enc) (b:=bw) (i:=21) (cs:=Rec.enc ⟨2,ya.z,Va.z,0⟩) rfl rfl rfl (Va.BJ _) (Va.one _) rfl ?_;rw[Rec.tJ])|(refine I.st ?_;refine WX.store (v:= .int .i64 bs) (b:=bw) (i:=34) (cs:=Rec.enc ⟨2,ya.z,cf,0⟩) rfl rfl rfl rfl ?_;rw[Rec.jT])|refine om ?_|refine Ud λ_=>?_|refine al λ_=>?_
 rename_i bt pb;refine WX.h0 [Zj pb {} (.slice none 0 0),[(bt,.cells e.RE.enc.toArray 49 (0,0))],Zj o (O1 2) v1,h1,[(bw,.cells (Rec.enc ⟨2,ya.z,cf,bs⟩).toArray 140 (0,0))],[(b,.cells (Rec.enc ⟨2,e,cf,bs⟩).toArray 140 (0,0))],R] ?_;refine WX.Ke ?_;refine ck (uN (O:={}) (ia.nil _) (by decide) cf) ?_;rintro _ _ ⟨v3,h3,rfl,Fc⟩;generalize cf.Uj {}=P0 at*;simp only[can];repeat' first|refine WX.load (v:= .int .i64 bs) (b:=b) (i:=34) (cs:=Rec.enc ⟨2,e,cf,bs⟩) rfl rfl rfl ?_|refine om ?_|fail
 refine ck (Tj Fc (by omega) (n:=bs)) ?_;rintro _ _ ⟨v2,h2,rfl,-⟩;have qk:=o4;generalize P0.put (.num 0) (bs)=P at*;simp only[can]
 cases j4:(cf.Uv||Tv bs) with
 |true=>
  rw[j4] at qk;rw[if_pos (by simp)];refine WX.hp (H':=[[(pb,.cells (List.toArray [v2,.bool true]) 278 (0,0))],h2,[(bt,.cells e.RE.enc.toArray 49 (0,0))],Zj o (O1 2) v1,h1,[(bw,.cells (Rec.enc ⟨2,ya.z,cf,bs⟩).toArray 140 (0,0))],[(b,.cells (Rec.enc ⟨2,e,cf,bs⟩).toArray 140 (0,0))],R]) (by rw[<-qk]) ?_;try refine run ?_
  refine D.Ke ?_
  exact D.Vb [[]] _ rfl rfl rfl ⟨_,_,rfl,rfl,ia.nil _⟩
 |false=>
  rw[j4] at qk;refine WX.hp (H':=[[(pb,.cells (List.toArray [v2,.bool false]) 278 (0,0))],h2,[(bt,.cells e.RE.enc.toArray 49 (0,0))],Zj o (O1 2) v1,h1,[(bw,.cells (Rec.enc ⟨2,ya.z,cf,bs⟩).toArray 140 (0,0))],[(b,.cells (Rec.enc ⟨2,e,cf,bs⟩).toArray 140 (0,0))],R]) (by rw[<-qk]) ?_;by_cases heq:Rec.mk 2 e cf bs=⟨2,ya.z,cf,bs⟩
  .rw[Fi heq] at hcmp;rw[if_neg (by rw[Fi heq.symm];simp)];have X8:e=ya.z:=by simpa using heq
   repeat' first|refine Xm b 0 (Rec.enc ⟨2,e,cf,bs⟩) (Rec.enc ⟨2,e,cf,bs⟩) ?_|refine Xm bw 0 (Rec.enc ⟨2,ya.z,cf,bs⟩) (Rec.enc ⟨2,ya.z,cf,bs⟩) ?_|refine WX.xl rfl rfl hcmp rfl ?_|refine om ?_|fail
   refine Kp [(⟨e.key⟩:Sb)] (λv3 h3 Fc=>?_);try refine run ?_
   refine Kp [(⟨e.val⟩:Sb)] (λv4 h4 hs4=>?_);have Ry:=nA Fc.rs hs4.rs;have Qw: ¬(16<e.key.size\/32<e.val.size):=by rw[X8];decide
   refine cq (Ct.mono Ry (post':=λr H'=>r= .bool false/\H'=[_,h4]) (λr H' p=>⟨p.1.trans (congrArg _ (gj Qw)),p.2⟩)) ?_;repeat' first|refine WX.load (v:= .int .i64 2) (b:=b) (i:=0) (cs:=Rec.enc ⟨2,e,cf,bs⟩) rfl rfl rfl ?_|refine WX.Fa (b:=b) (i:=21) (cs:=Rec.enc ⟨2,e,cf,bs⟩) (vs:=cf.enc) rfl (Rec.iT _ _ _ _) rfl rfl ?_|refine om ?_|fail
   refine ck (uN hs1 (by omega) cf) ?_;rintro _ _ ⟨v5,h5,rfl,hs5⟩;generalize cf.Uj (O1 2)=S at*;simp only[can];repeat' first|refine WX.load (v:= .int .i64 bs) (b:=b) (i:=34) (cs:=Rec.enc ⟨2,e,cf,bs⟩) rfl rfl rfl ?_|refine om ?_|fail
   refine ck (Tj hs5 (by omega) (n:=bs)) ?_;rintro _ _ ⟨v7,h7,rfl,Cn⟩;have l4:=S.lu (o:=0) (n:=bs);generalize S.put (.num 0) (bs)=T at*;simp only[can];repeat' first|refine om ?_|fail
   refine ck (Rv Cn.rs (by omega)) ?_;rintro u6 _ ⟨h6,rfl,Zo⟩;refine rn ?_;exact D.Vb [h6] _ rfl rfl rfl ⟨_,_,rfl,rfl,Zo⟩
  .rw[gj heq] at hcmp;rw[if_pos (by rw[gj (λh=>heq h.symm)];simp)];repeat' first|refine Xm b 0 (Rec.enc ⟨2,e,cf,bs⟩) (Rec.enc ⟨2,e,cf,bs⟩) ?_|refine Xm bw 0 (Rec.enc ⟨2,ya.z,cf,bs⟩) (Rec.enc ⟨2,ya.z,cf,bs⟩) ?_|refine WX.xl rfl rfl hcmp rfl ?_|refine om ?_|fail
   refine D.Ke ?_;exact D.Vb [[]] _ rfl rfl rfl ⟨_,_,rfl,rfl,ia.nil _⟩
def kT(e:ya)(cf:Va)(bs:Int):Ct prog 216 [.agg (Rec.enc ⟨3,e,cf,bs⟩).toArray] [] (xN (Yh (Rec.w ⟨3,e,cf,bs⟩))):=by
 rw[VY];have hcmp:=rec_eq ⟨3,e,cf,bs⟩ ⟨3,ya.z,Va.z,0⟩;have l1:=cM (k:=3);refine ce func216 λg R=>?_;simp only[can];by_cases heq:Rec.mk 3 e cf bs=⟨3,ya.z,Va.z,0⟩
 .rw[Fi heq] at hcmp;rw[if_neg (by rw[Fi heq.symm];simp)]
  have X8:e=ya.z:=by
   simp only[Rec.mk.injEq,true_and] at heq;exact heq.1
  repeat' apply go
  refine WX.box (vs:=Rec.enc ⟨3,e,cf,bs⟩) rfl rfl rfl (λb=>?_);repeat' first|refine WX.load (v:= .int .i64 3) (b:=b) (i:=0) (cs:=Rec.enc ⟨3,e,cf,bs⟩) rfl rfl rfl ?_|refine om ?_|refine Ud λ_=>?_|refine al λ_=>?_
  rename_i bw o;refine WX.h0 [Zj o {} (.slice none 0 0),[(bw,.cells (Rec.enc ⟨3,ya.z,Va.z,0⟩).toArray 140 (0,0))],[(b,.cells (Rec.enc ⟨3,e,cf,bs⟩).toArray 140 (0,0))],R] ?_;refine WX.Ke ?_;refine ck (Tj (O:={}) (ia.nil _) (by decide) (n:=3)) ?_;rintro _ _ ⟨v1,h1,rfl,hs1⟩;have hs1:ia 5 (O1 3).b v1 h1:=hs1;refine WX.h0 [Zj o (O1 3) v1,h1,[(bw,.cells (Rec.enc ⟨3,ya.z,Va.z,0⟩).toArray 140 (0,0))],[(b,.cells (Rec.enc ⟨3,e,cf,bs⟩).toArray 140 (0,0))],R] ?_;repeat' first|refine WX.load (v:= .int .i64 3) (b:=b) (i:=0) (cs:=Rec.enc ⟨3,e,cf,bs⟩) rfl rfl rfl ?_|refine WX.Fa (b:=b) (i:=1) (cs:=Rec.enc ⟨3,e,cf,bs⟩) (vs:=e.enc) rfl (Rec.oA _ _ _ _) rfl rfl ?_|refine Xm b 0 (Rec.enc ⟨3,e,cf,bs⟩) (Rec.enc ⟨3,e,cf,bs⟩) ?_|refine Xm bw 0 (Rec.enc ⟨3,ya.z,Va.z,0⟩) (Rec.enc ⟨3,ya.z,Va.z,0⟩) ?_|refine WX.xl rfl rfl hcmp rfl ?_|refine om ?_|refine Ud λ_=>?_|refine al λ_=>?_
  rename_i bt pb;refine Kp [(⟨e.key⟩:Sb)] (λv3 h3 Fc=>?_);try refine run ?_
  refine Kp [(⟨e.val⟩:Sb)] (λv4 h4 hs4=>?_);have Ry:=nA Fc.rs hs4.rs;have Qw: ¬(16<e.key.size\/32<e.val.size):=by rw[X8];decide
  refine cq (Ct.mono Ry (post':=λr H'=>r= .bool false/\H'=[h3,h4]) (λr H' p=>⟨p.1.trans (congrArg _ (gj Qw)),p.2⟩)) ?_;repeat' first|refine WX.load (v:= .int .i64 3) (b:=b) (i:=0) (cs:=Rec.enc ⟨3,e,cf,bs⟩) rfl rfl rfl ?_|refine om ?_|fail
  refine ck (Rv hs1.rs (by omega)) ?_;rintro u6 _ ⟨h6,rfl,Zo⟩;refine rn ?_;exact D.Vb [h6] _ rfl rfl rfl ⟨_,_,rfl,rfl,Zo⟩
 .rw[gj heq] at hcmp;rw[if_pos (by rw[gj (λh=>heq h.symm)];simp)];repeat' apply go
  refine WX.box (vs:=Rec.enc ⟨3,e,cf,bs⟩) rfl rfl rfl (λb=>?_);repeat' first|refine WX.load (v:= .int .i64 3) (b:=b) (i:=0) (cs:=Rec.enc ⟨3,e,cf,bs⟩) rfl rfl rfl ?_|refine om ?_|refine Ud λ_=>?_|refine al λ_=>?_
  rename_i bw o;refine WX.h0 [Zj o {} (.slice none 0 0),[(bw,.cells (Rec.enc ⟨3,ya.z,Va.z,0⟩).toArray 140 (0,0))],[(b,.cells (Rec.enc ⟨3,e,cf,bs⟩).toArray 140 (0,0))],R] ?_;refine WX.Ke ?_;refine ck (Tj (O:={}) (ia.nil _) (by decide) (n:=3)) ?_;rintro _ _ ⟨v1,h1,rfl,hs1⟩;have hs1:ia 5 (O1 3).b v1 h1:=hs1;refine WX.h0 [Zj o (O1 3) v1,h1,[(bw,.cells (Rec.enc ⟨3,ya.z,Va.z,0⟩).toArray 140 (0,0))],[(b,.cells (Rec.enc ⟨3,e,cf,bs⟩).toArray 140 (0,0))],R] ?_;repeat' first|refine WX.load (v:= .int .i64 3) (b:=b) (i:=0) (cs:=Rec.enc ⟨3,e,cf,bs⟩) rfl rfl rfl ?_|refine WX.Fa (b:=b) (i:=1) (cs:=Rec.enc ⟨3,e,cf,bs⟩) (vs:=e.enc) rfl (Rec.oA _ _ _ _) rfl rfl ?_|refine Xm b 0 (Rec.enc ⟨3,e,cf,bs⟩) (Rec.enc ⟨3,e,cf,bs⟩) ?_|refine Xm bw 0 (Rec.enc ⟨3,ya.z,Va.z,0⟩) (Rec.enc ⟨3,ya.z,Va.z,0⟩) ?_|refine WX.xl rfl rfl hcmp rfl ?_|refine om ?_|refine Ud λ_=>?_|refine al λ_=>?_
  rename_i bt pb;refine D.Ke ?_;exact D.Vb [[]] _ rfl rfl rfl ⟨_,_,rfl,rfl,ia.nil _⟩
def lT{k:Int}(e:ya)(cf:Va)(bs:Int)(n1:k≠1)(n2:k≠2)(n3:k≠3):Ct prog 216 [.agg (Rec.enc ⟨k,e,cf,bs⟩).toArray] [] (xN (Yh (Rec.w ⟨k,e,cf,bs⟩))):=by
 rw[XY e cf bs n1 n2 n3];refine ce func216 λg R=>?_;simp only[can];repeat' apply go
 refine WX.box (vs:=Rec.enc ⟨k,e,cf,bs⟩) rfl rfl rfl (λb=>?_);repeat' first|refine WX.load (v:= .int .i64 k) (b:=b) (i:=0) (cs:=Rec.enc ⟨k,e,cf,bs⟩) rfl rfl rfl ?_|refine om ?_|refine Ud λ_=>?_|refine al λ_=>?_
 rename_i bw o;refine WX.h0 [Zj o {} (.slice none 0 0),[(bw,.cells (Rec.enc ⟨k,ya.z,Va.z,0⟩).toArray 140 (0,0))],[(b,.cells (Rec.enc ⟨k,e,cf,bs⟩).toArray 140 (0,0))],R] ?_;refine WX.Ke ?_;refine ck (Tj (O:={}) (ia.nil _) (by decide) (n:=k)) ?_;rintro _ _ ⟨v1,h1,rfl,hs1⟩;have hs1:ia 5 (O1 k).b v1 h1:=hs1;refine WX.h0 [Zj o (O1 k) v1,h1,[(bw,.cells (Rec.enc ⟨k,ya.z,Va.z,0⟩).toArray 140 (0,0))],[(b,.cells (Rec.enc ⟨k,e,cf,bs⟩).toArray 140 (0,0))],R] ?_;repeat' first|refine WX.load (v:= .int .i64 k) (b:=b) (i:=0) (cs:=Rec.enc ⟨k,e,cf,bs⟩) rfl rfl rfl ?_|refine WX.Fa (b:=b) (i:=1) (cs:=Rec.enc ⟨k,e,cf,bs⟩) (vs:=e.enc) rfl (Rec.oA _ _ _ _) rfl rfl ?_|refine om ?_|refine Ud λ_=>?_|refine al λ_=>?_
 rename_i bt pb;refine D.Ke ?_;exact D.Vb [[]] _ rfl rfl rfl ⟨_,_,rfl,rfl,ia.nil _⟩
def yN(r:Rec)(hz:r.size<=1073741824):Ct prog 216 [.agg r.enc.toArray] [] (λres H'=>∃u hb,res= .tuple #[u,r.code]/\H'=[hb]/\ia 5 r.fr u hb):=by
 obtain⟨k,e,cf,bs⟩:=r;unfold Rec.size at hz;simp only[] at hz;by_cases n1:k=1
 .subst n1;exact eT e cf bs (by omega) (by omega)
 by_cases n2:k=2
 .subst n2;exact fT e cf bs
 by_cases n3:k=3
 .subst n3;exact kT e cf bs
 exact lT e cf bs n1 n2 n3
variable{B:List UInt8}{p:Nat}
abbrev Wm(o:Nat)(v:Value)(p:Nat):Hp:=[(o,.cells (List.toArray [v,.int .i64 (p:Int),.bool false]) 274 (0,0))]
def Zp(o:Nat)(v:Value)(h:Hp)(p:Nat)(u:Value):Value->HH->Prop:=λr H'=>r=u/\H'=[Wm o v p,h]
def CJ{v:Value}(hr:Rs B v h){x:UInt8}(hx:B[p]? =some x)(hl:B.length<=1099511627776){o:Nat}:
  Ct prog 290 [o] [Wm o v p,h] (Zp o v h (p+1) (.int .u8 (x.toNat:Int))):=by
 have hlt:=(List.getElem?_eq_some_iff.1 hx).1;obtain⟨q,c,rfl⟩:=hr.len;have hx':B[((p:Int)+1 - 1).toNat]? =some x:=by rw[show((p:Int)+1 - 1).toNat=p by omega];exact hx
 refine cr func290 λg R=>?_;refine wr ?_;refine wr ?_;refine D.hp (H':=[Wm o (.slice q B.length c) (p+1),h,R]) rfl ?_;exact vj [Wm o (.slice q B.length c) (p+1),h]
def YY(x:Nat):x &&& 127=x% 128:=Nat.and_two_pow_sub_one_eq_mod x 7
def zN{v:Value}(hs:Rs B v h){n:Nat}(hn:n<=4611686018427387904){rest:List UInt8}(hd:B.drop p=Gd n++rest)(hl:B.length<=1099511627776){o:Nat}:
  Ct prog 259 [o] [Wm o v p,h] (Zp o v h (p+(Gd n).length) (.int .i64 (n:Int))):=by
 refine cr func259 λg R=>?_;refine W.as 3 (.int .u64 ((n% 128^0:Nat):Int)) rfl (by rw[Nat.pow_zero,Nat.mod_one];rfl) ?_;refine W.lo (α:=Nat) (λi=>i=0\/1<=n/128^i) (λi=>[(0,o),(3,.int .u64 ((n% 128^i:Nat):Int)),(4,.int .i64 (i:Int))]) (λi=>[Wm o v (p+i),h,R]) (λi=>9 - i) 0 (.inl rfl) ?_;intro i hi;have V8:=le8 hn hi;obtain⟨pre,nO,hpe⟩:=AN i n hi;have hlen:(Gd n).length=i+(Gd (n/128^i)).length:=by rw[hpe,Cb,nO]
 have Ip:B.drop (p+i)=Gd (n/128^i)++rest:=by
  rw[<-drop_drop,hd,hpe,Oc,drop_append_of_le_length (by omega),<-nO,drop_length];rfl
 have hpi:p+i<B.length:=by
  have:=congrArg List.length Ip;rw[length_drop,Cb] at this;have:=ou (n/128^i);omega
 have hmn:n% 128^i<=n:=Nat.mod_le _ _;have hsu:n% 128^(i+1)=n% 128^i+n/128^i% 128*2^(7*i):=by rw[mT,Nat.pow_succ,Nat.mod_mul,Nat.mul_comm (128^i)]
 have Y8:n% 128^(i+1)<=n:=Nat.mod_le _ _;have hb:n/128^i% 128*2^(7*i)<=4611686018427387904:=by omega
 have h7:7*i<=IntKind.u64.bits:=by show 7*i<=64;omega
 generalize hm:n/128^i=m at*;obtain⟨x,hx⟩:=Sh hpi;have hx0:(Gd m++rest)[0]? =some x:=by rw[<-Ip,List.getElem?_drop];exact hx
 have qX:=Dh x
 have vQ:x.toNat% 128=m% 128/\(m<128->x.toNat=m)/\(¬m<128->128<=x.toNat):=by
  by_cases hge:m<128
  .rw[dg hge] at hx0;have h1:UInt8.ofNat m=x:=by simpa using hx0
   have h2:x.toNat=m:=by rw[<-h1,Ff (by omega)]
   exact⟨by rw[h2],λ_=>h2,λh=>absurd hge h⟩
  .rw[Ho hge] at hx0;have h1:UInt8.ofNat (128+m% 128)=x:=by simpa using hx0
   have h2:x.toNat=128+m% 128:=by rw[<-h1,Ff (by omega)]
   exact⟨by omega,λh=>absurd h hge,λ_=>by omega⟩
 try refine run ?_
 refine ck (CJ hs hx hl) ?_;rintro _ _ ⟨rfl,rfl⟩;repeat' first|refine rn ?_|refine WX.Z8 (b:=127) rfl rfl qX (by decide) rfl ?_
 refine WX.as 14 (.int .u8 ((m% 128:Nat):Int)) rfl (by rw[YY,vQ.1]) ?_;refine WX.conv rfl rfl (IntWalk.u64_in _ (by omega)) ?_;repeat' first|refine run ?_|refine WX.mul rfl rfl rfl (by omega) ?_
 refine WX.as 17 (.int .i64 ((7*i:Nat):Int)) rfl (by congr 1) ?_;refine WX.zP rfl rfl h7 (IntWalk.u64_in _ ⟨Int.natCast_nonneg _,Int.le_trans (Int.ofNat_le.2 hb) (by decide)⟩) rfl ?_;refine WX.lW rfl rfl rfl ?_;refine WX.as 19 (.int .u64 ((n% 128^(i+1):Nat):Int)) rfl (by rw[<-Int.natCast_add,<-hsu];exact congrArg _ (IntWalk.u64_in _ (by omega))) ?_;by_cases hge:m<128
 .have hx2:=vQ.2.1 hge
  have VA:n% 128^(i+1)=n:=by
   refine Nat.mod_eq_of_lt ?_;rw[Nat.pow_succ,Nat.mul_comm,<-Nat.div_lt_iff_lt_mul (Nat.pow_pos (by decide)),hm];exact hge
  have Pf:(Gd n).length=i+1:=by rw[hlen,dg hge];rfl
  rw[Pf,show p+(i+1)=p+i+1 from rfl];by_cases hm0:m=0
  .have qQ:i=0:=by omega
   repeat' first|refine run ?_|refine WX.conv rfl rfl (IntWalk.i64_in _ (by omega)) ?_
   exact Wa [Wm o v (p+i+1),h] rfl rfl ⟨by rw[VA],rfl⟩
  .repeat' first|refine run ?_|refine WX.conv rfl rfl (IntWalk.i64_in _ (by omega)) ?_
   exact Wa [Wm o v (p+i+1),h] rfl rfl ⟨by rw[VA],rfl⟩
 .have hx2:=vQ.2.2 hge;try refine run ?_
  exact D.rd (i+1) (.inr (by rw[Nat.pow_succ,<-Nat.div_div_eq_div_mul,hm];omega)) (by omega)
variable{rest:List UInt8}
def mW{v:Value}(hs:Rs B v h){t:Bool}(hd:B.drop p=Gd (if t=true then 1 else 0)++rest)(hl:B.length<=1099511627776){o:Nat}:
  Ct prog 292 [o] [Wm o v p,h] (Zp o v h (p+(Gd (if t=true then 1 else 0)).length) (.bool t)):=by
 have hx:B[p]? =some (if t=true then 1 else 0):=by
  have:(B.drop p)[0]? =some (if t=true then 1 else 0):=by
   rw[hd];cases t
   .rw[if_neg (by decide),dg (by decide)];rfl
   .rw[if_pos rfl,dg (by decide)];rfl
  rwa [List.getElem?_drop] at this
 have Pf:(Gd (if t=true then 1 else 0)).length=1:=by
  cases t
  .rw[if_neg (by decide),dg (by decide)];rfl
  .rw[if_pos rfl,dg (by decide)];rfl
 rw[Pf];refine cr func292 λg R=>?_;refine ck (CJ hs hx hl) ?_;rintro _ _ ⟨rfl,rfl⟩;simp only[can]
 cases t with
 |true=>
  rw[show(((if true=true then 1 else 0:UInt8).toNat:Nat):Int)=1 from rfl];try refine run ?_
  exact vj [Wm o v (p+1),h]
 |false=>
  rw[show(((if false=true then 1 else 0:UInt8).toNat:Nat):Int)=0 from rfl];try refine run ?_
  exact vj [Wm o v (p+1),h]
def nW{v:Value}(hs:Rs B v h){s:ByteArray}{most:Nat}(hm:s.data.toList.length<=most)(rX:most<=1000)(hd:B.drop p=(Gd s.data.toList.length++s.data.toList)++rest)(hl:B.length<=1099511627776){o:Nat}:
  Ct prog 291 [o,.int .i64 (most:Int)] [Wm o v p,h] (Zp o v h (p+(Gd s.data.toList.length++s.data.toList).length) (.string s)):=by
 rw[Oc] at hd;rw[Cb]
 have Hj:B.drop (p+(Gd s.data.toList.length).length)=s.data.toList++rest:=by
  rw[<-drop_drop,hd,drop_left]
 have hle:=congrArg List.length Hj;rw[length_drop,Cb] at hle;have j9:=congrArg List.length hd;rw[length_drop,Cb,Cb] at j9;have hpos:=ou s.data.toList.length;obtain⟨q,c,rfl⟩:=hs.len;have hcap:B.length<=c:=by obtain⟨a,cc,e,le,_⟩:=id hs;cases e;exact le
 generalize hp1:p+(Gd s.data.toList.length).length=p1 at*
 have hrc:Rs s.data.toList (Oi (.slice q B.length c) 1 p1 (p1+s.data.toList.length) c) h:=by
  have:=hs.cut (m:=1) (lo:=p1) (hi:=p1+s.data.toList.length) (mx:=c) rfl (by omega) (by omega) (by omega);rw[Hj,show p1+s.data.toList.length - p1=s.data.toList.length from by omega,take_left] at this;exact this
 have KO:=zN (o:=o) hs (n:=s.data.toList.length) (by omega) hd hl;rw[hp1] at KO;generalize hz:s.data.toList.length=z at*;refine cr func291 λg R=>?_;refine ck KO ?_;rintro _ _ ⟨rfl,rfl⟩;refine rn ?_;refine wr ?_;refine wr ?_;refine WX.as 52 (.int .i64 (p1:Int)) rfl (by congr 1;omega) ?_;refine WX.as 56 (.int .i64 ((p1+z:Nat):Int)) rfl rfl ?_;refine WX.nJ (lo:=p1) (hi:=p1+z) rfl rfl rfl (by omega) (by omega) rfl ?_;refine WX.strOf rfl hrc rfl ?_;rw[qA];try refine run ?_
 refine D.hp (H':=[Wm o (.slice q B.length c) (p1+z),h,R]) rfl ?_;exact Wa [Wm o (.slice q B.length c) (p1+z),h] rfl rfl ⟨rfl,by rw[<-hp1,Nat.add_assoc]⟩
def Rd(B:List UInt8):Nat->List (It×Value)->Nat->Prop
 |p,[],q=>p=q
 |p,x::l,q=>∃b rest,encI x.1 x.2=some b/\Gj x.1 x.2=false/\B.drop p=b++rest/\Rd B (p+b.length) l q
def Rd.split{B:List UInt8}:∀{l m:List (It×Value)} {p q:Nat},Rd B p (l++m) q->∃s,Rd B p l s/\Rd B s m q
 |[],m,p,q,h=>⟨p,rfl,h⟩
 |x::l,m,p,q,h=>by
  obtain⟨b,rest,h1,h2,h3,h4⟩:=h;obtain⟨s,h5,h6⟩:=Rd.split (l:=l) h4;exact⟨s,⟨b,rest,h1,h2,h3,h5⟩,h6⟩
section
variable{B:List UInt8}{v:Value}{h:Hp}{p o:Nat}
def Ee(hs:Rs B v h){n:Int}{b rest:List UInt8}{j:Nat}(he:encI (.num j) (n)=some b)(hd:B.drop p=b++rest)(hl:B.length<=1099511627776):
  Ct prog 259 [o] [Wm o v p,h] (Zp o v h (p+b.length) (n)):=by
 have hne: ¬(n<0\/4611686018427387904<n):=λhc=>by rw[qh,if_pos hc] at he;cases he
 have he:b=Gd n.toNat:=by rw[qh,if_neg hne] at he;exact(Option.some.inj he).symm
 subst he;obtain⟨m,rfl⟩:∃m:Nat,n=(m:Int):=⟨n.toNat,by omega⟩;rw[Int.toNat_natCast] at hd⊢;exact zN hs (by omega) hd hl
def DJ(hs:Rs B v h){t:Bool}{b rest:List UInt8}{j:Nat}(he:encI (.Sn j) (.bool t)=some b)(hd:B.drop p=b++rest)(hl:B.length<=1099511627776):
  Ct prog 292 [o] [Wm o v p,h] (Zp o v h (p+b.length) (.bool t)):=by
 have he:b=Gd (if t=true then 1 else 0):=(Option.some.inj he).symm;subst he;exact mW hs hd hl
def EJ(hs:Rs B v h){s:ByteArray}{b rest:List UInt8}{j most:Nat}(rX:most<=1000)(he:encI (.xj j most) (.string s)=some b)(hg:Gj (.xj j most) (.string s)=false)(hd:B.drop p=b++rest)(hl:B.length<=1099511627776):
  Ct prog 291 [o,.int .i64 (most:Int)] [Wm o v p,h] (Zp o v h (p+b.length) (.string s)):=by
 have he:b=Gd s.data.toList.length++s.data.toList:=(Option.some.inj he).symm;have hm: ¬most<s.data.toList.length:=of_decide_eq_false hg;subst he;exact nW hs (by omega) rX hd hl
end
def BN{B:List UInt8}{v:Value}{h:Hp}(hs:Rs B v h){p p' i j:Nat}{x y:Int}(hrd:Rd B p [(.num i,x),(.num j,y)] p')(hl:B.length<=1099511627776){o:Nat}:
  Ct prog 294 [o] [Wm o v p,h] (Zp o v h p' (.agg #[x,y])):=by
 obtain⟨b0,r0,e0,-,d0,b1,r1,e1,-,d1,rfl⟩:=hrd;refine ce func294 λg R=>?_;repeat' first|refine rn ?_|refine al λ_=>?_
 rename_i b2 b3;refine ck (Ee hs e0 d0 hl) ?_;rintro _ _ ⟨rfl,rfl⟩;refine rn ?_;refine ck (Ee hs e1 d1 hl) ?_;rintro _ _ ⟨rfl,rfl⟩;refine rn ?_;exact D.Dc [Wm o v (p+b0.length+b1.length),h] _ rfl (.Ua rfl rfl .nil) ⟨rfl,rfl⟩
variable{xs zs:List Value}{j:Nat}{d:V9}
def Kf(xs zs:List Value)(j:Nat):List Value:=xs.take j++zs.drop j
def nT{x:Value}(hx:xs[j]? =some x)(hz:zs.length=xs.length):(Kf xs zs j).set j x=Kf xs zs (j+1):=by
 obtain⟨h1,h2⟩:=List.getElem?_eq_some_iff.1 hx;unfold Kf;have h3:(xs.take j).length=j:=by rw[Fe];omega
 rw[set_append_right _ _ (by omega),h3,Nat.sub_self,drop_eq_getElem_cons (by omega:j<zs.length),set_cons_zero,take_succ_eq_append_getElem h1,h2,Oc];rfl
def FJ(hz:zs.length=xs.length)(hj:j<=xs.length):(Kf xs zs j).length=xs.length:=by
 unfold Kf;rw[Cb,Fe,length_drop];omega
def Jo(o:Nat)(d:V9):List (It×Value):=(Cx o).zip d.enc
def GJ{o:Nat}{x:Int}(h:j<9)(hx:d.enc[j]? =some (.int .i64 x)):(Jo o d).drop j=(.num (o+j),.int .i64 x)::(Jo o d).drop (j+1):=by
 have hl:(Jo o d).length=9:=rfl;rw[drop_eq_getElem_cons (by omega)];congr 1
 have h1:(Jo o d)[j]? =some (It.num (o+j),Value.int .i64 x):=by
  unfold Jo;rw[List.getElem?_zip_eq_some];exact⟨by unfold Cx;simp[h],hx⟩
 exact(List.getElem?_eq_some_iff.1 h1).2
def oW{B:List UInt8}{v:Value}{h:Hp}(hs:Rs B v h){p p' k0:Nat}(hrd:Rd B p (Jo k0 d) p')(hl:B.length<=1099511627776){o:Nat}:
  Ct prog 293 [.pointer (some ⟨o,0,none⟩)] [Wm o v p,h] (Zp o v h p' (.agg d.enc.toArray)):=by
 have hzl:V9.z.enc.length=d.enc.length:=rfl;have hdl:d.enc.length=9:=rfl;refine ce func293 λg R=>?_;repeat' first|refine rn ?_|refine al λ_=>?_
 rename_i b2 b3;refine W.hp (H':=[[(b3,.cells (Kf d.enc V9.z.enc (0*3+0)).toArray 47 (0,0))],[(b2,.cells V9.z.enc.toArray 47 (0,0))],Wm o v p,h,R]) rfl ?_
 refine W.lo (α:=Nat×Nat) (λx=>x.1<=3/\Rd B x.2 ((Jo k0 d).drop (x.1*3+0)) p') (λx=>[(0,.pointer (some ⟨o,0,none⟩)),(2,.pointer (some ⟨b2,0,none⟩)),(3,.pointer (some ⟨b3,0,none⟩)),(4,.int .i64 (x.1:Int))])
  (λx=>[[(b3,.cells (Kf d.enc V9.z.enc (x.1*3+0)).toArray 47 (0,0))],[(b2,.cells V9.z.enc.toArray 47 (0,0))],Wm o v x.2,h,R]) (λx=>3 - x.1) (0,p) ⟨Nat.zero_le _,hrd⟩ ?_
 rintro⟨k,q⟩ ⟨hk,hq⟩;simp only[] at hk hq⊢;by_cases jW:k<3
 .try refine run ?_
  refine W.lo (α:=Nat×Nat) (λx=>x.1<=3/\Rd B x.2 ((Jo k0 d).drop (k*3+x.1)) p') (λx=>[(0,.pointer (some ⟨o,0,none⟩)),(2,.pointer (some ⟨b2,0,none⟩)),(3,.pointer (some ⟨b3,0,none⟩)),(4,.int .i64 (k:Int)),(5,.int .i64 (x.1:Int))])
   (λx=>[[(b3,.cells (Kf d.enc V9.z.enc (k*3+x.1)).toArray 47 (0,0))],[(b2,.cells V9.z.enc.toArray 47 (0,0))],Wm o v x.2,h,R]) (λx=>3 - x.1) (0,q) ⟨Nat.zero_le _,hq⟩ ?_
  rintro⟨r,s⟩ ⟨hr,zF⟩;simp only[] at hr zF⊢;by_cases HU:r<3
  .obtain⟨x,-,hx⟩:=d.at9 (j:=k*3+r) (by omega);rw[GJ (by omega) hx] at zF;obtain⟨b,rest,e1,-,d1,zF⟩:=zF;have hfl:=FJ (j:=k*3+r) hzl (by omega);have hlt:Nat.blt (k*3+r) (Kf d.enc V9.z.enc (k*3+r)).length=true:=Nat.ble_eq_true_of_le (by rw[hfl,hdl];omega);have dY:=nT hx hzl;try refine run ?_
   refine W.mix [true,true,true,false,true,true,false] ([]:HH) Tryz.mix (by kernel_rfl) ?_;try refine run ?_
   refine ck (Ee hs e1 d1 hl) ?_;rintro _ _ ⟨rfl,rfl⟩;refine rn ?_;refine WX.as 19 (.pointer (some ⟨b3,k*3+r,none⟩)) rfl (by rw[Int.toNat_natCast,Int.toNat_natCast,Nat.mul_one,Nat.zero_add]) ?_;refine WX.store (v:= .int .i64 x) (b:=b3) (i:=k*3+r) (cs:=Kf d.enc V9.z.enc (k*3+r)) rfl rfl rfl hlt ?_;rw[dY];try refine run ?_
   exact D.rd (r+1,s+b.length) ⟨by simp only[];omega,zF⟩ (by simp only[];omega)
  .obtain rfl:r=3:=by omega
   rw[show k*3+3=(k+1)*3+0 by omega] at zF⊢;try refine run ?_
   exact D.rd (k+1,s) ⟨by simp only[];omega,zF⟩ (by simp only[];omega)
 .obtain rfl:k=3:=by omega
  have hq:q=p':=hq;subst hq;rw[show Kf d.enc V9.z.enc (3*3+0)=d.enc from rfl];try refine run ?_
  exact D.Dc [Wm o v q,h] _ rfl (.Ua rfl rfl .nil) ⟨rfl,rfl⟩
variable{p' k0:Nat}
def Vv(o:Nat)(c:Va):List (It×Value):=(vH o).zip c.enc
def dM(o:Nat)(c:Va){i:Nat}(h:i<4):∃(m:Mem) (j k:Nat),(Vv o c).drop (2+i*2)=[(.num j,.int .i64 m.nd),(.num k,.int .i64 m.sn)]++(Vv o c).drop (2+(i+1)*2)/\setAt (Kf c.enc Va.z.enc (2+i*2)) (2+i*2) [.int .i64 m.nd,.int .i64 m.sn]=Kf c.enc Va.z.enc (2+(i+1)*2):=by
 match i,h with
 |0,_=>exact⟨c.f0,_,_,rfl,rfl⟩
 |1,_=>exact⟨c.f1,_,_,rfl,rfl⟩
 |2,_=>exact⟨c.f2,_,_,rfl,rfl⟩
 |3,_=>exact⟨c.f3,_,_,rfl,rfl⟩
def pW{v:Value}(hs:Rs B v h){p:Nat}{c:Va}(hrd:Rd B p (Vv k0 c) p')(hl:B.length<=1099511627776){o:Nat}:
  Ct prog 261 [.pointer (some ⟨o,0,none⟩)] [Wm o v p,h] (Zp o v h p' (.agg c.enc.toArray)):=by
 have hzl:Va.z.enc.length=c.enc.length:=rfl;obtain⟨b0,r0,e0,-,d0,b1,r1,e1,-,d1,hrd⟩:=hrd;have hrd:Rd B (p+b0.length+b1.length) ((Vv k0 c).drop (2+0*2)) p':=hrd;refine ce func261 λg R=>?_;repeat' first|refine rn ?_|refine al λ_=>?_
 rename_i b2 b3;refine WX.hp (H':=[[(b3,.cells (Kf c.enc Va.z.enc 0).toArray 40 (0,0))],[(b2,.cells Va.z.enc.toArray 40 (0,0))],Wm o v p,h,R]) rfl ?_;refine ck (Ee hs e0 d0 hl) ?_;rintro _ _ ⟨rfl,rfl⟩;simp only[can];repeat' first|refine WX.store (v:= .int .i64 c.ep) (b:=b3) (i:=0) (cs:=Kf c.enc Va.z.enc 0) rfl rfl rfl rfl ?_|refine om ?_|fail
 refine WX.hp (H':=[Wm o v (p+b0.length),h,[(b3,.cells (Kf c.enc Va.z.enc 1).toArray 40 (0,0))],[(b2,.cells Va.z.enc.toArray 40 (0,0))],R]) rfl ?_;refine ck (Ee hs e1 d1 hl) ?_;rintro _ _ ⟨rfl,rfl⟩;simp only[can];repeat' first|refine WX.store (v:= .int .i64 c.n) (b:=b3) (i:=1) (cs:=Kf c.enc Va.z.enc 1) rfl rfl rfl rfl ?_|refine om ?_|fail
 refine W.hp (H':=[Wm o v (p+b0.length+b1.length),h,[(b3,.cells (Kf c.enc Va.z.enc (2+0*2)).toArray 40 (0,0))],[(b2,.cells Va.z.enc.toArray 40 (0,0))],R]) rfl ?_
 refine W.lo (α:=Nat×Nat) (λx=>x.1<=4/\Rd B x.2 ((Vv k0 c).drop (2+x.1*2)) p') (λx=>[(0,.pointer (some ⟨o,0,none⟩)),(2,.pointer (some ⟨b2,0,none⟩)),(3,.pointer (some ⟨b3,0,none⟩)),(4,.int .i64 (x.1:Int))])
  (λx=>[Wm o v x.2,h,[(b3,.cells (Kf c.enc Va.z.enc (2+x.1*2)).toArray 40 (0,0))],[(b2,.cells Va.z.enc.toArray 40 (0,0))],R]) (λx=>4 - x.1) (0,p+b0.length+b1.length) ⟨Nat.zero_le _,hrd⟩ ?_
 rintro⟨i,q⟩ ⟨hi,hq⟩;simp only[] at hi hq⊢;by_cases hi4:i<4
 .obtain⟨m,j,k,e2,e3⟩:=dM k0 c hi4;rw[e2] at hq;obtain⟨s,hm,hq⟩:=hq.split;have hfl:=FJ (j:=2+i*2) hzl (by rw[Va.BJ];omega);have l9:Nat.ble (2+i*2+[Value.int .i64 m.nd,.int .i64 m.sn].length) (Kf c.enc Va.z.enc (2+i*2)).length=true:=Nat.ble_eq_true_of_le (by rw[hfl,Va.BJ];simp only[length_cons,length_nil];omega);try refine run ?_
  refine ck (BN hs hm hl) ?_;rintro _ _ ⟨rfl,rfl⟩;refine rn ?_;refine WX.as 19 (.pointer (some ⟨b3,2+i*2,none⟩)) rfl (by rw[Int.toNat_natCast,Nat.zero_add]) ?_;refine WX.Yc (vs:=[.int .i64 m.nd,.int .i64 m.sn]) (b:=b3) (i:=2+i*2) (cs:=Kf c.enc Va.z.enc (2+i*2)) rfl rfl rfl rfl rfl l9 ?_;rw[e3];try refine run ?_
  exact D.rd (i+1,s) ⟨by simp only[];omega,hq⟩ (by simp only[];omega)
 .obtain rfl:i=4:=by omega
  obtain⟨b4,r4,e4,-,d4,hq⟩:=hq;have hq:Rd B (q+b4.length) [(.num (k0+11),.int .i64 c.le.nd),(.num (k0+12),.int .i64 c.le.sn)] p':=hq;try refine run ?_
  refine ck (DJ hs e4 d4 hl) ?_;rintro _ _ ⟨rfl,rfl⟩;simp only[can];repeat' first|refine WX.store (v:= .bool c.jo) (b:=b3) (i:=10) (cs:=Kf c.enc Va.z.enc (2+4*2)) rfl rfl rfl rfl ?_|refine om ?_|fail
  refine WX.hp (H':=[Wm o v (q+b4.length),h,[(b3,.cells (Kf c.enc Va.z.enc 11).toArray 40 (0,0))],[(b2,.cells Va.z.enc.toArray 40 (0,0))],R]) rfl ?_;refine ck (BN hs hq hl) ?_;rintro _ _ ⟨rfl,rfl⟩;simp only[can];repeat' first|(refine I.st ?_;refine WX.Yc (vs:=[.int .i64 c.le.nd,.int .i64 c.le.sn]) (b:=b3) (i:=11) (cs:=Kf c.enc Va.z.enc 11) rfl rfl rfl rfl rfl rfl ?_;refine WX.nil ?_)|refine om ?_|fail
  refine D.hp (H':=[Wm o v p',h,[(b3,.cells c.enc.toArray 40 (0,0))],[(b2,.cells c.enc.toArray 40 (0,0))],R]) rfl ?_;exact D.Dc [Wm o v p',h] _ rfl (.Ua rfl rfl .nil) ⟨rfl,rfl⟩
def oT(o:Nat)(e:ya):List (It×Value):=(Bx o).zip e.enc
def qW{v:Value}(hs:Rs B v h){p:Nat}{e:ya}(hrd:Rd B p (oT k0 e) p')(hl:B.length<=1099511627776){o:Nat}:
  Ct prog 260 [.pointer (some ⟨o,0,none⟩)] [Wm o v p,h] (Zp o v h p' (.agg e.enc.toArray)):=by
 have hzl:ya.z.enc.length=e.enc.length:=rfl;obtain⟨b0,r0,e0,-,d0,b1,r1,e1,-,d1,b2,r2,e2,-,d2,b3,r3,e3,-,d3,b4,r4,e4,-,d4,b5,r5,e5,-,d5,hrd⟩:=hrd;obtain⟨b6,r6,e6,g6,d6,b7,r7,e7,g7,d7,b8,r8,e8,-,d8,hrd⟩:=hrd;generalize o6:p+b0.length+b1.length+b2.length+b3.length+b4.length+b5.length+b6.length+b7.length+b8.length=q9 at hrd;have hrd:Rd B q9 (Jo (k0+9) e.dp++[(.num (k0+18),.int .i64 e.cl),(.num (k0+19),.int .i64 e.op)]) p':=hrd;obtain⟨m9,uG,wQ,r18,E3,-,d18,XZ,r19,e19,-,d19,rfl⟩:=hrd.split;refine ce func260 λg R=>?_;repeat' first|refine rn ?_|refine al λ_=>?_
 rename_i b2 b3;refine WX.hp (H':=[[(b3,.cells (Kf e.enc ya.z.enc 0).toArray 49 (0,0))],[(b2,.cells ya.z.enc.toArray 49 (0,0))],Wm o v p,h,R]) rfl ?_;refine ck (Ee hs e0 d0 hl) ?_;rintro _ _ ⟨rfl,rfl⟩;refine rn ?_;refine ck (Ee hs e1 d1 hl) ?_;rintro _ _ ⟨rfl,rfl⟩;refine rn ?_;refine ck (Ee hs e2 d2 hl) ?_;rintro _ _ ⟨rfl,rfl⟩;refine rn ?_;refine ck (Ee hs e3 d3 hl) ?_;rintro _ _ ⟨rfl,rfl⟩;refine rn ?_;refine ck (Ee hs e4 d4 hl) ?_;rintro _ _ ⟨rfl,rfl⟩;refine rn ?_;refine ck (Ee hs e5 d5 hl) ?_;rintro _ _ ⟨rfl,rfl⟩;refine rn ?_;refine ck (EJ hs (most:=16) (by decide) e6 g6 d6 hl) ?_;rintro _ _ ⟨rfl,rfl⟩;refine rn ?_;refine ck (EJ hs (most:=32) (by decide) e7 g7 d7 hl) ?_;rintro _ _ ⟨rfl,rfl⟩;refine rn ?_;refine ck (DJ hs e8 d8 hl) ?_;rintro _ _ ⟨rfl,rfl⟩;refine rn ?_;rw[o6];refine WX.hp (H':=[Wm o v q9,h,[(b3,.cells (Kf e.enc ya.z.enc 9).toArray 49 (0,0))],[(b2,.cells ya.z.enc.toArray 49 (0,0))],R]) rfl ?_;refine ck (oW hs uG hl) ?_;rintro _ _ ⟨rfl,rfl⟩;simp only[can];repeat' first|refine WX.Yc (vs:=e.dp.enc) (b:=b3) (i:=9) (cs:=Kf e.enc ya.z.enc 9) rfl rfl rfl rfl rfl rfl ?_|refine om ?_|fail
 refine WX.hp (H':=[Wm o v m9,h,[(b3,.cells (Kf e.enc ya.z.enc 18).toArray 49 (0,0))],[(b2,.cells ya.z.enc.toArray 49 (0,0))],R]) rfl ?_;refine ck (Ee hs E3 d18 hl) ?_;rintro _ _ ⟨rfl,rfl⟩;refine rn ?_;refine ck (Ee hs e19 d19 hl) ?_;rintro _ _ ⟨rfl,rfl⟩;refine rn ?_;refine D.hp (H':=[Wm o v (m9+wQ.length+XZ.length),h,[(b3,.cells e.enc.toArray 49 (0,0))],[(b2,.cells e.enc.toArray 49 (0,0))],R]) rfl ?_;exact D.Dc [Wm o v (m9+wQ.length+XZ.length),h] _ rfl (.Ua rfl rfl .nil) ⟨rfl,rfl⟩
def rA(h:B.length<65536):(UInt8.ofNat (B.length/2^8)).toNat*256+(UInt8.ofNat B.length).toNat=B.length:=by
 rw[Ff (by omega),UInt8.toNat_ofNat'];omega
def HJ{xs:List UInt8}(hB:B.length<65536){k:Nat}(hk:k<(frame B).length)(hx:xs=(frame B).take k){v:Value}(hr:Rs xs v h):
  Ct prog 258 [v] [h] (λr H'=>r= .tuple #[.slice none 0 0,.int .i64 0,.int .i64 40]/\H'=[h]):=by
 have Wx:xs.length=k:=by rw[hx,Fe];omega
 rw[Jn] at hk;refine ce func258 λg R=>?_;simp only[can];by_cases h2:xs.length<2
 .try refine run ?_
  exact D.yg [h] _ rfl (.tmp rfl (.tmp rfl (.tmp rfl .nil))) rfl ⟨rfl,rfl⟩
 .obtain⟨x0,hx0⟩:∃x,xs[(0:Int).toNat]? =some x:=⟨_,oh (by show 0<xs.length;omega)⟩;obtain⟨x1,hx1⟩:∃x,xs[(1:Int).toNat]? =some x:=⟨_,oh (by show 1<xs.length;omega)⟩
  have e0:x0=UInt8.ofNat (B.length/2^8):=by
   have hx0:xs[0]? =some x0:=hx0;rw[hx,List.getElem?_take_of_lt (by omega),CN] at hx0;exact(Option.some.inj hx0).symm
  have e1:x1=UInt8.ofNat B.length:=by
   have hx1:xs[1]? =some x1:=hx1;rw[hx,List.getElem?_take_of_lt (by omega),DN] at hx1;exact(Option.some.inj hx1).symm
  have hn:=rA hB;rw[<-e0,<-e1] at hn;have hb0:=Dh x0;have QH:=Dh x1;try refine run ?_
  refine wq ?_;repeat' first|refine run ?_|refine WX.conv rfl rfl (IntWalk.i64_in _ (by omega)) ?_|refine WX.mul rfl rfl rfl (by omega) ?_
  exact D.yg [h] _ rfl (.tmp rfl (.tmp rfl (.tmp rfl .nil))) rfl ⟨rfl,rfl⟩
def qT{rest xs:List UInt8}(hB:B.length<65536)(hx:xs=frame B++rest){v:Value}(hr:Rs xs v h)(hl:xs.length<=1099511627776):
  Ct prog 258 [v] [h] (λr H'=>∃u,r= .tuple #[u,.int .i64 ((B.length+6:Nat):Int),.int .i64 0]/\H'=[h]/\Rs B u h):=by
 have Wx:xs.length=B.length+6+rest.length:=by rw[hx,Cb,Jn]
 obtain⟨p,c,rfl⟩:=hr.len;have hcap:xs.length<=c:=by obtain⟨a,cc,e,le,_⟩:=id hr;cases e;exact le
 have x0h:xs[(0:Int).toNat]? =some (UInt8.ofNat (B.length/2^8)):=by rw[hx];rfl
 have x1h:xs[(1:Int).toNat]? =some (UInt8.ofNat B.length):=by rw[hx];rfl
 have hn:=rA hB;have hb0:=Dh (UInt8.ofNat (B.length/2^8));have QH:=Dh (UInt8.ofNat B.length)
 have ZY:Rs B (Oi (.slice p xs.length c) 1 2 (B.length+2) c) h:=by
  have:=hr.cut (m:=1) (lo:=2) (hi:=B.length+2) (mx:=c) rfl (by omega) (by omega) (by omega);rw[hx] at this;rw[EN] at this;rw[<-hx] at this;exact this
 have hrS:Rs (Gn (tg B)) (Oi (.slice p xs.length c) 1 (B.length+2) (B.length+6) c) h:=by
  have:=hr.cut (m:=1) (lo:=B.length+2) (hi:=B.length+6) (mx:=c) rfl (by omega) (by omega) (by omega);rw[hx] at this;rw[FN] at this;rw[<-hx] at this;exact this
 obtain⟨q1,q2,q3,hq⟩:∃q1 q2 q3,Oi (.slice p xs.length c) 1 2 (B.length+2) c= .slice q1 q2 q3:=⟨_,_,_,rfl⟩;rw[hq] at ZY;have mh:=wN B;have s0:(Gn (tg B))[(0:Int).toNat]? =some (UInt8.ofNat (tg B/2^24)):=rfl;have s1:(Gn (tg B))[(1:Int).toNat]? =some (UInt8.ofNat (tg B/2^16)):=rfl;have s2:(Gn (tg B))[(2:Int).toNat]? =some (UInt8.ofNat (tg B/2^8)):=rfl;have s3:(Gn (tg B))[(3:Int).toNat]? =some (UInt8.ofNat (tg B)):=rfl;refine cr func258 λg R=>?_;refine wq ?_;repeat' first|refine run ?_|refine WX.conv rfl rfl (IntWalk.i64_in _ (by omega)) ?_|refine WX.mul rfl rfl rfl (by omega) ?_
 refine WX.as 28 (.int .i64 ((B.length+2:Nat):Int)) rfl (by congr 1;omega) ?_;refine WX.nJ (lo:=2) (hi:=B.length+2) rfl rfl rfl (by omega) (by omega) rfl ?_;rw[hq];refine cq (zJ ZY (by omega)) ?_;try refine run ?_
 refine WX.as 33 (.int .i64 ((B.length+2:Nat):Int)) rfl (by congr 1;omega) ?_;refine WX.as 35 (.int .i64 ((B.length+6:Nat):Int)) rfl (by congr 1;omega) ?_;refine WX.nJ (lo:=B.length+2) (hi:=B.length+6) rfl rfl rfl (by omega) (by omega) rfl ?_;repeat' first|refine run ?_|refine WX.Fo (m:=24) rfl rfl (by decide) rfl ?_|refine WX.Fo (m:=16) rfl rfl (by decide) rfl ?_|refine WX.Fo (m:=8) rfl rfl (by decide) rfl ?_|(refine WX.aG rfl rfl ?_;rw[vf])
 refine WX.as 72 (.int .i64 ((B.length+2:Nat):Int)) rfl (by congr 1;omega) ?_;refine WX.nJ (lo:=2) (hi:=B.length+2) rfl rfl rfl (by omega) (by omega) rfl ?_;rw[hq];try refine run ?_
 refine D.as 3 (.int .i64 ((B.length+6:Nat):Int)) rfl (by congr 1;omega) ?_;exact D.yg [h] _ rfl (.tmp rfl (.tmp rfl (.tmp rfl .nil))) rfl ⟨_,rfl,rfl,ZY⟩
variable{xs:List UInt8}{r:Rec}
def aZ(vs:List Value)(it:It):It×Value:=(it,(vs[it.o]?).getD (.bool false))
def gJ{vs:List Value}:∀{Uc:List It} {pre B:List UInt8},(∀it∈Uc,∃u e,vs[it.o]? =some u/\encI it u=some e/\Gj it u=false)->B=pre++(sj vs Uc++rest)->Rd B pre.length (Uc.map (aZ vs)) (pre.length+(sj vs Uc).length):=by
 intro Uc
 induction Uc with
 |nil=>intro pre B _ _;rfl
 |cons it t ih=>
  intro pre B h hB;obtain⟨u,e,h1,h2,h3⟩:=h it (zf ..)
  have he:sj vs (it::t)=e++sj vs t:=by
   unfold sj;rw[map_cons,flatten_cons,h1];simp[h2]
  rw[he] at hB⊢;have hv:aZ vs it=(it,u):=by unfold aZ;rw[h1];rfl
  rw[map_cons,hv];refine⟨e,sj vs t++rest,h2,h3,by rw[hB,drop_left,Oc],?_⟩;have:=ih (pre:=pre++e) (B:=B) (λx hx=>h x (Rn _ hx)) (by rw[hB];simp);rw[Cb] at this;rw[Cb,<-Nat.add_assoc];exact this
def Rec.Good.rd(gd:r.Good):Rd r.body 0 ((Rec.Uc r.k).map (aZ r.enc)) r.body.length:=by
 have:=gJ (vs:=r.enc) (rest:=[]) (Uc:=Rec.Uc r.k) (pre:=[]) (B:=r.body) (λit hit=>by
  obtain⟨u,e,h1,_,h2,h3⟩:=gd.Uc it hit;exact⟨u,e,h1,h2,h3⟩) (by rw[nil_append,append_nil];rfl)
 simp only[jd,Nat.zero_add] at this;exact this
def w4(e:ya)(c:Va)(b:Int):(Rec.Uc 1).map (aZ (Rec.enc ⟨1,e,c,b⟩))=(.num 0,.int .i64 1)::oT 1 e:=by kernel_rfl
def x4(e:ya)(c:Va)(b:Int):(Rec.Uc 2).map (aZ (Rec.enc ⟨2,e,c,b⟩))=(.num 0,.int .i64 2)::(Vv 21 c++[(.num 34,.int .i64 b)]):=by kernel_rfl
def A4(e:ya)(c:Va)(b:Int):(Rec.Uc 3).map (aZ (Rec.enc ⟨3,e,c,b⟩))=[(.num 0,.int .i64 3)]:=by kernel_rfl
def rT(gd:r.Good)(hx:xs=r.fr++rest){v:Value}(hr:Rs xs v h)(hl:xs.length<=1099511627776):
  Ct prog 211 [v] [h] (λres H'=>res= .tuple #[.agg r.enc.toArray,.int .i64 (r.fr.length:Int),.int .i64 0]/\H'=[h]):=by
 have hfl:=gd.eM;have hle:=gd.yh;have Wx:xs.length=r.fr.length+rest.length:=by rw[hx,length_append]
 have hB:=gd.len;have hrd:=gd.rd;have hkn:=gd.known;have sF:=gd.bare;rw[gd.fr] at hx;have N0:r.body.length<=1099511627776:=by omega
 generalize r.body=B at*;generalize r.fr.length=F at*;obtain⟨k,e,c,bs⟩:=r;refine ce func211 λg R=>?_;repeat' first|refine rn ?_|refine al λ_=>?_
 refine ck (qT (B:=B) (by omega) hx hr hl) ?_;rintro _ _ ⟨u,rfl,rfl,hu⟩;simp only[can];obtain⟨q1,c1,rfl⟩:=hu.len;repeat' first|refine run ?_|refine bx rfl λ_=>?_|refine al λ_=>?_
 rename_i b2 i bk;refine WX.hp (H':=[[(bk,.cells Rec.z.enc.toArray 140 (0,0))],Wm i (.slice q1 B.length c1) 0,h,[(b2,.cells Rec.z.enc.toArray 140 (0,0))],R]) rfl ?_;have jW:k=1\/k=2\/k=3:=of_decide_eq_true hkn;rcases jW with rfl|rfl|rfl
 .rw[w4] at hrd;obtain⟨b0,r0,e0,-,d0,hrd⟩:=hrd;have sF:Rec.mk 1 e Va.z 0=⟨1,e,c,bs⟩:=sF;simp only[Rec.mk.injEq,true_and] at sF;obtain⟨rfl,rfl⟩:=sF;refine ck (Ee hu e0 d0 N0) ?_;rintro _ _ ⟨rfl,rfl⟩;simp only[can];repeat' first|refine WX.store (v:= .int .i64 1) (b:=bk) (i:=0) (cs:=Rec.z.enc) rfl rfl rfl rfl ?_|refine om ?_|fail
  refine WX.hp (H':=[Wm i (.slice q1 B.length c1) (0+b0.length),h,[(bk,.cells (Rec.enc ⟨1,ya.z,Va.z,0⟩).toArray 140 (0,0))],[(b2,.cells Rec.z.enc.toArray 140 (0,0))],R]) rfl ?_;refine ck (qW hu hrd N0) ?_;rintro _ _ ⟨rfl,rfl⟩;simp only[can];repeat' first|refine WX.Fa (b:=bk) (i:=0) (cs:=Rec.enc ⟨1,e,Va.z,0⟩) (vs:=Rec.enc ⟨1,e,Va.z,0⟩) rfl rfl rfl rfl ?_|(refine I.st ?_;refine WX.Yc (vs:=e.enc) (b:=bk) (i:=1) (cs:=Rec.enc ⟨1,ya.z,Va.z,0⟩) rfl rfl rfl (ya.Xo _) (ya.one _) rfl ?_;rw[Rec.Lw])|refine om ?_|fail
  exact D.yg [h] _ rfl (.Ua rfl rfl (.tmp rfl (.tmp rfl .nil))) rfl ⟨by rw[hfl],rfl⟩
 .rw[x4] at hrd;obtain⟨b0,r0,e0,-,d0,hrd⟩:=hrd;obtain⟨q,hrc,b3,r3,e3,-,d3,hq⟩:=hrd.split;have sF:Rec.mk 2 ya.z c bs=⟨2,e,c,bs⟩:=sF;simp only[Rec.mk.injEq,true_and,and_true] at sF;obtain rfl:=sF;refine ck (Ee hu e0 d0 N0) ?_;rintro _ _ ⟨rfl,rfl⟩;simp only[can];repeat' first|refine WX.store (v:= .int .i64 2) (b:=bk) (i:=0) (cs:=Rec.z.enc) rfl rfl rfl rfl ?_|refine om ?_|fail
  refine WX.hp (H':=[Wm i (.slice q1 B.length c1) (0+b0.length),h,[(bk,.cells (Rec.enc ⟨2,ya.z,Va.z,0⟩).toArray 140 (0,0))],[(b2,.cells Rec.z.enc.toArray 140 (0,0))],R]) rfl ?_;refine ck (pW hu hrc N0) ?_;rintro _ _ ⟨rfl,rfl⟩;simp only[can];repeat' first|(refine I.st ?_;refine WX.Yc (vs:=c.enc) (b:=bk) (i:=21) (cs:=Rec.enc ⟨2,ya.z,Va.z,0⟩) rfl rfl rfl (Va.BJ _) (Va.one _) rfl ?_;rw[Rec.tJ])|refine om ?_|fail
  refine ck (Ee hu e3 d3 N0) ?_;rintro _ _ ⟨rfl,rfl⟩;have hq:q+b3.length=B.length:=hq;rw[hq];simp only[can];repeat' first|refine WX.Fa (b:=bk) (i:=0) (cs:=Rec.enc ⟨2,ya.z,c,bs⟩) (vs:=Rec.enc ⟨2,ya.z,c,bs⟩) rfl rfl rfl rfl ?_|(refine I.st ?_;refine WX.store (v:= .int .i64 bs) (b:=bk) (i:=34) (cs:=Rec.enc ⟨2,ya.z,c,0⟩) rfl rfl rfl rfl ?_;rw[Rec.jT])|refine om ?_|fail
  exact D.yg [h] _ rfl (.Ua rfl rfl (.tmp rfl (.tmp rfl .nil))) rfl ⟨by rw[hfl],rfl⟩
 .rw[A4] at hrd;obtain⟨b0,r0,e0,-,d0,hq⟩:=hrd;have hq:0+b0.length=B.length:=hq;have sF:Rec.mk 3 ya.z Va.z 0=⟨3,e,c,bs⟩:=sF;simp only[Rec.mk.injEq,true_and] at sF;obtain⟨rfl,rfl,rfl⟩:=sF;refine ck (Ee hu e0 d0 N0) ?_;rintro _ _ ⟨rfl,rfl⟩;rw[hq];simp only[can];repeat' first|refine WX.Fa (b:=bk) (i:=0) (cs:=Rec.enc ⟨3,ya.z,Va.z,0⟩) (vs:=Rec.enc ⟨3,ya.z,Va.z,0⟩) rfl rfl rfl rfl ?_|(refine I.st ?_;refine WX.store (v:= .int .i64 3) (b:=bk) (i:=0) (cs:=Rec.z.enc) rfl rfl rfl rfl ?_;refine WX.hp (H':=[Wm i (.slice q1 B.length c1) B.length,h,[(bk,.cells (Rec.enc ⟨3,ya.z,Va.z,0⟩).toArray 140 (0,0))],[(b2,.cells Rec.z.enc.toArray 140 (0,0))],R]) rfl ?_)|refine om ?_|fail
  exact D.yg [h] _ rfl (.Ua rfl rfl (.tmp rfl (.tmp rfl .nil))) rfl ⟨by rw[hfl],rfl⟩
def IJ(gd:r.Good){k:Nat}(hk:k<r.fr.length)(h0:0<k)(hx:xs=r.fr.take k){v:Value}(hr:Rs xs v h):
  Ct prog 211 [v] [h] (λres H'=>res= .tuple #[.agg Rec.z.enc.toArray,.int .i64 0,.int .i64 40]/\H'=[h]):=by
 have hB:=gd.len;have Wx:xs.length=k:=by rw[hx,Fe];omega
 rw[gd.fr] at hx hk;refine ce func211 λg R=>?_;repeat' first|refine rn ?_|refine al λ_=>?_
 refine ck (HJ (B:=r.body) (by omega) hk hx hr) ?_;rintro _ _ ⟨rfl,rfl⟩;refine rn ?_;exact D.yg [h] _ rfl (.Ua rfl rfl (.tmp rfl (.tmp rfl .nil))) rfl ⟨rfl,rfl⟩
end Go.Proofs.YthebagfahkebiaaGreat
