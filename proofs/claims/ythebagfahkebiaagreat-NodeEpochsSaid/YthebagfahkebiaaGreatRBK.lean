/- Texts of one road. -/
import Derived.Test.YthebagfahkebiaaGreatRBJ
set_option linter.all false
set_option maxHeartbeats 8000000
set_option maxRecDepth 20000
namespace Go.Proofs.YthebagfahkebiaaGreat
open Go Go.Sl Go.Proofs.Tryz List
variable{n:ua}{N:Int}
def gf.quiet(h:gf n N):n.Qa=n/\n.eg n.c.du n.c.st n.c.ak=[]:=by
 have h1:(n.ws.filter λw=>decide (w.ix<=n.c.st))=[]:=filter_eq_nil_iff.2 λw hw=>by have:=h.wt w hw;simp only[decide_eq_true_eq];omega
 have h2:(n.ws.filter λw=> !decide (w.ix<=n.c.st))=n.ws:=filter_eq_self.2 λw hw=>by have:=h.wt w hw;simp only[Bool.not_eq_true',decide_eq_false_iff_not];omega
 constructor
 .show({n with ws:=_}:ua)=n;rw[h2]
 .unfold ua.eg;rw[h1,if_neg (by omega),if_neg (by omega)];rfl
def gf.alone(h:gf n N)(hu:n.s.jb=true){m:Da}{ms:List Da}(h0:n.Ka m=((n,ms),false)):n.handle m=(n,ms):=by
 obtain⟨h1,h2⟩:=h.quiet;unfold ua.handle;rw[if_neg (by rw[hu];decide)];simp only[];rw[h0];simp only[];rw[h1,h2];simp
end Go.Proofs.YthebagfahkebiaaGreat
namespace Go.Sl
open Go List
def xN(md:Region.Mode):List Nat->List Oper->List Nat->Bool
 |acc,o::os,a::nC=>(yN md acc o==a) && xN md (acc++[a]) os nC
 |_,[],[]=>true
 |_,_,_=>false
def yJ{md:Region.Mode}:∀(os:List Oper) (acc nC:List Nat),xN md acc os nC=true->os.foldl (λacc o=>acc++[yN md acc o]) acc=acc++nC
 |[],acc,[],_=>by simp
 |o::os,acc,a::nC,h=>by
  simp only[xN,Bool.and_eq_true,beq_iff_eq] at h
  rw[foldl_cons,h.1,yJ os _ nC h.2];simp
 |[],_,_::_,h=>by cases h
 |_::_,_,[],h=>by cases h
def y3(md:Region.Mode)(ops:List Oper):Bool:=
 (List.range ops.length).all λk=>match ops[k]? with
  |none=>false
  |some o=>(o.after.all λe=> !Region.binds md e||decide (e.on<k)) && (ops.drop (k+1)).all λoj=>(oj.after.any λe=>Region.binds md e && e.on==k)||o.apart ops.toArray oj
def zN{md:Region.Mode}{ops:List Oper}(h:y3 md ops=true):∀(f k:Nat) (listed:Array Bool),k+f=ops.length->listed.size=ops.length->(∀i,i<ops.length->listed[i]? =some (decide (i<k)))->Region.lexHead md ops.toArray 0 f k listed=true
 |0,k,listed,hk,hs,hl=>by
  unfold Region.lexHead Region.seqB Region.ready;rw[isEmpty_iff,filter_eq_nil_iff];intro i hi;have hi:i<ops.length:=by simpa using hi
  have:=hl i hi;simp only[Array.getD_eq_getD_getElem?,this,Option.getD_some,Mi (show i<k by omega)]
  simp
 |f+1,k,listed,hk,hs,hl=>by
  have Zt:k<ops.length:=by omega
  have hq:=all_eq_true.1 h k (mem_range.2 Zt);have ho:ops[k]? =some ops[k]:=Wg Zt;rw[ho] at hq;simp only[Bool.and_eq_true] at hq;obtain⟨q1,q2⟩:=hq;have ho':ops.toArray[k]? =some ops[k]:=by simp[Zt]
  unfold Region.lexHead;rw[Bool.and_eq_true,Bool.and_eq_true];refine⟨⟨?_,?_⟩,zN h f (k+1) _ (by omega) (by simp[hs]) λi hi=>?_⟩
  .rw[contains_iff_mem];unfold Region.ready;rw[mem_filter];refine⟨mem_range.2 (by simpa using Zt),?_⟩;rw[ho'];simp only[Array.getD_eq_getD_getElem?,hl k Zt,Option.getD_some,Option.map_some,rj (Nat.lt_irrefl k),Bool.not_false,Bool.true_and];rw[Array.all_eq_true'] at q1⊢;intro e he;have:=q1 e he;rw[Bool.or_eq_true] at this⊢;refine this.imp id λh=>?_;have h:=of_decide_eq_true h;rw[hl e.on (by omega),Option.getD_some,Mi h]
  .unfold Region.free;rw[ho'];refine all_eq_true.2 λj hj=>?_;have hj:j<ops.length:=by simpa using hj
   rcases Nat.lt_trichotomy j k with c|c|c
   .simp[Array.getD_eq_getD_getElem?,hl j hj,c]
   .simp[c]
   .have:=all_eq_true.1 q2 ops[j] (mem_of_getElem? (i:=j - (k+1)) (by rw[List.getElem?_drop,show k+1+(j - (k+1))=j by omega];exact Wg hj));have hj':ops.toArray[j]? =some ops[j]:=by simp[hj]
    rw[hj'];simp only[this,Bool.or_true]
  .rw[Array.getElem?_setIfInBounds];by_cases c:k=i
   .subst c;simp[hs,Zt]
   .rw[if_neg c,hl i hi];congr 1;exact decide_eq_decide.2 (by omega)
def CY(md:Region.Mode)(ops:List Oper)(ms:List Bool)(nC:List Nat):Bool:=
 Region.noSelect ops.toArray && decide (ms.length=ops.length) && ((List.range ms.length).all λj=>ms.getD j true||(List.range j).all λi=>ms.getD i true||(nC.getD j 0).testBit i) && y3 md ops
def YV{md:Region.Mode}{ops:List Oper}{ms:List Bool}{nC:List Nat}(h:CY md ops ms nC=true):Go.Sl.Ac md ops ms nC=true:=by
 simp only[CY,Bool.and_eq_true,decide_eq_true_eq] at h;obtain⟨⟨⟨h1,h2⟩,h3⟩,h4⟩:=h;simp only[Go.Sl.Ac,Bool.and_eq_true,decide_eq_true_eq];refine⟨⟨⟨⟨h1,by omega⟩,h3⟩,?_⟩,?_⟩
 .exact all_eq_true.2 λt ht=>by rw[Mi (show t<ms.length by have:=mem_range.1 ht;omega)];rfl
 .rw[h2,Nat.sub_self];exact zN h4 _ _ _ (Nat.zero_add _) (by simp) λi hi=>by simp[hi]
def W.m8{g:World}{P:Program}{Q:Exit->Act->World->Prop}{n:Nat}{L:Fm}{H:HH}{id:Nat}{l:List Oper}(ms:List Bool)(nC:List Nat)(Hc:HH){r:HH}[k:Oc Hc H r](hm:P.follows .mixedOrders=true)(hA:xN .any [] l nC=true)(hB:CY .any l ms nC=true)(h:WM g P l.toArray Q n Hc (l.drop ms.length) (ms.zip l) L H):
  W g P (.region id l.toArray true) Q n L H:=
 W.Ac ms Hc hm (by rw[show pO .any l=nC from(yJ l [] nC hA).trans (nil_append _)];exact YV hB) h
end Go.Sl
namespace Go.Proofs.YthebagfahkebiaaGreat
open Go Go.Sl Go.Proofs.Tryz List
section
variable{n:ua}{N:Int}(ok:gf n N)
include ok
theorem xu(hu:n.s.jb=true){b bd:Nat}{h hd:Hp}{T:Int}(hm:vf n b h)(Fp:Cg n bd T hd):Ct prog 47 [b,bd] [h,hd] (λr H'=>r= .bool true/\H'=[]):=by
 obtain⟨lb,hb,sb,vw,hl,hw,v0,hh,rfl,at_⟩:=hm;obtain⟨cb,d,w,u,hv,X,rfl,Ue⟩:=ua.Qv at_.lg;obtain⟨pw,cw,hpw⟩:=at_.ws.len;obtain⟨vo,gb,dy,NU,Qw,ny,Qr,v2,Er,rfl,O2⟩:=Fp;obtain⟨tP,d2,w2,tn,u2,NM,X2,rfl,wI⟩:=ua.HI O2.lg;obtain⟨C6,D6,rfl⟩:=O2.ws.len;obtain⟨n8,o8,rfl⟩:=O2.hd.len;have tg:=ok.xb.len;have k1:=Xv n lb cb d w;have k2:=Hs n b lb hb sb vw;have k3:=Rv n b lb hb sb vw at_.hd.rs;have k4:=Is n b lb hb sb (p:=pw) (c:=cw);rw[<-hpw] at k4;have k5:=uP n b lb hb sb vw;have k6:=eo n.c cb u;have k7:=Bm n.c cb u;have k8:=Gg n.c cb u;have k9:=Yv n.c cb u;have k10:=aA n.c cb u;have x8:=UG n b lb hb sb vw;have y8:=λx=>lH NU n.dc x n.rc;have k13:=Fq n.c cb Ue.rs (by omega);have A8:=λ{u:Value} {h:Hp} (hu:Rs n.c.lg u h)=>Tz hu wI.rs (by omega);have z9:Ab [.i,.i,.i,.i,.i,.i,.i,.i,.i] n.kn.enc n.kn.enc=some true:=Ep rfl;have z3:Ab [.i,.i,.i] n.mr.enc n.mr.enc=some true:=Ep rfl;have zc:Ab GV (jc n.c.co).enc (jc n.c.co).enc=some true:=Ep rfl;refine ce func47 λg R=>?_;simp only[can];refine W.f0 [za b n lb hb sb vw,Pa n lb cb d w,ja cb n.c u,hv,X,hw,Fa hb n.rg v0,hh,Ja sb n.dc n.rc,Ca bd n gb dy NU (.slice C6 n.ws.length D6) vo,vb n gb tP d2 w2 tn,ta tP n.c u2,NM,X2,Qr,Oa dy n.rg (.slice n8 n.hd.length o8),Er,Ta NU n.dc n.rc,R] ?_;repeat' first|refine ga ?_|refine gS (λ_=>?_) λ_=>?_|refine Uc λ_=>?_|refine al λ_=>?_
 refine W.m8 [true,true,true,true,false,true,true,true,true,true,true,true,true,true,true,false,true,true,true,true,true,true,true,true,false,true,true,true,true,true,true,true,true,true,true,true,true,false,true,true,true,true,true,true,true,true,true,false,true,true,true,true,true,true,true,true,true,true,true,true,true,true,false,true,true,true,true,true,true,true,true,true,true,true,true,true,true,false,true,true,true,true,true,true,true,true,true,true,true,true,true,true,false,true,true,true,true,true,true,true,true,true,true,true,true,true,true,false,true,true,true,true,true,true,true,true,true,true,true,true,true,true,false,true,true,true,true,true,true] [0,1,3,7,15,0,32,96,224,480,992,2016,4095,8191,16383,32767,16383,81919,212991,475135,1048575,2097151,4194303,8388607,16777215,8388607,41943039,109051903,243269631,511705087,1048575999,2122317823,4269801471,8589934591,17179869183,34359738367,68719476735,137438953471,68719476735,343597383679,893353197567,1992864825343,4191888080895,8796093022207,17592186044415,35184372088831,70368744177663,140737488355327,70368744177663,351843720888319,914793674309631,2040693581152255,4503599627370495,9007199254740991,18014398509481983,36028797018963967,72057594037927935,144115188075855871,288230376151711743,576460752303423487,1152921504606846975,2305843009213693951,4611686018427387903,36028797018963967,9259400833873739775,27706144907583291391,64599633055002394623,147573952589676412927,295147905179352825855,590295810358705651711,1180591620717411303423,2361183241434822606847,4722366482869645213695,9444732965739290427391,18889465931478580854783,37778931862957161709567,75557863725914323419135,151115727451828646838271,1180591620717411303423,303412046524374704979967,907874956331689292333055,2116800775946318467039231,4835703278458516698824703,9671406556917033397649407,19342813113834066795298815,38685626227668133590597631,77371252455336267181195263,154742504910672534362390527,309485009821345068724781055,618970019642690137449562111,1237940039285380274899124223,2475880078570760549798248447,4951760157141521099596496895,38685626227668133590597631,9942205940510710332783591423,29749246569076794731169579007,69363327826208963527941554175,158456325028528675187087900671,316912650057057350374175801343,633825300114114700748351602687,1267650600228229401496703205375,2535301200456458802993406410751,5070602400912917605986812821503,10141204801825835211973625643007,20282409603651670423947251286015,40564819207303340847894502572031,81129638414606681695789005144063,162259276829213363391578010288127,1267650600228229401496703205375,325786204258654956184652723781631,974823311575508409750964764934143,2272897526209215316883588847239167,5192296858534827628530496329220095,10384593717069655257060992658440191,20769187434139310514121985316880383,41538374868278621028243970633760767,83076749736557242056487941267521535,166153499473114484112975882535043071,332306998946228968225951765070086143,664613997892457936451903530140172287,1329227995784915872903807060280344575,2658455991569831745807614120560689151,5316911983139663491615228241121378303,41538374868278621028243970633760767,10675362341147605604258700452876517375,31943010273706259570719613417362030591,74478306138823567503641439346333057023,170141183460469231731687303715884105727,340282366920938463463374607431768211455] [za b n lb hb sb vw,Pa n lb cb d w,Ca bd n gb dy NU (.slice C6 n.ws.length D6) vo,vb n gb tP d2 w2 tn,ta tP n.c u2,Oa dy n.rg (.slice n8 n.hd.length o8)] Tryz.mix (by kernel_rfl) (by kernel_rfl) ?_;repeat' first|refine ga ?_|refine gS (λ_=>?_) λ_=>?_|refine Uc λ_=>?_|refine al λ_=>?_|refine cq k1 ?_|refine cq k2 ?_|refine cq k3 ?_|refine cq k4 ?_|refine cq k5 ?_|refine cq k6 ?_|refine cq k7 ?_|refine cq k8 ?_|refine cq k9 ?_|refine cq k10 ?_|refine WX.Ea (b:=bd) (vs:=n.kn.enc) rfl rfl rfl rfl ?_|refine WX.Ea (b:=bd) (vs:=n.mr.enc) rfl rfl rfl rfl ?_|refine WX.Ea (b:=tP) (vs:=(jc n.c.co).enc) rfl rfl rfl rfl ?_|refine WX.A3 rfl rfl rfl ?_|refine WX.aj rfl rfl z9 rfl ?_|refine WX.aj rfl rfl z3 rfl ?_|refine WX.aj rfl rfl zc rfl ?_
 refine W.lo (α:=Int) (λx=> -1<=x/\x<=4) (λx=>[(0,b),(1,bd),(5,tP),(6,x)]) (λ_=>[za b n lb hb sb vw,Pa n lb cb d w,ja cb n.c u,hv,X,hw,Fa hb n.rg v0,hh,Ja sb n.dc n.rc,Ca bd n gb dy NU (.slice C6 n.ws.length D6) vo,vb n gb tP d2 w2 tn,ta tP n.c u2,NM,X2,Qr,Oa dy n.rg (.slice n8 n.hd.length o8),Er,Ta NU n.dc n.rc,R])
  (λx=>(4 - x).toNat) (-1) ⟨by decide,by decide⟩ ?_
 rintro x ⟨hx1,hx2⟩;try simp only[] at hx1 hx2⊢
 by_cases hlt:x<=3
 .have x8:=x8 x;have y8:=y8 x;repeat' first|refine ga ?_|refine gS (λ_=>?_) λ_=>?_|refine Uc λ_=>?_|refine al λ_=>?_
  refine Wp (ml [2,1,5,1,1]) [Ca bd n gb dy NU (.slice C6 n.ws.length D6) vo] ?_;repeat' first|refine ga ?_|refine gS (λ_=>?_) λ_=>?_|refine Uc λ_=>?_|refine al λ_=>?_|refine cq x8 ?_|refine cq y8 ?_
  exact D.rd (x+1) ⟨by omega,by omega⟩ (by omega)
 .obtain rfl:x=4:=by omega
  repeat' first|refine ga ?_|refine gS (λ_=>?_) λ_=>?_|refine Uc λ_=>?_|refine al λ_=>?_
  refine Wp (ml [7,1,4,1,1]) [za b n lb hb sb vw,Pa n lb cb d w,ta tP n.c u2] ?_;repeat' first|refine ga ?_|refine gS (λ_=>?_) λ_=>?_|refine Uc λ_=>?_|refine al λ_=>?_
  refine ck k13 ?_;rintro _ _ ⟨h5,hs5,rfl⟩;simp only[can];have A8:=A8 hs5.rs;repeat' first|refine ga ?_|refine gS (λ_=>?_) λ_=>?_|refine Uc λ_=>?_|refine al λ_=>?_|refine cq A8 ?_
  exact Wi []
end
section
variable{Ec rn nn cl nd:Int}{bg:List Ir}{v:Value}{hs:Hp}(hx:Rs bg v hs)(hlen:bg.length<=1099511627776)(hz:∀a∈bg,oN a)
include hx hlen hz
theorem ME(m:Da)(BQ:m.key.size<=562949953421312/\m.val.size<=562949953421312/\m.en.key.size<=562949953421312/\m.en.val.size<=562949953421312):Ct prog 9 [.agg (List.toArray [Ec,rn,nn,cl]),nd,v,.agg (List.toArray m.enc)] [hs] (λr H'=>r= .bool true/\H'=[hs]):=by
 refine ce func9 λg R=>?_;repeat' first|refine Za ?_|refine gS (λ_=>?_) λ_=>?_|refine Uc λ_=>?_|refine al λ_=>?_|refine cq ry ?_|refine Pg [Ec,rn,nn,cl] ?_
 rename_i b4 b7;refine ck (tu hx hlen λa ha=>(hz a ha).2) ?_;rintro _ _ ⟨bm,rfl,rfl,W2⟩;simp only[can]
 cases bm with
 |true=>
  repeat' first|refine ga ?_|refine gS (λ_=>?_) λ_=>?_|refine Uc λ_=>?_|refine al λ_=>?_
  exact Wi [hs]
 |false=>
 have hle:=W2 rfl;repeat' first|refine ga ?_|refine gS (λ_=>?_) λ_=>?_|refine Uc λ_=>?_|refine al λ_=>?_|refine Pg m.enc ?_|refine jf (Ir.enc ⟨0,0,m⟩) ?_
 refine Up [(⟨0,0,m⟩:Ir)] (λv4 h4 hs4=>?_);repeat' first|refine ga ?_|refine gS (λ_=>?_) λ_=>?_|refine Uc λ_=>?_|refine al λ_=>?_
 refine ck (tu hs4.rs (by simp only[Ib,td];omega) λa ha=>by rw[mem_singleton.1 ha];exact BQ) ?_;rintro _ _ ⟨Q7,rfl,rfl,-⟩;simp only[can]
 cases Q7 with
 |true=>
  repeat' first|refine ga ?_|refine gS (λ_=>?_) λ_=>?_|refine Uc λ_=>?_|refine al λ_=>?_
  exact Wi [hs]
 |false=>
 have kd:=OV (Ec:=Ec) (rn:=rn) (nn:=nn) (cl:=cl) (nd:=nd) hx hle λa ha=>(hz a ha).1;repeat' first|refine ga ?_|refine gS (λ_=>?_) λ_=>?_|refine Uc λ_=>?_|refine al λ_=>?_|refine cq ry ?_|refine Pg [Ec,rn,nn,cl] ?_
 refine ck kd ?_;rintro r H' (⟨rfl,rfl⟩|⟨n,b,bd,h,hd,rfl,⟨ok,-⟩,q1,q2,q3,q4,hm,Fp,rfl⟩)
 .simp only[ca,na];repeat' first|refine ga ?_|refine gS (λ_=>?_) λ_=>?_|refine Uc λ_=>?_|refine al λ_=>?_
  exact Wi [hs]
 simp only[can];have hm0:=hm;obtain⟨lb,hb,sb,vw,hl,hw,v0,hh,rfl,at_⟩:=hm;obtain⟨cb,d,w,u,hv,X,rfl,Ue⟩:=ua.Qv at_.lg;have Uk:=Xv n lb cb d w;have kf:=RF ok.xb.co cb u;have LK:=jk ok.xb.co cb u;have ke:=Sg n.c cb u;have Ix:n.c.nd=n.nd:=(Ga.ur n.s).1;rw[Ix] at kf;have E6:=kj hm0 ok.toWe (by decide) (by rw[ok.rg];decide) (by rw[ok.dc];decide);repeat' first|refine ga ?_|refine gS (λ_=>?_) λ_=>?_|refine Uc λ_=>?_|refine al λ_=>?_
 refine WX.f0 [za b n lb hb sb vw,Pa n lb cb d w,ja cb n.c u,hv,X,hw,Fa hb n.rg v0,hh,Ja sb n.dc n.rc,hd,hs,h4,Yb b7 m,[(b4,.cells (List.toArray [Ec,rn,nn,cl]) 23 (0,0))],R] ?_
 cases hu:n.s.jb with
 |false=>
  rw[hu] at Uk;repeat' first|refine ga ?_|refine gS (λ_=>?_) λ_=>?_|refine Uc λ_=>?_|refine al λ_=>?_|refine cq Uk ?_
  exact Wi [hs]
 |true=>
 rw[hu] at Uk;by_cases hp:m.kind=3
 .by_cases he:m.ep=(jc n.c.co).ep
  .by_cases KU:n.c.head
   .repeat' first|refine ga ?_|refine gS (λ_=>?_) λ_=>?_|refine Uc λ_=>?_|refine al λ_=>?_|refine cq Uk ?_
    refine Wp (ml [9,1,11,1,12,1,3]) [Yb b7 m,za b n lb hb sb vw,Pa n lb cb d w] ?_;repeat' first|refine ga ?_|refine gS (λ_=>?_) λ_=>?_|refine Uc λ_=>?_|refine al λ_=>?_|refine cq ke ?_|refine cq LK ?_|refine cq kf ?_|refine Pg (Da.enc m) ?_
    exact Wi [hs]
   .have hpt:n.put m=(n,[n.no 4 m 90]):=if_pos (.inr KU);have h0:n.Ka m=((n,[n.no 4 m 90]),false):=(by rw[ua.rL hp,hpt]);have KS:=E6 m;rw[ok.alone hu h0] at KS;repeat' first|refine ga ?_|refine gS (λ_=>?_) λ_=>?_|refine Uc λ_=>?_|refine al λ_=>?_|refine cq Uk ?_
    refine Wp (ml [9,1,11,1,12,1,3]) [Yb b7 m,za b n lb hb sb vw,Pa n lb cb d w] ?_;repeat' first|refine ga ?_|refine gS (λ_=>?_) λ_=>?_|refine Uc λ_=>?_|refine al λ_=>?_|refine cq ke ?_|refine cq LK ?_|refine cq kf ?_|refine Pg (Da.enc m) ?_
    refine WX.f0 [Ti b n lb hb sb vw (Pa n lb cb d w++(ja cb n.c u++(hv++X))) hw v0 hh,hd,hs,h4,Yb b7 m,[(b4,.cells (List.toArray [Ec,rn,nn,cl]) 23 (0,0))],R] ?_;refine ck KS ?_;rintro r1 _ ⟨h1,h2,hs1,xe,rfl⟩;simp only[can];have hs1:ia 52 [n.no 4 m 90] r1 h1:=hs1;have xe:vf n b h2:=xe;obtain⟨p1,c1,rfl⟩:=hs1.len;have Qp:=hs1.rs;have hx0:[n.no 4 m 90][0]? =some (n.no 4 m 90):=rfl;have Jn:Ab I2 (n.no 4 m 90).enc (n.no 4 m 90).enc=some true:=Ep rfl;have DY:=xu ok hu xe Fp;repeat' first|refine ga ?_|refine gS (λ_=>?_) λ_=>?_|refine Uc λ_=>?_|refine al λ_=>?_
    refine Wp (ml [24,1]) [h1,Yb b7 m] ?_;repeat' first|refine ga ?_|refine gS (λ_=>?_) λ_=>?_|refine Uc λ_=>?_|refine al λ_=>?_|refine Vx Qp hx0 ?_|refine lF (us:=(n.no 4 m 90).fr.enc) rfl Qp ?_ (hk:=hx0) (ho:=rfl)|refine bn b7 1 (Da.enc m) m.fr.enc ?_|refine jf (Da.enc (n.no 4 m 90)) ?_|refine WX.aq rfl rfl Jn rfl ?_
    refine ck DY ?_;rintro _ _ ⟨rfl,rfl⟩;repeat' first|refine Za ?_|refine gS (λ_=>?_) λ_=>?_|refine Uc λ_=>?_|refine al λ_=>?_
    exact Wi [hs]
  .have hpt:n.put m=(n,[n.no 4 m 90]):=if_pos (.inl he);have h0:n.Ka m=((n,[n.no 4 m 90]),false):=(by rw[ua.rL hp,hpt]);have KS:=E6 m;rw[ok.alone hu h0] at KS;repeat' first|refine ga ?_|refine gS (λ_=>?_) λ_=>?_|refine Uc λ_=>?_|refine al λ_=>?_|refine cq Uk ?_
   refine Wp (ml [9,1,11,1,12,1,3]) [Yb b7 m,za b n lb hb sb vw,Pa n lb cb d w] ?_;repeat' first|refine ga ?_|refine gS (λ_=>?_) λ_=>?_|refine Uc λ_=>?_|refine al λ_=>?_|refine cq ke ?_|refine cq LK ?_|refine cq kf ?_|refine Pg (Da.enc m) ?_
   refine WX.f0 [Ti b n lb hb sb vw (Pa n lb cb d w++(ja cb n.c u++(hv++X))) hw v0 hh,hd,hs,h4,Yb b7 m,[(b4,.cells (List.toArray [Ec,rn,nn,cl]) 23 (0,0))],R] ?_;refine ck KS ?_;rintro r1 _ ⟨h1,h2,hs1,xe,rfl⟩;simp only[can];have hs1:ia 52 [n.no 4 m 90] r1 h1:=hs1;have xe:vf n b h2:=xe;obtain⟨p1,c1,rfl⟩:=hs1.len;have Qp:=hs1.rs;have hx0:[n.no 4 m 90][0]? =some (n.no 4 m 90):=rfl;have Jn:Ab I2 (n.no 4 m 90).enc (n.no 4 m 90).enc=some true:=Ep rfl;have DY:=xu ok hu xe Fp;repeat' first|refine ga ?_|refine gS (λ_=>?_) λ_=>?_|refine Uc λ_=>?_|refine al λ_=>?_
   refine Wp (ml [24,1]) [h1,Yb b7 m] ?_;repeat' first|refine ga ?_|refine gS (λ_=>?_) λ_=>?_|refine Uc λ_=>?_|refine al λ_=>?_|refine Vx Qp hx0 ?_|refine lF (us:=(n.no 4 m 90).fr.enc) rfl Qp ?_ (hk:=hx0) (ho:=rfl)|refine bn b7 1 (Da.enc m) m.fr.enc ?_|refine jf (Da.enc (n.no 4 m 90)) ?_|refine WX.aq rfl rfl Jn rfl ?_
   refine ck DY ?_;rintro _ _ ⟨rfl,rfl⟩;repeat' first|refine Za ?_|refine gS (λ_=>?_) λ_=>?_|refine Uc λ_=>?_|refine al λ_=>?_
   exact Wi [hs]
 .have hk5:({m with kind:=5}:Da).kind=5:=rfl;by_cases he:m.ep=(jc n.c.co).ep
  .cases hf:sk n.c.co n.nd with
   |true=>
    rw[hf] at kf;repeat' first|refine ga ?_|refine gS (λ_=>?_) λ_=>?_|refine Uc λ_=>?_|refine al λ_=>?_|refine cq Uk ?_|refine ei m.enc (Da.enc {m with kind:=5}) ?_
    refine Wp (ml [9,1,11,1,12,1,3]) [Yb b7 {m with kind:=5},za b n lb hb sb vw,Pa n lb cb d w] ?_;repeat' first|refine ga ?_|refine gS (λ_=>?_) λ_=>?_|refine Uc λ_=>?_|refine al λ_=>?_|refine cq ke ?_|refine cq LK ?_|refine cq kf ?_|refine Pg (Da.enc {m with kind:=5}) ?_
    exact Wi [hs]
   |false=>
    rw[hf] at kf;have hpt:n.get {m with kind:=5}=n.no 6 {m with kind:=5} 90:=if_pos (.inr hf);have h0:n.Ka {m with kind:=5}=((n,[n.no 6 {m with kind:=5} 90]),false):=(by rw[ua.TO hk5,hpt]);have KS:=E6 {m with kind:=5};rw[ok.alone hu h0] at KS;repeat' first|refine ga ?_|refine gS (λ_=>?_) λ_=>?_|refine Uc λ_=>?_|refine al λ_=>?_|refine cq Uk ?_|refine ei m.enc (Da.enc {m with kind:=5}) ?_
    refine Wp (ml [9,1,11,1,12,1,3]) [Yb b7 {m with kind:=5},za b n lb hb sb vw,Pa n lb cb d w] ?_;repeat' first|refine ga ?_|refine gS (λ_=>?_) λ_=>?_|refine Uc λ_=>?_|refine al λ_=>?_|refine cq ke ?_|refine cq LK ?_|refine cq kf ?_|refine Pg (Da.enc {m with kind:=5}) ?_
    refine WX.f0 [Ti b n lb hb sb vw (Pa n lb cb d w++(ja cb n.c u++(hv++X))) hw v0 hh,hd,hs,h4,Yb b7 {m with kind:=5},[(b4,.cells (List.toArray [Ec,rn,nn,cl]) 23 (0,0))],R] ?_;refine ck KS ?_;rintro r1 _ ⟨h1,h2,hs1,xe,rfl⟩;simp only[can];have hs1:ia 52 [n.no 6 {m with kind:=5} 90] r1 h1:=hs1;have xe:vf n b h2:=xe;obtain⟨p1,c1,rfl⟩:=hs1.len;have Qp:=hs1.rs;have hx0:[n.no 6 {m with kind:=5} 90][0]? =some (n.no 6 {m with kind:=5} 90):=rfl;have Jn:Ab I2 (n.no 6 {m with kind:=5} 90).enc (n.no 6 {m with kind:=5} 90).enc=some true:=Ep rfl;have DY:=xu ok hu xe Fp;repeat' first|refine ga ?_|refine gS (λ_=>?_) λ_=>?_|refine Uc λ_=>?_|refine al λ_=>?_
    refine Wp (ml [24,1]) [h1,Yb b7 {m with kind:=5}] ?_;repeat' first|refine ga ?_|refine gS (λ_=>?_) λ_=>?_|refine Uc λ_=>?_|refine al λ_=>?_|refine Vx Qp hx0 ?_|refine lF (us:=(n.no 6 {m with kind:=5} 90).fr.enc) rfl Qp ?_ (hk:=hx0) (ho:=rfl)|refine bn b7 1 (Da.enc {m with kind:=5}) m.fr.enc ?_|refine jf (Da.enc (n.no 6 {m with kind:=5} 90)) ?_|refine WX.aq rfl rfl Jn rfl ?_
    refine ck DY ?_;rintro _ _ ⟨rfl,rfl⟩;repeat' first|refine Za ?_|refine gS (λ_=>?_) λ_=>?_|refine Uc λ_=>?_|refine al λ_=>?_
    exact Wi [hs]
  .have hpt:n.get {m with kind:=5}=n.no 6 {m with kind:=5} 90:=if_pos (.inl he);have h0:n.Ka {m with kind:=5}=((n,[n.no 6 {m with kind:=5} 90]),false):=(by rw[ua.TO hk5,hpt]);have KS:=E6 {m with kind:=5};rw[ok.alone hu h0] at KS;repeat' first|refine ga ?_|refine gS (λ_=>?_) λ_=>?_|refine Uc λ_=>?_|refine al λ_=>?_|refine cq Uk ?_|refine ei m.enc (Da.enc {m with kind:=5}) ?_
   refine Wp (ml [9,1,11,1,12,1,3]) [Yb b7 {m with kind:=5},za b n lb hb sb vw,Pa n lb cb d w] ?_;repeat' first|refine ga ?_|refine gS (λ_=>?_) λ_=>?_|refine Uc λ_=>?_|refine al λ_=>?_|refine cq ke ?_|refine cq LK ?_|refine cq kf ?_|refine Pg (Da.enc {m with kind:=5}) ?_
   refine WX.f0 [Ti b n lb hb sb vw (Pa n lb cb d w++(ja cb n.c u++(hv++X))) hw v0 hh,hd,hs,h4,Yb b7 {m with kind:=5},[(b4,.cells (List.toArray [Ec,rn,nn,cl]) 23 (0,0))],R] ?_;refine ck KS ?_;rintro r1 _ ⟨h1,h2,hs1,xe,rfl⟩;simp only[can];have hs1:ia 52 [n.no 6 {m with kind:=5} 90] r1 h1:=hs1;have xe:vf n b h2:=xe;obtain⟨p1,c1,rfl⟩:=hs1.len;have Qp:=hs1.rs;have hx0:[n.no 6 {m with kind:=5} 90][0]? =some (n.no 6 {m with kind:=5} 90):=rfl;have Jn:Ab I2 (n.no 6 {m with kind:=5} 90).enc (n.no 6 {m with kind:=5} 90).enc=some true:=Ep rfl;have DY:=xu ok hu xe Fp;repeat' first|refine ga ?_|refine gS (λ_=>?_) λ_=>?_|refine Uc λ_=>?_|refine al λ_=>?_
   refine Wp (ml [24,1]) [h1,Yb b7 {m with kind:=5}] ?_;repeat' first|refine ga ?_|refine gS (λ_=>?_) λ_=>?_|refine Uc λ_=>?_|refine al λ_=>?_|refine Vx Qp hx0 ?_|refine lF (us:=(n.no 6 {m with kind:=5} 90).fr.enc) rfl Qp ?_ (hk:=hx0) (ho:=rfl)|refine bn b7 1 (Da.enc {m with kind:=5}) m.fr.enc ?_|refine jf (Da.enc (n.no 6 {m with kind:=5} 90)) ?_|refine WX.aq rfl rfl Jn rfl ?_
   refine ck DY ?_;rintro _ _ ⟨rfl,rfl⟩;repeat' first|refine Za ?_|refine gS (λ_=>?_) λ_=>?_|refine Uc λ_=>?_|refine al λ_=>?_
   exact Wi [hs]
end
end Go.Proofs.YthebagfahkebiaaGreat
