/-
  Proved: for every input, causewaylaw20.NodeSays returns true and its arguments read as they did. No condition.
-/
import Derived.Test.YthebagfahkebiaaGreatQBJ
set_option linter.all false
set_option maxHeartbeats 8000000
set_option maxRecDepth 20000
namespace Go.Sl
open Go List
def WX.Boa{g:World}{P:Program}{ops:Array Oper}{Q:Exit->Act->World->Prop}{n:Nat}{rest:List Oper}{L:Fm}{H:HH}{q:Bool}{d:Nat}{ty:TypeId}{pos:String}{af:Array Edge}{x y:Operand}{t t':Nat}{b c:Bool}(hx:ev L x=some (.bool b))(hy:ev L y=some (.bool c))(hd:Nat.blt d n=true)[ht:TU P t .bool]
  (k:WX q g P ops Q n rest ((d,.bool (b==c))::L) H):WX q g P ops Q n (⟨some d,.binOp .eql t x y t',ty,pos,af,none⟩::rest) L H:=
 WX.val (λa ha w _=>Zc (ha.ev hx) (ha.ev hy) (by unfold eqGuard;rfl) (by simp[binOp,Op.equal,Op.maxDepth,run_equalIn_bool' w _ t b c ht.h])) hd k
end Go.Sl
namespace Go.Proofs.YthebagfahkebiaaGreat
open Go Go.Sl Go.Proofs.Tryz List
def va.Aoa(n:va):∀y∈n.zx,y.kind=12\/y.kind=13\/y.kind=14:=by
 intro y hy;unfold va.zx at hy;split at hy
 .exact nomatch hy
 .rcases mem_append.1 hy with hy|hy
  .obtain⟨l,hl,hy⟩:=mem_flatten.1 hy;obtain⟨x,-,rfl⟩:=mem_map.1 hl;try simp only[] at hy
   split at hy
   .exact nomatch hy
   .rcases mem_append.1 hy with hy|hy
    .exact .inl (n.Tr _ y hy)
    .exact .inr (.inl (n.Cv _ _ _ _ y hy))
  .obtain⟨l,hl,hy⟩:=mem_flatten.1 hy;obtain⟨x,-,rfl⟩:=mem_map.1 hl;try simp only[] at hy
   split at hy
   .exact nomatch hy
   .exact .inr (.inr (n.Cv _ _ _ _ y hy))
def va.zoa(n:va):n.Jd.length=if 0<=Ed n.c.co n.nd then 1 else 0:=by unfold va.Jd;split<;>rfl
def va.ooa(n:va):n.ve.length=if n.c.TX=true then 1 else 0:=by unfold va.ve;split<;>rfl
def va.Coa(n:va):(∀y∈n.Jd++(n.Cj++(n.ve++n.zx)),y.kind≠10/\(y.kind=8->y.ct=n.c.du/\y.ix=n.c.st/\y.to.nd=Ed n.c.co n.nd))/\
  jf 8 (n.Jd++(n.Cj++(n.ve++n.zx)))=(if 0<=Ed n.c.co n.nd then 1 else 0)/\jf 11 (n.Jd++(n.Cj++(n.ve++n.zx)))=if n.c.TX=true then 1 else 0:=by
 have h1:=n.bP;have h2:=n.dP;have h3:=n.PG;have h4:=n.Aoa;refine⟨λy hy=>?_,?_,?_⟩
 .rcases mem_append.1 hy with hy|hy
  .have:=h1 y hy;exact⟨by omega,λ_=>this.2⟩
  rcases mem_append.1 hy with hy|hy
  .have:=h2 y hy;exact⟨by omega,λh=>by omega⟩
  rcases mem_append.1 hy with hy|hy
  .have:=h3 y hy;exact⟨by omega,λh=>by omega⟩
  .have:=h4 y hy;exact⟨by omega,λh=>by omega⟩
 .rw[zh,zh,zh,oS λy hy=>(h1 y hy).1,Rh λy hy=>by have:=h2 y hy;omega,Rh λy hy=>by have:=h3 y hy;omega,Rh λy hy=>by have:=h4 y hy;omega];exact n.zoa
 .rw[zh,zh,zh,Rh λy hy=>by have:=(h1 y hy).1;omega,Rh λy hy=>by have:=h2 y hy;omega,oS λy hy=>h3 y hy,Rh λy hy=>by have:=h4 y hy;omega];have:=n.ooa;omega
section
variable{fc rn nn cl nd:Int}{Uf:List MG}{v:Value}{hs:Hp}(hx:Rs Uf v hs)(hlen:Uf.length<=1099511627776)(hz:∀a∈Uf,YM a)
include hx hlen hz
theorem poa:Ct prog 4 [.agg (List.toArray [fc,rn,nn,cl]),nd,v] [hs] (λr H'=>r= .bool true/\H'=[hs]):=by
 refine ce func4 λg R=>?_;repeat' first|refine vb ?_|refine gS (λ_=>?_) λ_=>?_|refine Ud λ_=>?_|refine al λ_=>?_|refine cq Tx ?_|refine yj [fc,rn,nn,cl] ?_
 rename_i b3;refine ck (au hx hlen λa ha=>(hz a ha).2) ?_;rintro _ _ ⟨bm,rfl,rfl,U2⟩;simp only[can]
 cases bm with
 |true=>
  repeat' first|refine ga ?_|refine gS (λ_=>?_) λ_=>?_|refine Ud λ_=>?_|refine al λ_=>?_
  exact vj [hs]
 |false=>
  have kd:=JV (fc:=fc) (rn:=rn) (nn:=nn) (cl:=cl) (nd:=nd) hx (U2 rfl) λa ha=>(hz a ha).1;repeat' first|refine ga ?_|refine gS (λ_=>?_) λ_=>?_|refine Ud λ_=>?_|refine al λ_=>?_|refine cq Tx ?_|refine yj [fc,rn,nn,cl] ?_
  refine ck kd ?_;rintro r H' (⟨rfl,rfl⟩|⟨n,b,bd,h,hd,rfl,⟨ok,-⟩,q1,q2,q3,q4,hm,Gz,rfl⟩)
  .simp only[ca,na];repeat' first|refine ga ?_|refine gS (λ_=>?_) λ_=>?_|refine Ud λ_=>?_|refine al λ_=>?_
   exact vj [hs]
  simp only[can];have hm0:=hm;obtain⟨lb,hb,sb,vw,hl,hw,v0,hh,rfl,at_⟩:=hm;obtain⟨cb,d,w,u,hv,X,rfl,Mf⟩:=va.FF at_.lg;have Dn:=Ur n lb cb d w;refine WX.f0 [za b n lb hb sb vw,xb n lb cb d w,oa cb n.c u,hv,X,hw,La hb n.rg v0,hh,Ma sb n.dc n.rc,hd,hs,[(b3,.cells (List.toArray [fc,rn,nn,cl]) 23 (0,0))],R] ?_
  cases hu:n.s.Xa with
  |false=>
   rw[hu] at Dn;repeat' first|refine ga ?_|refine gS (λ_=>?_) λ_=>?_|refine Ud λ_=>?_|refine al λ_=>?_|refine cq Dn ?_
   exact vj [hs]
  |true=>
   rw[hu] at Dn;repeat' first|refine ga ?_|refine gS (λ_=>?_) λ_=>?_|refine Ud λ_=>?_|refine al λ_=>?_|refine cq Dn ?_
   refine WX.f0 [yx b n lb hb sb vw (xb n lb cb d w++(oa cb n.c u++(hv++X))) hw v0 hh,hd,hs,[(b3,.cells (List.toArray [fc,rn,nn,cl]) 23 (0,0))],R] ?_;have kt:=Kz hm0 ok.toef (by decide);obtain⟨p1,p2,p3,p4,p5,p6⟩:=va.Aq ok.toef (by decide);obtain⟨-,-,-,-,-,-,-,r8⟩:=n.Dd;have bg:=ok.toef.pull (by decide);have Ws:=n.pull.Coa;have htl:=va.TI ok.toef (by decide);rw[va.LV hu] at kt htl;obtain⟨Wi,hh0⟩:∃x:Da,x={n.out 10 n.Cc with ep:=n.ep}:=⟨_,rfl⟩;have hk:Wi.kind=10:=by rw[hh0];rfl
   have he:Wi.ep=(Yb n.pull.c.co).ep:=by rw[hh0,p3];rfl
   have ht:Wi.to=⟨2,0,0,0⟩:=by rw[hh0];show n.Cc=_;unfold va.Cc;rw[ok.dc]
   have iB:n.pull.nd=nd:=r8.trans q4;rw[<-hh0] at kt htl;generalize n.pull=m at kt htl bg Ws he iB;obtain⟨s1,s2,s3⟩:=Ws;rw[iB] at s1 s2;generalize m.Jd++(m.Cj++(m.ve++m.zx))=ms at kt htl s1 s2 s3;have htl:(Wi::ms).length<=100000:=htl;refine ck kt ?_;rintro r1 _ ⟨h1,h2,hs1,Ji,rfl⟩;have hs1:ia 52 (Wi::ms) r1 h1:=hs1;have Ji:qg m b h2:=Ji;obtain⟨lb',hb',sb',Vs,hl',Uh,v',Ni,rfl,DI⟩:=Ji;obtain⟨Ya,d',w',u',Lc,X',rfl,Nj⟩:=va.FF DI.lg;obtain⟨r1,c1,rfl⟩:=hs1.len;have AF:=hs1.rs;have hx0:(Wi::ms)[0]? =some Wi:=rfl;have hpos:(0:Int)<((Wi::ms).length:Int):=by rw[Gb];omega
   have hne: ¬((Wi::ms).length:Int)=0:=by omega
   have hke: ¬ ¬Wi.kind=10:=not_not_intro hk;have qx:=wR Wi.to ⟨2,0,0,0⟩;rw[Fi ht] at qx;have k1:=Si m.c Ya u';obtain⟨ep,xU⟩:∃x,(Yb m.c.co).ep=x:=⟨_,rfl⟩;rw[xU] at k1 he;have hee: ¬ ¬Wi.ep=ep:=not_not_intro he;refine WX.f0 [h1,za b m lb' hb' sb' Vs,xb m lb' Ya d' w',oa Ya m.c u',Lc,X',Uh,La hb' m.rg v',Ni,Ma sb' m.dc m.rc,hd,hs,[(b3,.cells (List.toArray [fc,rn,nn,cl]) 23 (0,0))],R] ?_;repeat' first|refine ga ?_|refine gS (λ_=>?_) λ_=>?_|refine Ud λ_=>?_|refine al λ_=>?_
   refine wq ?_;repeat' first|refine ga ?_|refine gS (λ_=>?_) λ_=>?_|refine Ud λ_=>?_|refine al λ_=>?_|refine lF (us:=Wi.to.enc) rfl AF ?_ (hk:=hx0) (ho:=rfl)|refine Vf (Bl.enc ⟨2,0,0,0⟩) ?_|refine cq k1 ?_|refine WX.xl rfl rfl qx rfl ?_
   have k2:=Vn m.c Ya u';have k3:=Ag m.c Ya u';have k4:=jk m.c Ya u';have k5:=xy bg.ob.co nd;have k6:=XL bg.ob Ya u';obtain⟨a1,dX⟩:∃x,Ed m.c.co nd=x:=⟨_,rfl⟩;rw[dX] at k5 s1 s2;have jg:((Wi::ms).length:Int)=(ms.length:Int)+1:=by rw[Gb];push_cast;rfl
   refine W.lo (α:=Nat) (λk=>k<=ms.length) (λk=>[(1,nd),(7,b),(9,.slice r1 (Wi::ms).length c1),(10,.int .i64 (jf 8 (ms.take k):Int)),(11,.int .i64 (jf 11 (ms.take k):Int)),(12,.int .i64 ((k+1:Nat):Int))])
    (λ_=>[h1,za b m lb' hb' sb' Vs,xb m lb' Ya d' w',oa Ya m.c u',Lc,X',Uh,La hb' m.rg v',Ni,Ma sb' m.dc m.rc,hd,hs,[(b3,.cells (List.toArray [fc,rn,nn,cl]) 23 (0,0))],R]) (λk=>ms.length - k) 0 (Gi _) ?_
   intro k hk;by_cases hlt:k<ms.length
   .obtain⟨y,hy⟩:=Sh hlt;have hy1:(Wi::ms)[k+1]? =some y:=hy;have hlt':((k+1:Nat):Int)<((Wi::ms).length:Int):=by omega
    obtain⟨g1,g2⟩:=s1 y (mem_of_getElem? hy);have t8:=HF (k:=8) hy;have t11:=HF (k:=11) hy;have bound:=countP_le_length (p:=λy:Da=>decide (y.kind=8)) (l:=ms.take k);have Doa:=countP_le_length (p:=λy:Da=>decide (y.kind=11)) (l:=ms.take k);have QH:jf 8 (ms.take k)<=100000:=(by have:(ms.take k).length<=ms.length:=(by rw[Fe];omega);rw[Gb] at htl;unfold jf;omega);have vK:jf 11 (ms.take k)<=100000:=(by have:(ms.take k).length<=ms.length:=(by rw[Fe];omega);rw[Gb] at htl;unfold jf;omega);by_cases e8:y.kind=8
    .obtain⟨g3,g4,g5⟩:=g2 e8;have g3': ¬ ¬y.ct=m.c.du:=not_not_intro g3;have g4': ¬ ¬y.ix=m.c.st:=not_not_intro g4;have g5': ¬ ¬y.to.nd=a1:=not_not_intro g5;rw[if_pos e8] at t8;rw[if_neg (by omega)] at t11;have I0: ¬y.kind=11:=by omega
     repeat' first|refine ga ?_|refine gS (λ_=>?_) λ_=>?_|refine Ud λ_=>?_|refine al λ_=>?_|refine rG AF hy1 ?_|refine nh Da.z.enc y.enc ?_
     refine wq ?_;repeat' first|refine ga ?_|refine gS (λ_=>?_) λ_=>?_|refine Ud λ_=>?_|refine al λ_=>?_|refine cq k2 ?_|refine cq k3 ?_|refine cq k4 ?_|refine cq k5 ?_
     refine D.as 10 (.int .i64 (jf 8 (ms.take (k+1)):Int)) rfl (by rw[t8];push_cast;rfl) ?_;refine D.as 11 (.int .i64 (jf 11 (ms.take (k+1)):Int)) rfl (by rw[t11];rfl) ?_;exact D.re (k+1)
    .rw[if_neg e8] at t8;by_cases I0:y.kind=11
     all_goals
      first|rw[if_pos I0] at t11|rw[if_neg I0] at t11
      repeat' first|refine ga ?_|refine gS (λ_=>?_) λ_=>?_|refine Ud λ_=>?_|refine al λ_=>?_|refine rG AF hy1 ?_|refine nh Da.z.enc y.enc ?_
      refine D.as 10 (.int .i64 (jf 8 (ms.take (k+1)):Int)) rfl (by rw[t8];rfl) ?_;refine D.as 11 (.int .i64 (jf 11 (ms.take (k+1)):Int)) rfl (by rw[t11];first|rfl|(push_cast;rfl)) ?_;exact D.re (k+1)
   .obtain rfl:k=ms.length:=by omega
    have hlt': ¬((ms.length+1:Nat):Int)<((Wi::ms).length:Int):=by omega
    rw[take_length,s2,s3];obtain⟨cg,hcg⟩:∃x,m.c.TX=x:=⟨_,rfl⟩;rw[hcg] at k6⊢;repeat' first|refine ga ?_|refine gS (λ_=>?_) λ_=>?_|refine Ud λ_=>?_|refine al λ_=>?_|refine cq k4 ?_|refine cq k5 ?_
    refine WX.Boa rfl rfl rfl ?_;refine WX.as 146 (.bool true) rfl (by by_cases c:0<=a1<;>simp[c]) ?_;repeat' first|refine ga ?_|refine gS (λ_=>?_) λ_=>?_|refine Ud λ_=>?_|refine al λ_=>?_|refine cq k6 ?_
    refine WX.Boa rfl rfl rfl ?_;refine WX.as 158 (.bool true) rfl (by cases cg<;>rfl) ?_;repeat' first|refine ga ?_|refine gS (λ_=>?_) λ_=>?_|refine Ud λ_=>?_|refine al λ_=>?_
    exact vj [hs]
end
set_option maxRecDepth 100000 in
theorem gC(os:Os)(started:os.Started)(H:Type)(enc:TypeId×Value->H):
  ReturnsInHanded {} checked os 4 .any (Rows.nodeSaysSpec.pre6 enc prog f4 Rows.nodeSaysRow.domain false) (Rows.nodeSaysSpec.post enc prog f4 false true false false):=by
 refine Vr (C:=checked) (tb:=4) Tryz.own started (by kernel_rfl) func4
  (ChangeSpec.witness6 (enc:=enc) (C:=checked) false ⟨#[], #[.agg #[.int .i64 0,.int .i64 0,.int .i64 0,.int .i64 0],.int .i64 0,.slice none 0 0],[]⟩ 8 (by kernel_rfl) (by kernel_rfl) (by kernel_rfl) (by kernel_rfl))
  Tryz.laidOut (by kernel_rfl) rfl underlying4 rfl (λds hd=>match ds,hd with|[_,_,_],_=>⟨rfl,rfl,rfl⟩) ?_
 intro W base args ds p Gw iX aJ;have hval:∀(j:Nat) t v,f4.params[j]? =some t->args[j]? =some v->Value.okWide prog W .any base t v:=Gw;have hA:DataW.TrodAll enc prog W 0 (λ_=>true) true f4.params.toList args.toList ds p:=iX;have lC:∀l∈DataW.weightsEach prog f4.params.toList ds,l<=reachBytes:=aJ;clear Gw iX aJ;rw[params4] at hA hval lC;obtain⟨v0,v1,v2,d0,d1,d2,p0,p1,p2,rfl,rfl,rfl,h0,h1,h2⟩:=ChangeShapes.trodAll_three hA;obtain⟨l,rfl,_⟩:=Lk 0 FL (hval 0 23 v0 rfl rfl) h0 (xe lC (i:=0) rfl rfl);obtain⟨nd,rfl,_⟩:=Vx (hval 1 3 v1 rfl rfl) h1;obtain⟨xs,hx,hxz,Wx⟩:=Gv (by kernel_rfl) GL (hval 2 24 v2 rfl rfl) h2 (xe lC (i:=2) rfl rfl);exact Hv (poa hx.rs (HL Wx) hxz)
def qoa:(Rows.nodeSaysRow.inPlace==prog.inPlace 4)=true:=by kernel_rfl
def roa:(Rows.nodeSaysRow.unfollowed==prog.unfollowed 4)=true:=by kernel_rfl
def soa:(Rows.nodeSaysRow.recurses==prog.recurses 4)=true:=by kernel_rfl
def toa:(Rows.nodeSaysRow.named==prog.varsNamed 4)=true:=by kernel_rfl
def uoa:laidOutB prog=true:=by kernel_rfl
def voa:mapsRowed prog=true:=by kernel_rfl
def woa:(Rows.nodeSaysRow.plainKeys==prog.plainKeys)=true:=by kernel_rfl
def xoa:(Rows.nodeSaysRow.lifted==prog.liftsFinal)=true:=by kernel_rfl
def yoa:prog.stopsHeard=true:=by kernel_rfl
def iC:joinedFacts prog 4 f4 Rows.nodeSaysSpec Rows.nodeSaysRow=true:=by
 unfold joinedFacts;rw[qoa,roa,soa,toa,uoa,voa,woa,xoa,yoa]
 kernel_rfl
theorem nodeSays_holds:Rows.NodeSaysSaid:=
 OpenClaim.holds_of_wide 4 f4 rfl rfl rfl rfl rfl rfl rfl ⟨rfl,rfl,rfl,rfl,rfl⟩ rfl rfl rfl rfl rfl (by kernel_rfl) func4 iC
  (of_decide_eq_true (by kernel_rfl)) (by unfold Func.isWrapper;first|(rw[if_pos (by decide+kernel)];kernel_rfl)|(rw[if_neg (by decide+kernel)];exact⟨rfl,rfl⟩))
  (λos started H enc _=>gC os started H enc)
end Go.Proofs.YthebagfahkebiaaGreat
