/-
  Proved: for every input, causewaylaw20.NodeServes returns true and its arguments read as they did. No condition.
-/
import Derived.Test.YthebagfahkebiaaGreatQBJ
set_option linter.all false
set_option maxHeartbeats 8000000
set_option maxRecDepth 20000
namespace Go.Sl
open Go List
def WX.Doa{g:World}{P:Program}{ops:Array Oper}{Q:Exit->Act->World->Prop}{n:Nat}{rest:List Oper}{L:Fm}{H:HH}{q:Bool}{d:Nat}{ty:TypeId}{pos:String}{af:Array Edge}{x y:Operand}{t t':Nat}{b c:Bool}(hx:ev L x=some (.bool b))(hy:ev L y=some (.bool c))(hd:Nat.blt d n=true)[ht:TU P t .bool]
  (k:WX q g P ops Q n rest ((d,.bool (b==c))::L) H):WX q g P ops Q n (⟨some d,.binOp .eql t x y t',ty,pos,af,none⟩::rest) L H:=
 WX.val (λa ha w _=>Zc (ha.ev hx) (ha.ev hy) (by unfold eqGuard;rfl) (by simp[binOp,Op.equal,Op.maxDepth,run_equalIn_bool' w _ t b c ht.h])) hd k
end Go.Sl
namespace Go.Proofs.YthebagfahkebiaaGreat
open Go Go.Sl Go.Proofs.Tryz List
instance:TL prog 82 23 true:=⟨by kernel_rfl,by kernel_rfl⟩
instance:ye prog 82 0 0 9:=ye.of (k:=1) (by kernel_rfl)
instance:ye prog 82 1 1 47:=ye.of (k:=9) (by kernel_rfl)
instance:ye prog 82 2 10 4:=ye.of (k:=1) (by kernel_rfl)
instance:ye prog 82 3 11 47:=ye.of (k:=9) (by kernel_rfl)
instance:ye prog 82 4 20 50:=ye.of (k:=3) (by kernel_rfl)
def zoa{n:va}{b:Nat}{h:Hp}(hm:qg n b h):Ct prog 34 [b] [h] (λr H'=>r= .agg (List.toArray n.mr.enc)/\H'=[h]):=by
 obtain⟨lb,hb,sb,vw,hl,hw,v,hh,rfl,at_⟩:=hm;refine Ct.ext ?_;refine ce func34 λg R=>?_;repeat' first|refine vb ?_|refine gS (λ_=>?_) λ_=>?_|refine Ud λ_=>?_|refine al λ_=>?_|refine Xm b 20 (n.cells lb hb sb vw) n.mr.enc ?_|refine nh V3.z.enc n.mr.enc ?_
 exact D.Dc [za b n lb hb sb vw] _ rfl (.Ua rfl rfl .nil) ⟨rfl,rfl⟩
def mg.quiet{n:va}{N:Int}(h:mg n N):n.Ra=n/\n.Gh n.c.du n.c.st n.c.ak=[]:=by
 have h1:(n.ws.filter λw=>decide (w.ix<=n.c.st))=[]:=filter_eq_nil_iff.2 λw hw=>by have:=h.wt w hw;simp only[decide_eq_true_eq];omega
 have h2:(n.ws.filter λw=> !decide (w.ix<=n.c.st))=n.ws:=filter_eq_self.2 λw hw=>by have:=h.wt w hw;simp only[Bool.not_eq_true',decide_eq_false_iff_not];omega
 constructor
 .show({n with ws:=_}:va)=n;rw[h2]
 .unfold va.Gh;rw[h1,if_neg (by omega),if_neg (by omega)];rfl
def mg.alone{n:va}{N:Int}(h:mg n N)(hu:n.s.Xa=true){m:Da}{ms:List Da}(h0:n.Qa m=((n,ms),false)):n.handle m=(n,ms):=by
 obtain⟨h1,h2⟩:=h.quiet;unfold va.handle;rw[if_neg (by rw[hu];decide)];simp only[];rw[h0];simp only[];rw[h1,h2];simp
def yoa(rg:Int)(q:Qy)(es:List ya): ¬(Xy rg q es).code=92:=by
 unfold Xy;simp only[];repeat' split
 all_goals(simp only[An.z];decide)
section
variable{fc rn nn cl nd:Int}{Uf:List MG}{v:Value}{hs:Hp}(hx:Rs Uf v hs)(hlen:Uf.length<=1099511627776)(hz:∀a∈Uf,YM a)
include hx hlen hz
theorem ooa(q:Qy)(op tr:Int):Ct prog 5 [.agg (List.toArray [fc,rn,nn,cl]),nd,v,.agg (List.toArray q.enc),op,tr] [hs] (λr H'=>r= .bool true/\H'=[hs]):=by
 refine ce func5 λg R=>?_;repeat' first|refine vb ?_|refine gS (λ_=>?_) λ_=>?_|refine Ud λ_=>?_|refine al λ_=>?_|refine cq Tx ?_|refine yj [fc,rn,nn,cl] ?_
 rename_i b3 b9;refine ck (au hx hlen λa ha=>(hz a ha).2) ?_;rintro _ _ ⟨bm,rfl,rfl,U2⟩;simp only[can]
 cases bm with
 |true=>
  repeat' first|refine ga ?_|refine gS (λ_=>?_) λ_=>?_|refine Ud λ_=>?_|refine al λ_=>?_
  exact vj [hs]
 |false=>
 by_cases hk:(1000:Int)<(q.key.size:Int)
 .repeat' first|refine ga ?_|refine gS (λ_=>?_) λ_=>?_|refine Ud λ_=>?_|refine al λ_=>?_
  exact vj [hs]
 .have kd:=JV (fc:=fc) (rn:=rn) (nn:=nn) (cl:=cl) (nd:=nd) hx (U2 rfl) λa ha=>(hz a ha).1;repeat' first|refine ga ?_|refine gS (λ_=>?_) λ_=>?_|refine Ud λ_=>?_|refine al λ_=>?_|refine cq Tx ?_|refine yj [fc,rn,nn,cl] ?_
  refine ck kd ?_;rintro r H' (⟨rfl,rfl⟩|⟨n,b,bd,h,hd,rfl,⟨ok,-⟩,q1,q2,q3,q4,hm,Gz,rfl⟩)
  .simp only[ca,na];repeat' first|refine ga ?_|refine gS (λ_=>?_) λ_=>?_|refine Ud λ_=>?_|refine al λ_=>?_
   exact vj [hs]
  simp only[can];have hm0:=hm;obtain⟨lb,hb,sb,vw,hl,hw,v0,hh,rfl,at_⟩:=hm;obtain⟨cb,d,w,u,hv,X,rfl,Mf⟩:=va.FF at_.lg;have Dn:=Ur n lb cb d w;have kf:=wP ok.ob.co cb u;have ke:=Si n.c cb u;have iB:n.c.nd=n.nd:=(Ea.Uq n.s).1;rw[iB] at kf;refine WX.f0 [za b n lb hb sb vw,xb n lb cb d w,oa cb n.c u,hv,X,hw,La hb n.rg v0,hh,Ma sb n.dc n.rc,hd,hs,Qv b9 q,[(b3,.cells (List.toArray [fc,rn,nn,cl]) 23 (0,0))],R] ?_
  cases hu:n.s.Xa with
  |false=>
   rw[hu] at Dn;repeat' first|refine ga ?_|refine gS (λ_=>?_) λ_=>?_|refine Ud λ_=>?_|refine al λ_=>?_|refine cq Dn ?_
   exact vj [hs]
  |true=>
  rw[hu] at Dn
  cases hf:xm n.c.co n.nd with
  |false=>
   rw[hf] at kf;repeat' first|refine ga ?_|refine gS (λ_=>?_) λ_=>?_|refine Ud λ_=>?_|refine al λ_=>?_|refine cq Dn ?_|refine cq kf ?_
   exact vj [hs]
  |true=>
   rw[hf] at kf;obtain⟨mg,hmg⟩:∃mg:Da,mg={Da.z with kind:=5,fr:=⟨3,0,0,1⟩,ep:=n.ep,op:=op,tr:=tr,key:=q.key,dp:=q.Rj,snap:=q.snap,av:=q.av}:=⟨_,rfl⟩;have h0:n.Qa mg=((n,[n.get mg]),false):=va.aY (by rw[hmg]);have kh:=Kk hm0 ok.toef (by decide) (by rw[ok.rg];decide) (by rw[ok.dc];decide) mg;rw[ok.alone hu h0] at kh;repeat' first|refine ga ?_|refine gS (λ_=>?_) λ_=>?_|refine Ud λ_=>?_|refine al λ_=>?_|refine cq Dn ?_|refine cq kf ?_|refine Vf (Bl.enc ⟨3,0,0,1⟩) ?_|refine nh Bl.z.enc (Bl.enc ⟨3,0,0,1⟩) ?_
   rename_i b15;refine W.h0 [Fp b15 ⟨3,0,0,1⟩,za b n lb hb sb vw,xb n lb cb d w,oa cb n.c u,hv,X,hw,La hb n.rg v0,hh,Ma sb n.dc n.rc,hd,hs,Qv b9 q,[(b3,.cells (List.toArray [fc,rn,nn,cl]) 23 (0,0))],R] ?_;refine Ns (ml [9,1,11]) [Fp b15 ⟨3,0,0,1⟩,Qv b9 q,za b n lb hb sb vw,xb n lb cb d w] ?_;repeat' first|refine ga ?_|refine gS (λ_=>?_) λ_=>?_|refine Ud λ_=>?_|refine al λ_=>?_|refine cq ke ?_|refine yj (Bl.enc ⟨3,0,0,1⟩) ?_|refine Xm b9 1 q.enc q.Rj.enc ?_|refine Xm b9 11 q.enc q.av.enc ?_|refine Vf (Da.enc {Da.z with kind:=5,fr:=⟨3,0,0,1⟩,ep:=n.ep,op:=op,tr:=tr,key:=q.key,dp:=q.Rj,snap:=q.snap,av:=q.av}) ?_
   rw[<-hmg];refine WX.f0 [Fp b15 ⟨3,0,0,1⟩,yx b n lb hb sb vw (xb n lb cb d w++(oa cb n.c u++(hv++X))) hw v0 hh,hd,hs,Qv b9 q,[(b3,.cells (List.toArray [fc,rn,nn,cl]) 23 (0,0))],R] ?_;refine ck kh ?_;rintro r1 _ ⟨h1,h2,hs1,Ji,rfl⟩;have hs1:ia 52 [n.get mg] r1 h1:=hs1;have Ji:qg n b h2:=Ji;have kmk:=zoa Ji;obtain⟨lb',hb',sb',Vs,hl',Uh,v',Ni,rfl,DI⟩:=Ji;obtain⟨Ya,d',w',u',Lc,X',rfl,Nj⟩:=va.FF DI.lg;obtain⟨r1,c1,rfl⟩:=hs1.len;have AF:=hs1.rs;have hx0:[n.get mg][0]? =some (n.get mg):=rfl;have jg:=ok.ob.len;have uq:n.Ab.length<=1000000:=by unfold va.Ab;rw[Fe];omega
   have g0:(n.get mg).to=⟨3,0,0,1⟩/\(n.get mg).kind=6/\(n.get mg).op=op/\(n.get mg).tr=tr:=by
    unfold va.get;rw[hmg];split
    .exact⟨rfl,rfl,rfl,rfl⟩
    .split<;>exact⟨rfl,rfl,rfl,rfl⟩
   have g1:n.get mg=if(n.c.last/\n.c.su=false)\/(¬n.c.last/\n.c.st<n.c.du) then n.no 6 mg 92 else{n.no 6 mg (Xy n.rg {q with mr:=n.mr} n.Ab).code with has:=(Xy n.rg {q with mr:=n.mr} n.Ab).has,en:=(Xy n.rg {q with mr:=n.mr} n.Ab).en,c0:=(Xy n.rg {q with mr:=n.mr} n.Ab).col.a,c1:=(Xy n.rg {q with mr:=n.mr} n.Ab).col.b,c2:=(Xy n.rg {q with mr:=n.mr} n.Ab).col.c}:=by
    unfold va.get;rw[if_neg (by rw[hmg];exact λh=>h.elim (λh=>h rfl) λh=>(by rw[hf] at h;cases h))];rw[hmg];rfl
   generalize n.get mg=g at hs1 AF hx0 g0 g1⊢;obtain⟨e1,e2,e3,e4⟩:=g0;have e2': ¬ ¬g.kind=6:=not_not_intro e2;have tT: ¬ ¬g.op=op:=not_not_intro e3;have e4': ¬ ¬g.tr=tr:=not_not_intro e4;have qx:=wR g.to ⟨3,0,0,1⟩;rw[Fi e1] at qx;refine WX.f0 [h1,za b n lb' hb' sb' Vs,xb n lb' Ya d' w',oa Ya n.c u',Lc,X',Uh,La hb' n.rg v',Ni,Ma sb' n.dc n.rc,Fp b15 ⟨3,0,0,1⟩,hd,hs,Qv b9 q,[(b3,.cells (List.toArray [fc,rn,nn,cl]) 23 (0,0))],R] ?_;repeat' first|refine ga ?_|refine gS (λ_=>?_) λ_=>?_|refine Ud λ_=>?_|refine al λ_=>?_
   refine wq ?_;repeat' first|refine ga ?_|refine gS (λ_=>?_) λ_=>?_|refine Ud λ_=>?_|refine al λ_=>?_|refine lF (us:=g.to.enc) rfl AF ?_ (hk:=hx0) (ho:=rfl)|refine yj (Bl.enc ⟨3,0,0,1⟩) ?_|refine WX.xl rfl rfl qx rfl ?_
   have k4:=Zm ok.ob.co Ya u';have k5:=Nz n.c Ya u';have k6:=Ag n.c Ya u';have k7:=Vn n.c Ya u';by_cases dq:(n.c.last/\n.c.su=false)\/(¬n.c.last/\n.c.st<n.c.du)
   .rw[if_pos dq] at g1;have Eoa:g.code=92:=by rw[g1];rfl
    by_cases c1:n.c.last
    .rw[Fi c1] at k4;have hsu:n.c.su=false:=dq.elim (λh=>h.2) λh=>absurd c1 h.1;rw[hsu] at k5;repeat' first|refine ga ?_|refine gS (λ_=>?_) λ_=>?_|refine Ud λ_=>?_|refine al λ_=>?_
     refine wq ?_;repeat' first|refine ga ?_|refine gS (λ_=>?_) λ_=>?_|refine Ud λ_=>?_|refine al λ_=>?_|refine cq k4 ?_|refine cq k5 ?_|refine cq k6 ?_|refine cq k7 ?_
     exact vj [hs]
    .rw[gj c1] at k4;have hlt:n.c.st<n.c.du:=dq.elim (λh=>absurd h.1 c1) λh=>h.2;repeat' first|refine ga ?_|refine gS (λ_=>?_) λ_=>?_|refine Ud λ_=>?_|refine al λ_=>?_
     refine wq ?_;repeat' first|refine ga ?_|refine gS (λ_=>?_) λ_=>?_|refine Ud λ_=>?_|refine al λ_=>?_|refine cq k4 ?_|refine cq k5 ?_|refine cq k6 ?_|refine cq k7 ?_
     exact Wa [hs] rfl rfl ⟨by rw[Fi hlt],rfl⟩
   .rw[if_neg dq] at g1;have Aoa:=yoa n.rg {q with mr:=n.mr} n.Ab;have k9:=λ{u:Value} {h:Hp} (hu:Rs n.Ab u h)=>SS n.rg {q with mr:=n.mr} hu uq;rw[ok.rg] at k9 Aoa g1;generalize Xy 0 {q with mr:=n.mr} n.Ab=a at k9 Aoa g1;have g2:g.code=a.code:=by rw[g1];rfl
    have g3:g.has=a.has:=by rw[g1]
    have g4:g.en=a.en:=by rw[g1]
    have g5:g.c0=a.col.a/\g.c1=a.col.b/\g.c2=a.col.c:=by rw[g1];exact⟨rfl,rfl,rfl⟩
    have Eoa: ¬g.code=92:=by rw[g2];exact Aoa
    have hce:Db WR g.en.enc a.en.enc=some true:=by rw[g4];exact Zt rfl
    have ZW:Db [.i,.i,.i] [g.c0,g.c1,g.c2] a.col.enc=some true:=by rw[g5.1,g5.2.1,g5.2.2];exact Zt rfl
    have h1s:=ok.cs.st;have h2s:=ok.ob.du;have h4s:n.c.len=(n.c.lg.length:Int):=rfl;obtain⟨K,hK⟩:∃K:Nat,n.c.st=(K:Int):=⟨n.c.st.toNat,by omega⟩;have hle:K<=n.c.lg.length:=by omega
    have hsE:n.Ab=n.c.lg.take K:=by unfold va.Ab;rw[hK];rfl
    rw[hsE] at k9;rw[hK] at k6;have klg:=ym n.c Ya Nj.rs (by omega);repeat' first|refine ga ?_|refine gS (λ_=>?_) λ_=>?_|refine Ud λ_=>?_|refine al λ_=>?_
    refine WX.f0 [h1,yx b n lb' hb' sb' Vs (xb n lb' Ya d' w'++(oa Ya n.c u'++(Lc++X'))) Uh v' Ni,Fp b15 ⟨3,0,0,1⟩,hd,hs,Qv b9 q,[(b3,.cells (List.toArray [fc,rn,nn,cl]) 23 (0,0))],R] ?_;refine cq kmk ?_;refine WX.f0 [h1,za b n lb' hb' sb' Vs,xb n lb' Ya d' w',oa Ya n.c u',Lc,X',Uh,La hb' n.rg v',Ni,Ma sb' n.dc n.rc,Fp b15 ⟨3,0,0,1⟩,hd,hs,Qv b9 q,[(b3,.cells (List.toArray [fc,rn,nn,cl]) 23 (0,0))],R] ?_;repeat' first|refine ga ?_|refine gS (λ_=>?_) λ_=>?_|refine Ud λ_=>?_|refine al λ_=>?_
    refine WX.Yc (vs:=n.mr.enc) (b:=b9) (i:=20) (cs:=q.enc) rfl rfl rfl rfl rfl rfl ?_;rw[show setAt q.enc 20 n.mr.enc=Qy.enc {q with mr:=n.mr} from rfl];obtain⟨q',hq'⟩:∃q':Qy,q'={q with mr:=n.mr}:=⟨_,rfl⟩;rw[<-hq'] at k9⊢;repeat' first|refine ga ?_|refine gS (λ_=>?_) λ_=>?_|refine Ud λ_=>?_|refine al λ_=>?_
    refine W.gi (α:=Nat) (λ_=>True) (λy=>[(16,.slice r1 [g].length c1),(17,y)]) (λy=>[Yy y a,h1,hs,R]) ?_ ?_
    .refine w6 (ml [8,1,7,1,1,3]) [Qv b9 q',za b n lb' hb' sb' Vs,xb n lb' Ya d' w'] ?_;repeat' first|refine ga ?_|refine gS (λ_=>?_) λ_=>?_|refine Ud λ_=>?_|refine al λ_=>?_|refine WY.Se ?_|refine WY.back ?_|refine Uk 0 ?_|refine Uk 1 ?_|refine Uk 2 ?_|refine Uk 3 ?_|refine Uk 4 ?_|refine Uk 5 ?_|refine Uk 6 ?_|refine Uk 7 ?_|refine Uk 9 ?_|refine Uk 10 ?_|refine Uk 11 ?_|refine Uk 12 ?_|refine Uk 13 ?_|refine Uk 14 ?_|refine Uk 15 ?_|refine Uk 17 ?_|refine WY.Ts 8 19 (by decide+kernel) rfl rfl ?_ ?_|refine WY.Ts 16 19 (by decide+kernel) rfl rfl ?_ ?_|refine WY.Ts 18 19 (by decide+kernel) rfl rfl ?_ ?_|refine uK 8 ?_|refine uK 16 ?_|refine uK 18 ?_|refine uK 19 ?_|refine uK 20 ?_|refine WY.fin (by kernel_rfl) ?_|refine yj q'.enc ?_|(refine I.cl ?_;refine ck klg ?_;rintro _ _ ⟨h5,hs5,rfl⟩;simp only[ca,na])|refine cq k6 ?_|refine cq (k9 ((ia.rs ‹ia 49 n.c.lg _ _›).take hle)) ?_|refine sl rfl rfl (ia.rs ‹ia 49 n.c.lg _ _›) ?_ hle|refine nh An.z.enc a.enc ?_
     all_goals first|exact D.Hu _ trivial (by repeat(first|exact Ca.nil|refine Ca.cons rfl ?_)) (Ga.qa inferInstance)|trace_state
    rintro b17 -;try simp only[]
    repeat' first|refine ga ?_|refine gS (λ_=>?_) λ_=>?_|refine Ud λ_=>?_|refine al λ_=>?_
    refine wq ?_;repeat' first|refine ga ?_|refine gS (λ_=>?_) λ_=>?_|refine Ud λ_=>?_|refine al λ_=>?_
    refine WX.Doa rfl rfl rfl ?_;refine WX.as 203 (.bool true) rfl (by rw[g3];simp) ?_;repeat' first|refine ga ?_|refine gS (λ_=>?_) λ_=>?_|refine Ud λ_=>?_|refine al λ_=>?_|refine lF (us:=g.en.enc) rfl AF ?_ (hk:=hx0) (ho:=rfl)|refine lF (us:=[g.c0,g.c1,g.c2]) rfl AF ?_ (hk:=hx0) (ho:=rfl)|refine Xm b17 2 a.enc a.en.enc ?_|refine Xm b17 22 a.enc a.col.enc ?_|refine WX.Vu rfl rfl hce rfl ?_|refine WX.Vu rfl rfl ZW rfl ?_
    exact vj [hs]
end
instance:Nb Qy:=⟨23,Qy.enc,λ_=>rfl,λ_=>rfl,by decide⟩
def Boa{H:Type}{enc:TypeId×Value->H}{P:Program}{w:World}{base:Nat}{spare:Nat->Bool}{held:Bool}{t0 t1 t2 t3 t4 t5:TypeId}{args:Array Value}{ds:List (DataW H)}{ps:List MemPlace}(h:DataW.TrodAll enc P w base spare held [t0,t1,t2,t3,t4,t5] args.toList ds ps):
  ∃v0 v1 v2 v3 v4 v5 d0 d1 d2 d3 d4 d5,args= #[v0,v1,v2,v3,v4,v5]/\ds=[d0,d1,d2,d3,d4,d5]/\(∃p,DataW.Trod enc P w base spare held t0 v0 d0 p)/\(∃p,DataW.Trod enc P w base spare held t1 v1 d1 p)/\(∃p,DataW.Trod enc P w base spare held t2 v2 d2 p)/\(∃p,DataW.Trod enc P w base spare held t3 v3 d3 p)/\(∃p,DataW.Trod enc P w base spare held t4 v4 d4 p)/\(∃p,DataW.Trod enc P w base spare held t5 v5 d5 p):=by
 obtain⟨v0,vs0,d0,ds0,p0,q0,ha,rfl,rfl,Bk,fF⟩:=ChangeShapes.trodAll_cons h;obtain⟨v1,AK,d1,ds1,p1,q1,rfl,rfl,rfl,Bn,AF⟩:=ChangeShapes.trodAll_cons fF;obtain⟨v2,MT,d2,ds2,p2,q2,rfl,rfl,rfl,Hj,nQ⟩:=ChangeShapes.trodAll_cons AF;obtain⟨v3,G9,d3,ds3,p3,q3,rfl,rfl,rfl,cL,HU⟩:=ChangeShapes.trodAll_cons nQ;obtain⟨v4,vs4,d4,ds4,p4,q4,rfl,rfl,rfl,hd4,hr4⟩:=ChangeShapes.trodAll_cons HU;obtain⟨v5,vs5,d5,ds5,p5,q5,rfl,rfl,rfl,bY,hr5⟩:=ChangeShapes.trodAll_cons hr4;obtain⟨rfl,rfl,rfl⟩:=ChangeShapes.trodAll_nil hr5;exact⟨v0,v1,v2,v3,v4,v5,d0,d1,d2,d3,d4,d5,by cases args;simp_all,rfl,⟨_,Bk⟩,⟨_,Bn⟩,⟨_,Hj⟩,⟨_,cL⟩,⟨_,hd4⟩,⟨_,bY⟩⟩
set_option maxRecDepth 100000 in
theorem Coa:PE prog 82 Qy (λ_ _=>True):=Go.Sl.gJ λH enc w cs h=>by
 have hl:cs.length=23:=h.len (i:=0);obtain⟨key,e0,_⟩:=(h.field 0).string;have h1:Rf enc prog w 47 ((cs.drop 1).take 9):=h.field 1;obtain⟨Rj,e1⟩:=OL h1;obtain⟨snap,e2⟩:=(h.field 2).bool;have h3:Rf enc prog w 47 ((cs.drop 11).take 9):=h.field 3;obtain⟨av,e3⟩:=OL h3;have h4:Rf enc prog w 50 ((cs.drop 20).take 3):=h.field 4;obtain⟨a,b,c,e4⟩:=eH h4;have e0:(cs.drop 0).take 1=[.string key]:=e0;have e2:(cs.drop 10).take 1=[.bool snap]:=e2;refine⟨⟨key,Rj,snap,av,⟨a,b,c⟩⟩,?_,trivial⟩;have a0:=lf cs 0 1;rw[e0] at a0;have a1:=lf cs 1 9;rw[e1] at a1;have a2:=lf cs 10 1;rw[e2] at a2;have a3:=lf cs 11 9;rw[e3] at a3;have a4:=lf cs 20 3;rw[e4,show cs.drop (20+3)=[] from drop_eq_nil_of_le (by omega),append_nil] at a4;rw[drop_zero] at a0;rw[a0,show 0+1=1 from rfl,a1,show 1+9=10 from rfl,a2,show 10+1=11 from rfl,a3,show 11+9=20 from rfl,a4];rfl
set_option maxRecDepth 100000 in
theorem gC(os:Os)(started:os.Started)(H:Type)(enc:TypeId×Value->H):
  ReturnsInHanded {} checked os 5 .any (Rows.nodeServesSpec.pre6 enc prog f5 Rows.nodeServesRow.domain false) (Rows.nodeServesSpec.post enc prog f5 false true false false):=by
 refine Vr (C:=checked) (tb:=4) Tryz.own started (by kernel_rfl) func5
  (ChangeSpec.witness6 (enc:=enc) (C:=checked) false ⟨#[], #[.agg #[.int .i64 0,.int .i64 0,.int .i64 0,.int .i64 0],.int .i64 0,.slice none 0 0,.agg (List.toArray (Qy.enc ⟨ByteArray.empty,V9.z,false,V9.z,V3.z⟩)),.int .i64 0,.int .i64 0],[]⟩ 8 (by kernel_rfl) (by kernel_rfl) (by kernel_rfl) (by kernel_rfl))
  Tryz.laidOut (by kernel_rfl) rfl underlying4 rfl (λds hd=>match ds,hd with|[_,_,_,_,_,_],_=>⟨rfl,rfl,rfl⟩) ?_
 intro W base args ds p Gw iX aJ;have hval:∀(j:Nat) t v,f5.params[j]? =some t->args[j]? =some v->Value.okWide prog W .any base t v:=Gw;have hA:DataW.TrodAll enc prog W 0 (λ_=>true) true f5.params.toList args.toList ds p:=iX;have lC:∀l∈DataW.weightsEach prog f5.params.toList ds,l<=reachBytes:=aJ;clear Gw iX aJ;rw[params5] at hA hval lC;obtain⟨v0,v1,v2,v3,v4,v5,d0,d1,d2,d3,d4,d5,rfl,rfl,⟨p0,h0⟩,⟨p1,h1⟩,⟨p2,h2⟩,⟨p3,h3⟩,⟨p4,h4⟩,⟨p5,h5⟩⟩:=Boa hA;obtain⟨l,rfl,_⟩:=Lk 0 FL (hval 0 23 v0 rfl rfl) h0 (xe lC (i:=0) rfl rfl);obtain⟨nd,rfl,_⟩:=Vx (hval 1 3 v1 rfl rfl) h1;obtain⟨xs,hx,hxz,Wx⟩:=Gv (by kernel_rfl) GL (hval 2 24 v2 rfl rfl) h2 (xe lC (i:=2) rfl rfl);obtain⟨q,rfl,_⟩:=Lk 0 Coa (hval 3 82 v3 rfl rfl) h3 (xe lC (i:=3) rfl rfl);obtain⟨op,rfl,_⟩:=Vx (hval 4 3 v4 rfl rfl) h4;obtain⟨tr,rfl,_⟩:=Vx (hval 5 3 v5 rfl rfl) h5;exact Hv (ooa hx.rs (HL Wx) hxz q op tr)
def poa:(Rows.nodeServesRow.inPlace==prog.inPlace 5)=true:=by kernel_rfl
def qoa:(Rows.nodeServesRow.unfollowed==prog.unfollowed 5)=true:=by kernel_rfl
def roa:(Rows.nodeServesRow.recurses==prog.recurses 5)=true:=by kernel_rfl
def soa:(Rows.nodeServesRow.named==prog.varsNamed 5)=true:=by kernel_rfl
def toa:laidOutB prog=true:=by kernel_rfl
def uoa:mapsRowed prog=true:=by kernel_rfl
def voa:(Rows.nodeServesRow.plainKeys==prog.plainKeys)=true:=by kernel_rfl
def woa:(Rows.nodeServesRow.lifted==prog.liftsFinal)=true:=by kernel_rfl
def xoa:prog.stopsHeard=true:=by kernel_rfl
def iC:joinedFacts prog 5 f5 Rows.nodeServesSpec Rows.nodeServesRow=true:=by
 unfold joinedFacts;rw[poa,qoa,roa,soa,toa,uoa,voa,woa,xoa]
 kernel_rfl
theorem nodeServes_holds:Rows.NodeServesSaid:=
 OpenClaim.holds_of_wide 5 f5 rfl rfl rfl rfl rfl rfl rfl ⟨rfl,rfl,rfl,rfl,rfl⟩ rfl rfl rfl rfl rfl (by kernel_rfl) func5 iC
  (of_decide_eq_true (by kernel_rfl)) (by unfold Func.isWrapper;first|(rw[if_pos (by decide+kernel)];kernel_rfl)|(rw[if_neg (by decide+kernel)];exact⟨rfl,rfl⟩))
  (λos started H enc _=>gC os started H enc)
end Go.Proofs.YthebagfahkebiaaGreat
