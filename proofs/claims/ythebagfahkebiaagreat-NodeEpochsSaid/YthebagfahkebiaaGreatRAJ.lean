/- Texts of one road. -/
import Derived.Test.YthebagfahkebiaaGreatRAI
set_option linter.all false
set_option maxHeartbeats 8000000
set_option maxRecDepth 20000
namespace Go.Proofs.YthebagfahkebiaaGreat
open Go Go.Sl Go.Proofs.Tryz List
def Yx(e:ya):Ct prog 156 [.agg (List.toArray e.enc)] [] (λr H'=>r= .bool (decide (ud e))/\H'=[]):=by
 have hch:=fk e.dc e.rg;have hst:=kF e.ct e.sd e.sr;have yG:=sO e.dp;refine ce func156 λg R=>?_;simp only[can];by_cases c1:Tb e.dc e.rg;rw[Mi c1] at hch;by_cases c2:1<=e.sq;by_cases c3:e.sq<=1099511627776;by_cases c4:ki e.ct e.sd e.sr;rw[Mi c4] at hst;by_cases c5:e.sd=e.dc;by_cases c6:e.sr=e.rg;by_cases c7:1<=(e.key.size:Int);by_cases c8:(e.key.size:Int)<=16;by_cases c9:(e.val.size:Int)<=32
 .obtain⟨d1,d2,d3,d4⟩:=c1;have hb:e.dc.toNat*3+e.rg.toNat<9:=by omega
  obtain⟨y,hy⟩:∃y,e.dp.at (e.dc.toNat*3+e.rg.toNat)=y:=⟨_,rfl⟩
  have g1:e.enc[0+9+e.dc.toNat*3+e.rg.toNat*1]? =some (.int .i64 y):=by
   rw[<-hy,show 0+9+e.dc.toNat*3+e.rg.toNat*1=9+(e.dc.toNat*3+e.rg.toNat) by omega,<-List.getElem?_drop,show e.enc.drop 9=e.dp.enc++[.int .i64 e.cl,.int .i64 e.op] from rfl,List.getElem?_append_left (by show _<9;exact hb),V9.Wd _ hb]
  cases hd:e.dead with
  |false=>
   by_cases q1:Xi e.dp;rw[Mi q1] at yG;by_cases q2:y=e.sq - 1;by_cases k1:0<=e.cl;by_cases k2:e.cl<4;by_cases k3:1<=e.op;by_cases k4:e.op<=1099511627776
   .have hyes:ud e:=⟨⟨d1,d2,d3,d4⟩,⟨c2,c3⟩,c4,c5,c6,⟨by omega,by omega⟩,by omega,(λh=>by rw[hd] at h;cases h),q1,by rw[hy];exact q2,⟨k1,k2⟩,⟨k3,k4⟩⟩;repeat' first|refine ga ?_|refine gS (λ_=>?_) λ_=>?_|refine Uc λ_=>?_|refine al λ_=>?_|refine cq hch ?_|refine cq hst ?_|refine Xf (t:=42) e.enc [e.dc,e.rg,e.sq] ?_|refine Xf (t:=44) e.enc [e.ct,e.sd,e.sr] ?_|refine xg [.int .i64 0,.int .i64 0,.int .i64 0] [e.dc,e.rg,e.sq] ?_
    rw[hd];repeat' first|refine ga ?_|refine gS (λ_=>?_) λ_=>?_|refine Uc λ_=>?_|refine al λ_=>?_|refine cq hch ?_|refine cq hst ?_|refine Xf (t:=42) e.enc [e.dc,e.rg,e.sq] ?_|refine Xf (t:=44) e.enc [e.ct,e.sd,e.sr] ?_|refine xg [.int .i64 0,.int .i64 0,.int .i64 0] [e.dc,e.rg,e.sq] ?_
    rename_i b1 b3;refine W.h0 [[(b3,.cells (List.toArray [e.dc,e.rg,e.sq]) 42 (0,0))],Gb b1 e,R] ?_;refine wq ?_;repeat' first|refine ga ?_|refine gS (λ_=>?_) λ_=>?_|refine Uc λ_=>?_|refine al λ_=>?_|refine cq yG ?_|refine Xf (t:=47) e.enc e.dp.enc ?_|refine lN e.enc _ rfl ?_ (hc:=g1)
    exact Xa [] rfl rfl ⟨by rw[Mi hyes];simp[k4],rfl⟩
   all_goals
    have hno: ¬ud e:=by first|exact λh=>q1 h.dp|exact λh=>q2 (hy▸h.own)|exact λh=>k1 h.cl.1|exact λh=>k2 h.cl.2|exact λh=>k3 h.op.1|exact λh=>k4 h.op.2
    try rw[rj q1] at yG
    repeat' first|refine ga ?_|refine gS (λ_=>?_) λ_=>?_|refine Uc λ_=>?_|refine al λ_=>?_|refine cq hch ?_|refine cq hst ?_|refine Xf (t:=42) e.enc [e.dc,e.rg,e.sq] ?_|refine Xf (t:=44) e.enc [e.ct,e.sd,e.sr] ?_|refine xg [.int .i64 0,.int .i64 0,.int .i64 0] [e.dc,e.rg,e.sq] ?_
    rw[hd];repeat' first|refine ga ?_|refine gS (λ_=>?_) λ_=>?_|refine Uc λ_=>?_|refine al λ_=>?_|refine cq hch ?_|refine cq hst ?_|refine Xf (t:=42) e.enc [e.dc,e.rg,e.sq] ?_|refine Xf (t:=44) e.enc [e.ct,e.sd,e.sr] ?_|refine xg [.int .i64 0,.int .i64 0,.int .i64 0] [e.dc,e.rg,e.sq] ?_
    rename_i b1 b3;refine W.h0 [[(b3,.cells (List.toArray [e.dc,e.rg,e.sq]) 42 (0,0))],Gb b1 e,R] ?_;refine wq ?_;repeat' first|refine ga ?_|refine gS (λ_=>?_) λ_=>?_|refine Uc λ_=>?_|refine al λ_=>?_|refine cq yG ?_|refine Xf (t:=47) e.enc e.dp.enc ?_|refine lN e.enc _ rfl ?_ (hc:=g1)
    exact Xa [] rfl rfl ⟨by rw[rj hno];first|done|simp[k4],rfl⟩
  |true=>
   by_cases hv:e.val=⟨#[]⟩
   .have NM: ¬ ¬e.val=⟨#[]⟩:=λh=>h hv;by_cases q1:Xi e.dp;rw[Mi q1] at yG;by_cases q2:y=e.sq - 1;by_cases k1:0<=e.cl;by_cases k2:e.cl<4;by_cases k3:1<=e.op;by_cases k4:e.op<=1099511627776
    .have hyes:ud e:=⟨⟨d1,d2,d3,d4⟩,⟨c2,c3⟩,c4,c5,c6,⟨by omega,by omega⟩,by omega,(λ_=>hv),q1,by rw[hy];exact q2,⟨k1,k2⟩,⟨k3,k4⟩⟩;repeat' first|refine ga ?_|refine gS (λ_=>?_) λ_=>?_|refine Uc λ_=>?_|refine al λ_=>?_|refine cq hch ?_|refine cq hst ?_|refine Xf (t:=42) e.enc [e.dc,e.rg,e.sq] ?_|refine Xf (t:=44) e.enc [e.ct,e.sd,e.sr] ?_|refine xg [.int .i64 0,.int .i64 0,.int .i64 0] [e.dc,e.rg,e.sq] ?_
     rw[hd];repeat' first|refine ga ?_|refine gS (λ_=>?_) λ_=>?_|refine Uc λ_=>?_|refine al λ_=>?_|refine cq hch ?_|refine cq hst ?_|refine Xf (t:=42) e.enc [e.dc,e.rg,e.sq] ?_|refine Xf (t:=44) e.enc [e.ct,e.sd,e.sr] ?_|refine xg [.int .i64 0,.int .i64 0,.int .i64 0] [e.dc,e.rg,e.sq] ?_
     rename_i b1 b3;refine W.h0 [[(b3,.cells (List.toArray [e.dc,e.rg,e.sq]) 42 (0,0))],Gb b1 e,R] ?_;refine wq ?_;repeat' first|refine ga ?_|refine gS (λ_=>?_) λ_=>?_|refine Uc λ_=>?_|refine al λ_=>?_|refine cq yG ?_|refine Xf (t:=47) e.enc e.dp.enc ?_|refine lN e.enc _ rfl ?_ (hc:=g1)
     exact Xa [] rfl rfl ⟨by rw[Mi hyes];simp[k4],rfl⟩
    all_goals
     have hno: ¬ud e:=by first|exact λh=>q1 h.dp|exact λh=>q2 (hy▸h.own)|exact λh=>k1 h.cl.1|exact λh=>k2 h.cl.2|exact λh=>k3 h.op.1|exact λh=>k4 h.op.2
     try rw[rj q1] at yG
     repeat' first|refine ga ?_|refine gS (λ_=>?_) λ_=>?_|refine Uc λ_=>?_|refine al λ_=>?_|refine cq hch ?_|refine cq hst ?_|refine Xf (t:=42) e.enc [e.dc,e.rg,e.sq] ?_|refine Xf (t:=44) e.enc [e.ct,e.sd,e.sr] ?_|refine xg [.int .i64 0,.int .i64 0,.int .i64 0] [e.dc,e.rg,e.sq] ?_
     rw[hd];repeat' first|refine ga ?_|refine gS (λ_=>?_) λ_=>?_|refine Uc λ_=>?_|refine al λ_=>?_|refine cq hch ?_|refine cq hst ?_|refine Xf (t:=42) e.enc [e.dc,e.rg,e.sq] ?_|refine Xf (t:=44) e.enc [e.ct,e.sd,e.sr] ?_|refine xg [.int .i64 0,.int .i64 0,.int .i64 0] [e.dc,e.rg,e.sq] ?_
     rename_i b1 b3;refine W.h0 [[(b3,.cells (List.toArray [e.dc,e.rg,e.sq]) 42 (0,0))],Gb b1 e,R] ?_;refine wq ?_;repeat' first|refine ga ?_|refine gS (λ_=>?_) λ_=>?_|refine Uc λ_=>?_|refine al λ_=>?_|refine cq yG ?_|refine Xf (t:=47) e.enc e.dp.enc ?_|refine lN e.enc _ rfl ?_ (hc:=g1)
     exact Xa [] rfl rfl ⟨by rw[rj hno];first|done|simp[k4],rfl⟩
   .have hno: ¬ud e:=λh=>hv (h.dead hd);repeat' first|refine ga ?_|refine gS (λ_=>?_) λ_=>?_|refine Uc λ_=>?_|refine al λ_=>?_|refine cq hch ?_|refine cq hst ?_|refine Xf (t:=42) e.enc [e.dc,e.rg,e.sq] ?_|refine Xf (t:=44) e.enc [e.ct,e.sd,e.sr] ?_|refine xg [.int .i64 0,.int .i64 0,.int .i64 0] [e.dc,e.rg,e.sq] ?_
    rw[hd];repeat' first|refine ga ?_|refine gS (λ_=>?_) λ_=>?_|refine Uc λ_=>?_|refine al λ_=>?_|refine cq hch ?_|refine cq hst ?_|refine Xf (t:=42) e.enc [e.dc,e.rg,e.sq] ?_|refine Xf (t:=44) e.enc [e.ct,e.sd,e.sr] ?_|refine xg [.int .i64 0,.int .i64 0,.int .i64 0] [e.dc,e.rg,e.sq] ?_
    exact Xa [] rfl rfl ⟨by rw[rj hno],rfl⟩
 all_goals
  have hno: ¬ud e:=by first|exact λh=>c1 h.ch|exact λh=>c2 h.sq.1|exact λh=>c3 h.sq.2|exact λh=>c4 h.st|exact λh=>c5 h.sd|exact λh=>c6 h.sr|exact λh=>c7 (by have:=h.key.1;omega)|exact λh=>c8 (by have:=h.key.2;omega)|exact λh=>c9 (by have:=h.val;omega)
  try rw[rj c1] at hch
  try rw[rj c4] at hst
  repeat' first|refine ga ?_|refine gS (λ_=>?_) λ_=>?_|refine Uc λ_=>?_|refine al λ_=>?_|refine cq hch ?_|refine cq hst ?_|refine Xf (t:=42) e.enc [e.dc,e.rg,e.sq] ?_|refine Xf (t:=44) e.enc [e.ct,e.sd,e.sr] ?_|refine xg [.int .i64 0,.int .i64 0,.int .i64 0] [e.dc,e.rg,e.sq] ?_
  exact Xa [] rfl rfl ⟨by rw[rj hno],rfl⟩
end Go.Proofs.YthebagfahkebiaaGreat
namespace Go.Sl
open Go
section
variable{g:World}{P:Program}{ops:Array Oper}{Q:Exit->Act->World->Prop}{q:Bool}{n d ty:Nat}{pos:String}{af:Array Edge}{rest:List Oper}{L:Fm}{H:HH}{x y z:Operand}
def WX.WQ{i j k:Int}{kd:IntKind}{ts:Array TypeId}(hx:ev L x=some (.int kd i))(hy:ev L y=some (.int kd j))(hz:ev L z=some (.int kd k))(hd:Nat.blt d n=true)
  (kk:WX q g P ops Q n rest ((d,.int kd (if k>(if j>i then j else i) then k else(if j>i then j else i)))::L) H):
  WX q g P ops Q n (⟨some d,.call ⟨.builtin .max, #[x,y,z],ts⟩,ty,pos,af,none⟩::rest) L H:=
 WX.val (λa ha w _=>Lm (args:=[x,y,z]) (by simp[ha.ev hx,ha.ev hy,ha.ev hz];rfl) (by simp[builtin,Builtin.max_,Builtin.max2])) hd kk
end
end Go.Sl
namespace Go.Proofs.YthebagfahkebiaaGreat
open Go Go.Sl Go.Proofs.Tryz List
def Wy(s:CS)(b:Nat)(H':HH):Prop:=∃v hv,H'=[ja b s v,hv]/\ia 49 s.lg v hv
def XQ{s:CS}(ok:Ob s)(b:Nat){v:Value}{hv:Hp}(hs:ia 49 s.lg v hv):Ct prog 164 [b] [ja b s v,hv] (λr H'=>r= .tuple #[]/\Wy s.sync b H'):=by
 have hr:=hs.rs;have ZA:=Ve (s:={s with du:=s.len}) ok.co b v;have vv:s.sync.lg=s.lg:=(Na ({s with du:=s.len}:CS)).2.2.2.2.2.2.1;refine ng func164 λg R=>?_;refine ei (s.cells v) (CS.cells {s with du:=s.len} v) ?_;try refine ga ?_
 refine ck ZA ?_;rintro _ _ ⟨rfl,rfl⟩;refine Za ?_;exact D.fc [ja b (CS.settle {s with du:=s.len}) v,hv] _ rfl ⟨rfl,v,hv,rfl,by rw[vv];exact hs⟩
def AG(s:CS)(e:ya):(s.push e).settle.lg=s.lg++[e]:=(Na (s.push e)).2.2.2.2.2.2.1
def YQ{s:CS}(ok:Ob s)(b:Nat){v:Value}{hv:Hp}(hs:ia 49 s.lg v hv)(fr ep ix:Int)(e:ya):
  Ct prog 146 [b,fr,ep,ix,.agg (List.toArray e.enc)] [ja b s v,hv] (λr H'=>r= .bool (s.take fr ep ix e).1/\Wy (s.take fr ep ix e).2 b H'):=by
 have hr:=hs.rs;have BG:=Ny ok.co s.nd;have ji:=Yx e;have tg:=ok.len;have hlen:s.len=(s.lg.length:Int):=rfl;by_cases hT:s.takes fr ep ix e
 .have e0:s.take fr ep ix e=(true,(s.push e).settle):=if_pos hT;rw[e0];obtain⟨t1,t2,t3,t4,t5,t6⟩:=hT;rw[Mi t5] at ji;generalize Nd s.co s.nd=ah at BG t3;have ZA:=λv'=>Ve (s:=s.push e) ok.co b v';refine ce func146 λg R=>?_;repeat' first|refine Za ?_|refine Uc λ_=>?_
  rename_i b9;refine wq ?_;repeat' first|refine ga ?_|refine Xf (t:=40) (s.cells v) (jc s.co).enc ?_|refine Xf (t:=49) e.enc e.enc ?_|refine cq BG ?_|refine cq ji ?_
  refine KK (ml [6,2]) [ja b s v,Gb b9 e] ?_;repeat' first|refine ga ?_|refine Xf (t:=49) e.enc e.enc ?_
  refine Up [e] (λv2 h2 Sa=>?_);try refine ga ?_
  refine Jt (zb:=by simp only[Ib,td];omega) hs Sa.rs (λv3 h3 Cc=>?_);obtain⟨p3,c3,e3⟩:=Cc.rs.len;subst e3;try refine ga ?_
  refine ei (s.cells v) (CS.cells (s.push e) (.slice p3 (s.lg++[e]).length c3)) ?_;try refine ga ?_
  refine ck (ZA (.slice p3 (s.lg++[e]).length c3)) ?_;rintro _ _ ⟨rfl,rfl⟩;refine Za ?_;exact Xa [ja b (s.push e).settle (.slice p3 (s.lg++[e]).length c3),h3] rfl rfl ⟨rfl,_,h3,rfl,by rw[AG];exact Cc⟩
 .have e0:s.take fr ep ix e=(false,s):=if_neg hT;rw[e0];refine ce func146 λg R=>?_;repeat' first|refine Za ?_|refine Uc λ_=>?_
  refine wq ?_;by_cases t1:ep=(jc s.co).ep;rotate_left
  .try refine ga ?_
   exact Xa [ja b s v,hv] rfl rfl ⟨rfl,v,hv,rfl,hs⟩
  by_cases t2:0<=fr;rotate_left
  .try refine ga ?_
   exact Xa [ja b s v,hv] rfl rfl ⟨rfl,v,hv,rfl,hs⟩
  by_cases t3:fr=Nd s.co s.nd;rotate_left
  .repeat' first|refine ga ?_|refine Xf (t:=40) (s.cells v) (jc s.co).enc ?_|refine cq BG ?_
   exact Xa [ja b s v,hv] rfl rfl ⟨rfl,v,hv,rfl,hs⟩
  by_cases t4:ix=s.len+1;rotate_left
  .repeat' first|refine ga ?_|refine Xf (t:=40) (s.cells v) (jc s.co).enc ?_|refine cq BG ?_
   exact Xa [ja b s v,hv] rfl rfl ⟨rfl,v,hv,rfl,hs⟩
  by_cases t5:ud e;rotate_left
  .rw[rj t5] at ji;repeat' first|refine ga ?_|refine Xf (t:=40) (s.cells v) (jc s.co).enc ?_|refine Xf (t:=49) e.enc e.enc ?_|refine cq BG ?_|refine cq ji ?_
   exact Xa [ja b s v,hv] rfl rfl ⟨rfl,v,hv,rfl,hs⟩
  by_cases t6:s.len<256
  .exact absurd ⟨t1,t2,t3,t4,t5,t6⟩ hT
  .rw[Mi t5] at ji;repeat' first|refine ga ?_|refine Xf (t:=40) (s.cells v) (jc s.co).enc ?_|refine Xf (t:=49) e.enc e.enc ?_|refine cq BG ?_|refine cq ji ?_
   exact Xa [ja b s v,hv] rfl rfl ⟨rfl,v,hv,rfl,hs⟩
end Go.Proofs.YthebagfahkebiaaGreat
