/- Texts of one road. -/
import Derived.Test.YthebagfahkebiaaGreatQAI
set_option linter.all false
set_option maxHeartbeats 8000000
set_option maxRecDepth 20000
namespace Go.Proofs.YthebagfahkebiaaGreat
open Go Go.Sl Go.Proofs.Tryz List
def Jx(e:ya):Ct prog 156 [.agg (List.toArray e.enc)] [] (λr H'=>r= .bool (decide (Xc e))/\H'=[]):=by
 have hch:=Xj e.dc e.rg;have hst:=bF e.ct e.sd e.sr;have uG:=aO e.dp;refine ce func156 λg R=>?_;simp only[can];by_cases c1:Qb e.dc e.rg;rw[decide_eq_true c1] at hch;by_cases c2:1<=e.sq;by_cases c3:e.sq<=1099511627776;by_cases c4:Xh e.ct e.sd e.sr;rw[decide_eq_true c4] at hst;by_cases c5:e.sd=e.dc;by_cases c6:e.sr=e.rg;by_cases c7:1<=(e.key.size:Int);by_cases c8:(e.key.size:Int)<=16;by_cases c9:(e.val.size:Int)<=32
 .obtain⟨d1,d2,d3,d4⟩:=c1;have hb:e.dc.toNat*3+e.rg.toNat<9:=by omega
  obtain⟨y,hy⟩:∃y,e.dp.at (e.dc.toNat*3+e.rg.toNat)=y:=⟨_,rfl⟩
  have g1:e.enc[0+9+e.dc.toNat*3+e.rg.toNat*1]? =some (.int .i64 y):=by
   rw[<-hy,show 0+9+e.dc.toNat*3+e.rg.toNat*1=9+(e.dc.toNat*3+e.rg.toNat) by omega,<-List.getElem?_drop,show e.enc.drop 9=e.dp.enc++[.int .i64 e.cl,.int .i64 e.op] from rfl,List.getElem?_append_left (by show _<9;exact hb),V9.Vd _ hb]
  cases hd:e.dead with
  |false=>
   by_cases q1:Ri e.dp;rw[decide_eq_true q1] at uG;by_cases q2:y=e.sq - 1;by_cases k1:0<=e.cl;by_cases k2:e.cl<4;by_cases k3:1<=e.op;by_cases k4:e.op<=1099511627776
   .have hyes:Xc e:=⟨⟨d1,d2,d3,d4⟩,⟨c2,c3⟩,c4,c5,c6,⟨by omega,by omega⟩,by omega,(λh=>by rw[hd] at h;cases h),q1,by rw[hy];exact q2,⟨k1,k2⟩,⟨k3,k4⟩⟩;repeat' first|refine ga ?_|refine gS (λ_=>?_) λ_=>?_|refine bx rfl λ_=>?_|refine al λ_=>?_|refine cq hch ?_|refine cq hst ?_|refine Pa (t:=42) e.enc [.int .i64 e.dc,.int .i64 e.rg,.int .i64 e.sq] rfl ?_|refine Pa (t:=44) e.enc [.int .i64 e.ct,.int .i64 e.sd,.int .i64 e.sr] rfl ?_|refine ud [.int .i64 0,.int .i64 0,.int .i64 0] [.int .i64 e.dc,.int .i64 e.rg,.int .i64 e.sq] rfl rfl ?_
    rw[hd];repeat' first|refine ga ?_|refine gS (λ_=>?_) λ_=>?_|refine bx rfl λ_=>?_|refine al λ_=>?_|refine cq hch ?_|refine cq hst ?_|refine Pa (t:=42) e.enc [.int .i64 e.dc,.int .i64 e.rg,.int .i64 e.sq] rfl ?_|refine Pa (t:=44) e.enc [.int .i64 e.ct,.int .i64 e.sd,.int .i64 e.sr] rfl ?_|refine ud [.int .i64 0,.int .i64 0,.int .i64 0] [.int .i64 e.dc,.int .i64 e.rg,.int .i64 e.sq] rfl rfl ?_
    rename_i b1 b3;refine W.hp (H':=[[(b3,.cells (List.toArray [.int .i64 e.dc,.int .i64 e.rg,.int .i64 e.sq]) 42 (0,0))],Fb b1 e,R]) rfl ?_;refine wq ?_;repeat' first|refine ga ?_|refine gS (λ_=>?_) λ_=>?_|refine bx rfl λ_=>?_|refine al λ_=>?_|refine cq uG ?_|refine Pa (t:=47) e.enc e.dp.enc rfl ?_|refine lN e.enc _ rfl ?_ (hc:=g1)
    exact Wa [] rfl rfl ⟨by rw[decide_eq_true hyes];simp[k4],rfl⟩
   all_goals
    have hno: ¬Xc e:=by first|exact λh=>q1 h.dp|exact λh=>q2 (hy▸h.own)|exact λh=>k1 h.cl.1|exact λh=>k2 h.cl.2|exact λh=>k3 h.op.1|exact λh=>k4 h.op.2
    try rw[decide_eq_false q1] at uG
    repeat' first|refine ga ?_|refine gS (λ_=>?_) λ_=>?_|refine bx rfl λ_=>?_|refine al λ_=>?_|refine cq hch ?_|refine cq hst ?_|refine Pa (t:=42) e.enc [.int .i64 e.dc,.int .i64 e.rg,.int .i64 e.sq] rfl ?_|refine Pa (t:=44) e.enc [.int .i64 e.ct,.int .i64 e.sd,.int .i64 e.sr] rfl ?_|refine ud [.int .i64 0,.int .i64 0,.int .i64 0] [.int .i64 e.dc,.int .i64 e.rg,.int .i64 e.sq] rfl rfl ?_
    rw[hd];repeat' first|refine ga ?_|refine gS (λ_=>?_) λ_=>?_|refine bx rfl λ_=>?_|refine al λ_=>?_|refine cq hch ?_|refine cq hst ?_|refine Pa (t:=42) e.enc [.int .i64 e.dc,.int .i64 e.rg,.int .i64 e.sq] rfl ?_|refine Pa (t:=44) e.enc [.int .i64 e.ct,.int .i64 e.sd,.int .i64 e.sr] rfl ?_|refine ud [.int .i64 0,.int .i64 0,.int .i64 0] [.int .i64 e.dc,.int .i64 e.rg,.int .i64 e.sq] rfl rfl ?_
    rename_i b1 b3;refine W.hp (H':=[[(b3,.cells (List.toArray [.int .i64 e.dc,.int .i64 e.rg,.int .i64 e.sq]) 42 (0,0))],Fb b1 e,R]) rfl ?_;refine wq ?_;repeat' first|refine ga ?_|refine gS (λ_=>?_) λ_=>?_|refine bx rfl λ_=>?_|refine al λ_=>?_|refine cq uG ?_|refine Pa (t:=47) e.enc e.dp.enc rfl ?_|refine lN e.enc _ rfl ?_ (hc:=g1)
    exact Wa [] rfl rfl ⟨by rw[decide_eq_false hno];first|done|simp[k4],rfl⟩
  |true=>
   by_cases hv:e.val=⟨#[]⟩
   .have IQ: ¬ ¬e.val=⟨#[]⟩:=λh=>h hv;by_cases q1:Ri e.dp;rw[decide_eq_true q1] at uG;by_cases q2:y=e.sq - 1;by_cases k1:0<=e.cl;by_cases k2:e.cl<4;by_cases k3:1<=e.op;by_cases k4:e.op<=1099511627776
    .have hyes:Xc e:=⟨⟨d1,d2,d3,d4⟩,⟨c2,c3⟩,c4,c5,c6,⟨by omega,by omega⟩,by omega,(λ_=>hv),q1,by rw[hy];exact q2,⟨k1,k2⟩,⟨k3,k4⟩⟩;repeat' first|refine ga ?_|refine gS (λ_=>?_) λ_=>?_|refine bx rfl λ_=>?_|refine al λ_=>?_|refine cq hch ?_|refine cq hst ?_|refine Pa (t:=42) e.enc [.int .i64 e.dc,.int .i64 e.rg,.int .i64 e.sq] rfl ?_|refine Pa (t:=44) e.enc [.int .i64 e.ct,.int .i64 e.sd,.int .i64 e.sr] rfl ?_|refine ud [.int .i64 0,.int .i64 0,.int .i64 0] [.int .i64 e.dc,.int .i64 e.rg,.int .i64 e.sq] rfl rfl ?_
     rw[hd];repeat' first|refine ga ?_|refine gS (λ_=>?_) λ_=>?_|refine bx rfl λ_=>?_|refine al λ_=>?_|refine cq hch ?_|refine cq hst ?_|refine Pa (t:=42) e.enc [.int .i64 e.dc,.int .i64 e.rg,.int .i64 e.sq] rfl ?_|refine Pa (t:=44) e.enc [.int .i64 e.ct,.int .i64 e.sd,.int .i64 e.sr] rfl ?_|refine ud [.int .i64 0,.int .i64 0,.int .i64 0] [.int .i64 e.dc,.int .i64 e.rg,.int .i64 e.sq] rfl rfl ?_
     rename_i b1 b3;refine W.hp (H':=[[(b3,.cells (List.toArray [.int .i64 e.dc,.int .i64 e.rg,.int .i64 e.sq]) 42 (0,0))],Fb b1 e,R]) rfl ?_;refine wq ?_;repeat' first|refine ga ?_|refine gS (λ_=>?_) λ_=>?_|refine bx rfl λ_=>?_|refine al λ_=>?_|refine cq uG ?_|refine Pa (t:=47) e.enc e.dp.enc rfl ?_|refine lN e.enc _ rfl ?_ (hc:=g1)
     exact Wa [] rfl rfl ⟨by rw[decide_eq_true hyes];simp[k4],rfl⟩
    all_goals
     have hno: ¬Xc e:=by first|exact λh=>q1 h.dp|exact λh=>q2 (hy▸h.own)|exact λh=>k1 h.cl.1|exact λh=>k2 h.cl.2|exact λh=>k3 h.op.1|exact λh=>k4 h.op.2
     try rw[decide_eq_false q1] at uG
     repeat' first|refine ga ?_|refine gS (λ_=>?_) λ_=>?_|refine bx rfl λ_=>?_|refine al λ_=>?_|refine cq hch ?_|refine cq hst ?_|refine Pa (t:=42) e.enc [.int .i64 e.dc,.int .i64 e.rg,.int .i64 e.sq] rfl ?_|refine Pa (t:=44) e.enc [.int .i64 e.ct,.int .i64 e.sd,.int .i64 e.sr] rfl ?_|refine ud [.int .i64 0,.int .i64 0,.int .i64 0] [.int .i64 e.dc,.int .i64 e.rg,.int .i64 e.sq] rfl rfl ?_
     rw[hd];repeat' first|refine ga ?_|refine gS (λ_=>?_) λ_=>?_|refine bx rfl λ_=>?_|refine al λ_=>?_|refine cq hch ?_|refine cq hst ?_|refine Pa (t:=42) e.enc [.int .i64 e.dc,.int .i64 e.rg,.int .i64 e.sq] rfl ?_|refine Pa (t:=44) e.enc [.int .i64 e.ct,.int .i64 e.sd,.int .i64 e.sr] rfl ?_|refine ud [.int .i64 0,.int .i64 0,.int .i64 0] [.int .i64 e.dc,.int .i64 e.rg,.int .i64 e.sq] rfl rfl ?_
     rename_i b1 b3;refine W.hp (H':=[[(b3,.cells (List.toArray [.int .i64 e.dc,.int .i64 e.rg,.int .i64 e.sq]) 42 (0,0))],Fb b1 e,R]) rfl ?_;refine wq ?_;repeat' first|refine ga ?_|refine gS (λ_=>?_) λ_=>?_|refine bx rfl λ_=>?_|refine al λ_=>?_|refine cq uG ?_|refine Pa (t:=47) e.enc e.dp.enc rfl ?_|refine lN e.enc _ rfl ?_ (hc:=g1)
     exact Wa [] rfl rfl ⟨by rw[decide_eq_false hno];first|done|simp[k4],rfl⟩
   .have hno: ¬Xc e:=λh=>hv (h.dead hd);repeat' first|refine ga ?_|refine gS (λ_=>?_) λ_=>?_|refine bx rfl λ_=>?_|refine al λ_=>?_|refine cq hch ?_|refine cq hst ?_|refine Pa (t:=42) e.enc [.int .i64 e.dc,.int .i64 e.rg,.int .i64 e.sq] rfl ?_|refine Pa (t:=44) e.enc [.int .i64 e.ct,.int .i64 e.sd,.int .i64 e.sr] rfl ?_|refine ud [.int .i64 0,.int .i64 0,.int .i64 0] [.int .i64 e.dc,.int .i64 e.rg,.int .i64 e.sq] rfl rfl ?_
    rw[hd];repeat' first|refine ga ?_|refine gS (λ_=>?_) λ_=>?_|refine bx rfl λ_=>?_|refine al λ_=>?_|refine cq hch ?_|refine cq hst ?_|refine Pa (t:=42) e.enc [.int .i64 e.dc,.int .i64 e.rg,.int .i64 e.sq] rfl ?_|refine Pa (t:=44) e.enc [.int .i64 e.ct,.int .i64 e.sd,.int .i64 e.sr] rfl ?_|refine ud [.int .i64 0,.int .i64 0,.int .i64 0] [.int .i64 e.dc,.int .i64 e.rg,.int .i64 e.sq] rfl rfl ?_
    exact Wa [] rfl rfl ⟨by rw[decide_eq_false hno],rfl⟩
 all_goals
  have hno: ¬Xc e:=by first|exact λh=>c1 h.ch|exact λh=>c2 h.sq.1|exact λh=>c3 h.sq.2|exact λh=>c4 h.st|exact λh=>c5 h.sd|exact λh=>c6 h.sr|exact λh=>c7 (by have:=h.key.1;omega)|exact λh=>c8 (by have:=h.key.2;omega)|exact λh=>c9 (by have:=h.val;omega)
  try rw[decide_eq_false c1] at hch
  try rw[decide_eq_false c4] at hst
  repeat' first|refine ga ?_|refine gS (λ_=>?_) λ_=>?_|refine bx rfl λ_=>?_|refine al λ_=>?_|refine cq hch ?_|refine cq hst ?_|refine Pa (t:=42) e.enc [.int .i64 e.dc,.int .i64 e.rg,.int .i64 e.sq] rfl ?_|refine Pa (t:=44) e.enc [.int .i64 e.ct,.int .i64 e.sd,.int .i64 e.sr] rfl ?_|refine ud [.int .i64 0,.int .i64 0,.int .i64 0] [.int .i64 e.dc,.int .i64 e.rg,.int .i64 e.sq] rfl rfl ?_
  exact Wa [] rfl rfl ⟨by rw[decide_eq_false hno],rfl⟩
end Go.Proofs.YthebagfahkebiaaGreat
namespace Go.Sl
open Go
section
variable{g:World}{P:Program}{ops:Array Oper}{Q:Exit->Act->World->Prop}{q:Bool}{n d ty:Nat}{pos:String}{af:Array Edge}{rest:List Oper}{L:Fm}{H:HH}{x y z:Operand}
def WX.KQ{i j k:Int}{kd:IntKind}{ts:Array TypeId}(hx:ev L x=some (.int kd i))(hy:ev L y=some (.int kd j))(hz:ev L z=some (.int kd k))(hd:Nat.blt d n=true)
  (kk:WX q g P ops Q n rest ((d,.int kd (if k>(if j>i then j else i) then k else(if j>i then j else i)))::L) H):
  WX q g P ops Q n (⟨some d,.call ⟨.builtin .max, #[x,y,z],ts⟩,ty,pos,af,none⟩::rest) L H:=
 WX.val (λa ha w _=>Jm (args:=[x,y,z]) (by simp[ha.ev hx,ha.ev hy,ha.ev hz];rfl) (by simp[builtin,Builtin.max_,Builtin.max2])) hd kk
end
end Go.Sl
namespace Go.Proofs.YthebagfahkebiaaGreat
open Go Go.Sl Go.Proofs.Tryz List
def Fy(s:CS)(b:Nat)(H':HH):Prop:=∃v hv,H'=[oa b s v,hv]/\ia 49 s.lg v hv
def LQ{s:CS}(ok:Lb s)(b:Nat){v:Value}{hv:Hp}(hs:ia 49 s.lg v hv):Ct prog 164 [b] [oa b s v,hv] (λr H'=>r= .tuple #[]/\Fy s.sync b H'):=by
 have hr:=hs.rs;have ZA:=Te (s:={s with du:=s.len}) ok.co b v;have Su:s.sync.lg=s.lg:=(Ja ({s with du:=s.len}:CS)).2.2.2.2.2.2.1;refine wj func164 λg R=>?_;refine Wh (s.cells v) (CS.cells {s with du:=s.len} v) ?_;try refine ga ?_
 refine ck ZA ?_;rintro _ _ ⟨rfl,rfl⟩;refine vb ?_;exact D.Bc [oa b (CS.settle {s with du:=s.len}) v,hv] _ rfl ⟨rfl,v,hv,rfl,by rw[Su];exact hs⟩
def wG(s:CS)(e:ya):(s.push e).settle.lg=s.lg++[e]:=(Ja (s.push e)).2.2.2.2.2.2.1
def MQ{s:CS}(ok:Lb s)(b:Nat){v:Value}{hv:Hp}(hs:ia 49 s.lg v hv)(fr ep ix:Int)(e:ya):
  Ct prog 146 [b,fr,ep,ix,.agg (List.toArray e.enc)] [oa b s v,hv] (λr H'=>r= .bool (s.take fr ep ix e).1/\Fy (s.take fr ep ix e).2 b H'):=by
 have hr:=hs.rs;have xG:=xy ok.co s.nd;have kj:=Jx e;have jg:=ok.len;have hlen:s.len=(s.lg.length:Int):=rfl;by_cases hT:s.takes fr ep ix e
 .have e0:s.take fr ep ix e=(true,(s.push e).settle):=if_pos hT;rw[e0];obtain⟨t1,t2,t3,t4,t5,t6⟩:=hT;rw[Fi t5] at kj;generalize Ed s.co s.nd=ah at xG t3;have ZA:=λv'=>Te (s:=s.push e) ok.co b v';refine ce func146 λg R=>?_;repeat' first|refine vb ?_|refine Ud λ_=>?_
  rename_i b9;refine wq ?_;repeat' first|refine ga ?_|refine Of (t:=40) (s.cells v) (Yb s.co).enc ?_|refine Of (t:=49) e.enc e.enc ?_|refine cq xG ?_|refine cq kj ?_
  refine sK (ml [6,2]) [oa b s v,Fb b9 e] ?_;repeat' first|refine ga ?_|refine Of (t:=49) e.enc e.enc ?_
  refine Kp [e] (λv2 h2 Oa=>?_);try refine ga ?_
  refine Ys (zb:=by simp only[Gb,jd];omega) hs Oa.rs (λv3 h3 Fc=>?_);obtain⟨p3,c3,e3⟩:=Fc.rs.len;subst e3;try refine ga ?_
  refine Wh (s.cells v) (CS.cells (s.push e) (.slice p3 (s.lg++[e]).length c3)) ?_;try refine ga ?_
  refine ck (ZA (.slice p3 (s.lg++[e]).length c3)) ?_;rintro _ _ ⟨rfl,rfl⟩;refine vb ?_;exact Wa [oa b (s.push e).settle (.slice p3 (s.lg++[e]).length c3),h3] rfl rfl ⟨rfl,_,h3,rfl,by rw[wG];exact Fc⟩
 .have e0:s.take fr ep ix e=(false,s):=if_neg hT;rw[e0];refine ce func146 λg R=>?_;repeat' first|refine vb ?_|refine Ud λ_=>?_
  refine wq ?_;by_cases t1:ep=(Yb s.co).ep;rotate_left
  .try refine ga ?_
   exact Wa [oa b s v,hv] rfl rfl ⟨rfl,v,hv,rfl,hs⟩
  by_cases t2:0<=fr;rotate_left
  .try refine ga ?_
   exact Wa [oa b s v,hv] rfl rfl ⟨rfl,v,hv,rfl,hs⟩
  by_cases t3:fr=Ed s.co s.nd;rotate_left
  .repeat' first|refine ga ?_|refine Of (t:=40) (s.cells v) (Yb s.co).enc ?_|refine cq xG ?_
   exact Wa [oa b s v,hv] rfl rfl ⟨rfl,v,hv,rfl,hs⟩
  by_cases t4:ix=s.len+1;rotate_left
  .repeat' first|refine ga ?_|refine Of (t:=40) (s.cells v) (Yb s.co).enc ?_|refine cq xG ?_
   exact Wa [oa b s v,hv] rfl rfl ⟨rfl,v,hv,rfl,hs⟩
  by_cases t5:Xc e;rotate_left
  .rw[gj t5] at kj;repeat' first|refine ga ?_|refine Of (t:=40) (s.cells v) (Yb s.co).enc ?_|refine Of (t:=49) e.enc e.enc ?_|refine cq xG ?_|refine cq kj ?_
   exact Wa [oa b s v,hv] rfl rfl ⟨rfl,v,hv,rfl,hs⟩
  by_cases t6:s.len<256
  .exact absurd ⟨t1,t2,t3,t4,t5,t6⟩ hT
  .rw[Fi t5] at kj;repeat' first|refine ga ?_|refine Of (t:=40) (s.cells v) (Yb s.co).enc ?_|refine Of (t:=49) e.enc e.enc ?_|refine cq xG ?_|refine cq kj ?_
   exact Wa [oa b s v,hv] rfl rfl ⟨rfl,v,hv,rfl,hs⟩
end Go.Proofs.YthebagfahkebiaaGreat
