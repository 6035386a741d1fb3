/- Texts of one road. -/
import Derived.Test.YthebagfahkebiaaGreatRAQ
set_option linter.all false
set_option maxHeartbeats 8000000
set_option maxRecDepth 20000
namespace Go.Proofs.YthebagfahkebiaaGreat
open Go Go.Sl Go.Proofs.Tryz List
def Rt(e:ya):Ct prog 190 [.agg (List.toArray e.enc)] [] (λr H'=>r= .bool (decide (ud e))/\H'=[]):=by
 have hch:=uk e.dc e.rg e.sq;have hst:=Zy e.ct e.sd e.sr;have yG:=bL e.dp;refine ce func190 λg R=>?_;simp only[can];by_cases c1:Tb e.dc e.rg;rw[Mi c1] at hch;by_cases c2:1<=e.sq;by_cases c3:e.sq<=1099511627776;by_cases c4:ki e.ct e.sd e.sr;rw[Mi c4] at hst;by_cases c5:e.sd=e.dc;by_cases c6:e.sr=e.rg;by_cases c7:1<=(e.key.size:Int);by_cases c8:(e.key.size:Int)<=16;by_cases c9:(e.val.size:Int)<=32
 .obtain⟨d1,d2,d3,d4⟩:=c1;have hb:e.dc.toNat*3+e.rg.toNat<9:=by omega
  obtain⟨y,hy⟩:∃y,e.dp.at (e.dc.toNat*3+e.rg.toNat)=y:=⟨_,rfl⟩
  have g1:e.enc[0+9+e.dc.toNat*3+e.rg.toNat*1]? =some (.int .i64 y):=by
   rw[<-hy,show 0+9+e.dc.toNat*3+e.rg.toNat*1=9+(e.dc.toNat*3+e.rg.toNat) by omega,<-List.getElem?_drop,show e.enc.drop 9=e.dp.enc++[.int .i64 e.cl,.int .i64 e.op] from rfl,List.getElem?_append_left (by show _<9;exact hb),V9.Wd _ hb]
  cases hd:e.dead with
  |false=>
   by_cases q1:Xi e.dp;rw[Mi q1] at yG;by_cases q2:y=e.sq - 1;by_cases k1:0<=e.cl;by_cases k2:e.cl<4;by_cases k3:1<=e.op;by_cases k4:e.op<=1099511627776
   .have hyes:ud e:=⟨⟨d1,d2,d3,d4⟩,⟨c2,c3⟩,c4,c5,c6,⟨by omega,by omega⟩,by omega,(λh=>by rw[hd] at h;cases h),q1,by rw[hy];exact q2,⟨k1,k2⟩,⟨k3,k4⟩⟩;repeat' first|refine ga ?_|refine gS (λ_=>?_) λ_=>?_|refine Uc λ_=>?_|refine al λ_=>?_|refine cq hch ?_|refine cq hst ?_|refine Xf (t:=42) e.enc [e.dc,e.rg,e.sq] ?_|refine Xf (t:=44) e.enc [e.ct,e.sd,e.sr] ?_
    rw[hd];repeat' first|refine ga ?_|refine gS (λ_=>?_) λ_=>?_|refine Uc λ_=>?_|refine al λ_=>?_|refine cq hch ?_|refine cq hst ?_|refine Xf (t:=42) e.enc [e.dc,e.rg,e.sq] ?_|refine Xf (t:=44) e.enc [e.ct,e.sd,e.sr] ?_
    refine wq ?_;repeat' first|refine ga ?_|refine gS (λ_=>?_) λ_=>?_|refine Uc λ_=>?_|refine al λ_=>?_|refine cq hch ?_|refine cq hst ?_|refine cq yG ?_|refine Xf (t:=42) e.enc [e.dc,e.rg,e.sq] ?_|refine Xf (t:=44) e.enc [e.ct,e.sd,e.sr] ?_|refine Xf (t:=47) e.enc e.dp.enc ?_|refine lN e.enc _ rfl ?_ (hc:=g1)
    exact Xa [] rfl rfl ⟨by rw[Mi hyes];simp[k4],rfl⟩
   all_goals
    have hno: ¬ud e:=by first|exact λh=>q1 h.dp|exact λh=>q2 (hy▸h.own)|exact λh=>k1 h.cl.1|exact λh=>k2 h.cl.2|exact λh=>k3 h.op.1|exact λh=>k4 h.op.2
    try rw[rj q1] at yG
    repeat' first|refine ga ?_|refine gS (λ_=>?_) λ_=>?_|refine Uc λ_=>?_|refine al λ_=>?_|refine cq hch ?_|refine cq hst ?_|refine Xf (t:=42) e.enc [e.dc,e.rg,e.sq] ?_|refine Xf (t:=44) e.enc [e.ct,e.sd,e.sr] ?_
    rw[hd];repeat' first|refine ga ?_|refine gS (λ_=>?_) λ_=>?_|refine Uc λ_=>?_|refine al λ_=>?_|refine cq hch ?_|refine cq hst ?_|refine Xf (t:=42) e.enc [e.dc,e.rg,e.sq] ?_|refine Xf (t:=44) e.enc [e.ct,e.sd,e.sr] ?_
    refine wq ?_;repeat' first|refine ga ?_|refine gS (λ_=>?_) λ_=>?_|refine Uc λ_=>?_|refine al λ_=>?_|refine cq hch ?_|refine cq hst ?_|refine cq yG ?_|refine Xf (t:=42) e.enc [e.dc,e.rg,e.sq] ?_|refine Xf (t:=44) e.enc [e.ct,e.sd,e.sr] ?_|refine Xf (t:=47) e.enc e.dp.enc ?_|refine lN e.enc _ rfl ?_ (hc:=g1)
    exact Xa [] rfl rfl ⟨by rw[rj hno];first|done|simp[k4],rfl⟩
  |true=>
   by_cases hv:e.val=⟨#[]⟩
   .have NM: ¬ ¬e.val=⟨#[]⟩:=λh=>h hv;by_cases q1:Xi e.dp;rw[Mi q1] at yG;by_cases q2:y=e.sq - 1;by_cases k1:0<=e.cl;by_cases k2:e.cl<4;by_cases k3:1<=e.op;by_cases k4:e.op<=1099511627776
    .have hyes:ud e:=⟨⟨d1,d2,d3,d4⟩,⟨c2,c3⟩,c4,c5,c6,⟨by omega,by omega⟩,by omega,(λ_=>hv),q1,by rw[hy];exact q2,⟨k1,k2⟩,⟨k3,k4⟩⟩;repeat' first|refine ga ?_|refine gS (λ_=>?_) λ_=>?_|refine Uc λ_=>?_|refine al λ_=>?_|refine cq hch ?_|refine cq hst ?_|refine Xf (t:=42) e.enc [e.dc,e.rg,e.sq] ?_|refine Xf (t:=44) e.enc [e.ct,e.sd,e.sr] ?_
     rw[hd];repeat' first|refine ga ?_|refine gS (λ_=>?_) λ_=>?_|refine Uc λ_=>?_|refine al λ_=>?_|refine cq hch ?_|refine cq hst ?_|refine Xf (t:=42) e.enc [e.dc,e.rg,e.sq] ?_|refine Xf (t:=44) e.enc [e.ct,e.sd,e.sr] ?_
     refine wq ?_;repeat' first|refine ga ?_|refine gS (λ_=>?_) λ_=>?_|refine Uc λ_=>?_|refine al λ_=>?_|refine cq hch ?_|refine cq hst ?_|refine cq yG ?_|refine Xf (t:=42) e.enc [e.dc,e.rg,e.sq] ?_|refine Xf (t:=44) e.enc [e.ct,e.sd,e.sr] ?_|refine Xf (t:=47) e.enc e.dp.enc ?_|refine lN e.enc _ rfl ?_ (hc:=g1)
     exact Xa [] rfl rfl ⟨by rw[Mi hyes];simp[k4],rfl⟩
    all_goals
     have hno: ¬ud e:=by first|exact λh=>q1 h.dp|exact λh=>q2 (hy▸h.own)|exact λh=>k1 h.cl.1|exact λh=>k2 h.cl.2|exact λh=>k3 h.op.1|exact λh=>k4 h.op.2
     try rw[rj q1] at yG
     repeat' first|refine ga ?_|refine gS (λ_=>?_) λ_=>?_|refine Uc λ_=>?_|refine al λ_=>?_|refine cq hch ?_|refine cq hst ?_|refine Xf (t:=42) e.enc [e.dc,e.rg,e.sq] ?_|refine Xf (t:=44) e.enc [e.ct,e.sd,e.sr] ?_
     rw[hd];repeat' first|refine ga ?_|refine gS (λ_=>?_) λ_=>?_|refine Uc λ_=>?_|refine al λ_=>?_|refine cq hch ?_|refine cq hst ?_|refine Xf (t:=42) e.enc [e.dc,e.rg,e.sq] ?_|refine Xf (t:=44) e.enc [e.ct,e.sd,e.sr] ?_
     refine wq ?_;repeat' first|refine ga ?_|refine gS (λ_=>?_) λ_=>?_|refine Uc λ_=>?_|refine al λ_=>?_|refine cq hch ?_|refine cq hst ?_|refine cq yG ?_|refine Xf (t:=42) e.enc [e.dc,e.rg,e.sq] ?_|refine Xf (t:=44) e.enc [e.ct,e.sd,e.sr] ?_|refine Xf (t:=47) e.enc e.dp.enc ?_|refine lN e.enc _ rfl ?_ (hc:=g1)
     exact Xa [] rfl rfl ⟨by rw[rj hno];first|done|simp[k4],rfl⟩
   .have hno: ¬ud e:=λh=>hv (h.dead hd);repeat' first|refine ga ?_|refine gS (λ_=>?_) λ_=>?_|refine Uc λ_=>?_|refine al λ_=>?_|refine cq hch ?_|refine cq hst ?_|refine Xf (t:=42) e.enc [e.dc,e.rg,e.sq] ?_|refine Xf (t:=44) e.enc [e.ct,e.sd,e.sr] ?_
    rw[hd];repeat' first|refine ga ?_|refine gS (λ_=>?_) λ_=>?_|refine Uc λ_=>?_|refine al λ_=>?_|refine cq hch ?_|refine cq hst ?_|refine Xf (t:=42) e.enc [e.dc,e.rg,e.sq] ?_|refine Xf (t:=44) e.enc [e.ct,e.sd,e.sr] ?_
    exact Xa [] rfl rfl ⟨by rw[rj hno],rfl⟩
 all_goals
  have hno: ¬ud e:=by first|exact λh=>c1 h.ch|exact λh=>c2 h.sq.1|exact λh=>c3 h.sq.2|exact λh=>c4 h.st|exact λh=>c5 h.sd|exact λh=>c6 h.sr|exact λh=>c7 (by have:=h.key.1;omega)|exact λh=>c8 (by have:=h.key.2;omega)|exact λh=>c9 (by have:=h.val;omega)
  try rw[rj c1] at hch
  try rw[rj c4] at hst
  repeat' first|refine ga ?_|refine gS (λ_=>?_) λ_=>?_|refine Uc λ_=>?_|refine al λ_=>?_|refine cq hch ?_|refine cq hst ?_|refine Xf (t:=42) e.enc [e.dc,e.rg,e.sq] ?_|refine Xf (t:=44) e.enc [e.ct,e.sd,e.sr] ?_
  exact Xa [] rfl rfl ⟨by rw[rj hno],rfl⟩
end Go.Proofs.YthebagfahkebiaaGreat
