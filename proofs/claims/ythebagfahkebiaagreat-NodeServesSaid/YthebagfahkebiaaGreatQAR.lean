/- Texts of one road. -/
import Derived.Test.YthebagfahkebiaaGreatQAQ
set_option linter.all false
set_option maxHeartbeats 8000000
set_option maxRecDepth 20000
namespace Go.Proofs.YthebagfahkebiaaGreat
open Go Go.Sl Go.Proofs.Tryz List
def Bt(e:ya):Ct prog 190 [.agg (List.toArray e.enc)] [] (λr H'=>r= .bool (decide (Xc e))/\H'=[]):=by
 have hch:=nk e.dc e.rg e.sq;have hst:=Iy e.ct e.sd e.sr;have uG:=NK e.dp;refine ce func190 λg R=>?_;simp only[can];by_cases c1:Qb e.dc e.rg;rw[decide_eq_true c1] at hch;by_cases c2:1<=e.sq;by_cases c3:e.sq<=1099511627776;by_cases c4:Xh e.ct e.sd e.sr;rw[decide_eq_true c4] at hst;by_cases c5:e.sd=e.dc;by_cases c6:e.sr=e.rg;by_cases c7:1<=(e.key.size:Int);by_cases c8:(e.key.size:Int)<=16;by_cases c9:(e.val.size:Int)<=32
 .obtain⟨d1,d2,d3,d4⟩:=c1;have hb:e.dc.toNat*3+e.rg.toNat<9:=by omega
  obtain⟨y,hy⟩:∃y,e.dp.at (e.dc.toNat*3+e.rg.toNat)=y:=⟨_,rfl⟩
  have g1:e.enc[0+9+e.dc.toNat*3+e.rg.toNat*1]? =some (.int .i64 y):=by
   rw[<-hy,show 0+9+e.dc.toNat*3+e.rg.toNat*1=9+(e.dc.toNat*3+e.rg.toNat) by omega,<-List.getElem?_drop,show e.enc.drop 9=e.dp.enc++[.int .i64 e.cl,.int .i64 e.op] from rfl,List.getElem?_append_left (by show _<9;exact hb),V9.Vd _ hb]
  cases hd:e.dead with
  |false=>
   by_cases q1:Ri e.dp;rw[decide_eq_true q1] at uG;by_cases q2:y=e.sq - 1;by_cases k1:0<=e.cl;by_cases k2:e.cl<4;by_cases k3:1<=e.op;by_cases k4:e.op<=1099511627776
   .have hyes:Xc e:=⟨⟨d1,d2,d3,d4⟩,⟨c2,c3⟩,c4,c5,c6,⟨by omega,by omega⟩,by omega,(λh=>by rw[hd] at h;cases h),q1,by rw[hy];exact q2,⟨k1,k2⟩,⟨k3,k4⟩⟩;repeat' first|refine ga ?_|refine gS (λ_=>?_) λ_=>?_|refine bx rfl λ_=>?_|refine al λ_=>?_|refine cq hch ?_|refine cq hst ?_|refine Pa (t:=42) e.enc [.int .i64 e.dc,.int .i64 e.rg,.int .i64 e.sq] rfl ?_|refine Pa (t:=44) e.enc [.int .i64 e.ct,.int .i64 e.sd,.int .i64 e.sr] rfl ?_
    rw[hd];repeat' first|refine ga ?_|refine gS (λ_=>?_) λ_=>?_|refine bx rfl λ_=>?_|refine al λ_=>?_|refine cq hch ?_|refine cq hst ?_|refine Pa (t:=42) e.enc [.int .i64 e.dc,.int .i64 e.rg,.int .i64 e.sq] rfl ?_|refine Pa (t:=44) e.enc [.int .i64 e.ct,.int .i64 e.sd,.int .i64 e.sr] rfl ?_
    refine wq ?_;repeat' first|refine ga ?_|refine gS (λ_=>?_) λ_=>?_|refine bx rfl λ_=>?_|refine al λ_=>?_|refine cq hch ?_|refine cq hst ?_|refine cq uG ?_|refine Pa (t:=42) e.enc [.int .i64 e.dc,.int .i64 e.rg,.int .i64 e.sq] rfl ?_|refine Pa (t:=44) e.enc [.int .i64 e.ct,.int .i64 e.sd,.int .i64 e.sr] rfl ?_|refine Pa (t:=47) e.enc e.dp.enc rfl ?_|refine lN e.enc _ rfl ?_ (hc:=g1)
    exact Wa [] rfl rfl ⟨by rw[decide_eq_true hyes];simp[k4],rfl⟩
   all_goals
    have hno: ¬Xc e:=by first|exact λh=>q1 h.dp|exact λh=>q2 (hy▸h.own)|exact λh=>k1 h.cl.1|exact λh=>k2 h.cl.2|exact λh=>k3 h.op.1|exact λh=>k4 h.op.2
    try rw[decide_eq_false q1] at uG
    repeat' first|refine ga ?_|refine gS (λ_=>?_) λ_=>?_|refine bx rfl λ_=>?_|refine al λ_=>?_|refine cq hch ?_|refine cq hst ?_|refine Pa (t:=42) e.enc [.int .i64 e.dc,.int .i64 e.rg,.int .i64 e.sq] rfl ?_|refine Pa (t:=44) e.enc [.int .i64 e.ct,.int .i64 e.sd,.int .i64 e.sr] rfl ?_
    rw[hd];repeat' first|refine ga ?_|refine gS (λ_=>?_) λ_=>?_|refine bx rfl λ_=>?_|refine al λ_=>?_|refine cq hch ?_|refine cq hst ?_|refine Pa (t:=42) e.enc [.int .i64 e.dc,.int .i64 e.rg,.int .i64 e.sq] rfl ?_|refine Pa (t:=44) e.enc [.int .i64 e.ct,.int .i64 e.sd,.int .i64 e.sr] rfl ?_
    refine wq ?_;repeat' first|refine ga ?_|refine gS (λ_=>?_) λ_=>?_|refine bx rfl λ_=>?_|refine al λ_=>?_|refine cq hch ?_|refine cq hst ?_|refine cq uG ?_|refine Pa (t:=42) e.enc [.int .i64 e.dc,.int .i64 e.rg,.int .i64 e.sq] rfl ?_|refine Pa (t:=44) e.enc [.int .i64 e.ct,.int .i64 e.sd,.int .i64 e.sr] rfl ?_|refine Pa (t:=47) e.enc e.dp.enc rfl ?_|refine lN e.enc _ rfl ?_ (hc:=g1)
    exact Wa [] rfl rfl ⟨by rw[decide_eq_false hno];first|done|simp[k4],rfl⟩
  |true=>
   by_cases hv:e.val=⟨#[]⟩
   .have IQ: ¬ ¬e.val=⟨#[]⟩:=λh=>h hv;by_cases q1:Ri e.dp;rw[decide_eq_true q1] at uG;by_cases q2:y=e.sq - 1;by_cases k1:0<=e.cl;by_cases k2:e.cl<4;by_cases k3:1<=e.op;by_cases k4:e.op<=1099511627776
    .have hyes:Xc e:=⟨⟨d1,d2,d3,d4⟩,⟨c2,c3⟩,c4,c5,c6,⟨by omega,by omega⟩,by omega,(λ_=>hv),q1,by rw[hy];exact q2,⟨k1,k2⟩,⟨k3,k4⟩⟩;repeat' first|refine ga ?_|refine gS (λ_=>?_) λ_=>?_|refine bx rfl λ_=>?_|refine al λ_=>?_|refine cq hch ?_|refine cq hst ?_|refine Pa (t:=42) e.enc [.int .i64 e.dc,.int .i64 e.rg,.int .i64 e.sq] rfl ?_|refine Pa (t:=44) e.enc [.int .i64 e.ct,.int .i64 e.sd,.int .i64 e.sr] rfl ?_
     rw[hd];repeat' first|refine ga ?_|refine gS (λ_=>?_) λ_=>?_|refine bx rfl λ_=>?_|refine al λ_=>?_|refine cq hch ?_|refine cq hst ?_|refine Pa (t:=42) e.enc [.int .i64 e.dc,.int .i64 e.rg,.int .i64 e.sq] rfl ?_|refine Pa (t:=44) e.enc [.int .i64 e.ct,.int .i64 e.sd,.int .i64 e.sr] rfl ?_
     refine wq ?_;repeat' first|refine ga ?_|refine gS (λ_=>?_) λ_=>?_|refine bx rfl λ_=>?_|refine al λ_=>?_|refine cq hch ?_|refine cq hst ?_|refine cq uG ?_|refine Pa (t:=42) e.enc [.int .i64 e.dc,.int .i64 e.rg,.int .i64 e.sq] rfl ?_|refine Pa (t:=44) e.enc [.int .i64 e.ct,.int .i64 e.sd,.int .i64 e.sr] rfl ?_|refine Pa (t:=47) e.enc e.dp.enc rfl ?_|refine lN e.enc _ rfl ?_ (hc:=g1)
     exact Wa [] rfl rfl ⟨by rw[decide_eq_true hyes];simp[k4],rfl⟩
    all_goals
     have hno: ¬Xc e:=by first|exact λh=>q1 h.dp|exact λh=>q2 (hy▸h.own)|exact λh=>k1 h.cl.1|exact λh=>k2 h.cl.2|exact λh=>k3 h.op.1|exact λh=>k4 h.op.2
     try rw[decide_eq_false q1] at uG
     repeat' first|refine ga ?_|refine gS (λ_=>?_) λ_=>?_|refine bx rfl λ_=>?_|refine al λ_=>?_|refine cq hch ?_|refine cq hst ?_|refine Pa (t:=42) e.enc [.int .i64 e.dc,.int .i64 e.rg,.int .i64 e.sq] rfl ?_|refine Pa (t:=44) e.enc [.int .i64 e.ct,.int .i64 e.sd,.int .i64 e.sr] rfl ?_
     rw[hd];repeat' first|refine ga ?_|refine gS (λ_=>?_) λ_=>?_|refine bx rfl λ_=>?_|refine al λ_=>?_|refine cq hch ?_|refine cq hst ?_|refine Pa (t:=42) e.enc [.int .i64 e.dc,.int .i64 e.rg,.int .i64 e.sq] rfl ?_|refine Pa (t:=44) e.enc [.int .i64 e.ct,.int .i64 e.sd,.int .i64 e.sr] rfl ?_
     refine wq ?_;repeat' first|refine ga ?_|refine gS (λ_=>?_) λ_=>?_|refine bx rfl λ_=>?_|refine al λ_=>?_|refine cq hch ?_|refine cq hst ?_|refine cq uG ?_|refine Pa (t:=42) e.enc [.int .i64 e.dc,.int .i64 e.rg,.int .i64 e.sq] rfl ?_|refine Pa (t:=44) e.enc [.int .i64 e.ct,.int .i64 e.sd,.int .i64 e.sr] rfl ?_|refine Pa (t:=47) e.enc e.dp.enc rfl ?_|refine lN e.enc _ rfl ?_ (hc:=g1)
     exact Wa [] rfl rfl ⟨by rw[decide_eq_false hno];first|done|simp[k4],rfl⟩
   .have hno: ¬Xc e:=λh=>hv (h.dead hd);repeat' first|refine ga ?_|refine gS (λ_=>?_) λ_=>?_|refine bx rfl λ_=>?_|refine al λ_=>?_|refine cq hch ?_|refine cq hst ?_|refine Pa (t:=42) e.enc [.int .i64 e.dc,.int .i64 e.rg,.int .i64 e.sq] rfl ?_|refine Pa (t:=44) e.enc [.int .i64 e.ct,.int .i64 e.sd,.int .i64 e.sr] rfl ?_
    rw[hd];repeat' first|refine ga ?_|refine gS (λ_=>?_) λ_=>?_|refine bx rfl λ_=>?_|refine al λ_=>?_|refine cq hch ?_|refine cq hst ?_|refine Pa (t:=42) e.enc [.int .i64 e.dc,.int .i64 e.rg,.int .i64 e.sq] rfl ?_|refine Pa (t:=44) e.enc [.int .i64 e.ct,.int .i64 e.sd,.int .i64 e.sr] rfl ?_
    exact Wa [] rfl rfl ⟨by rw[decide_eq_false hno],rfl⟩
 all_goals
  have hno: ¬Xc e:=by first|exact λh=>c1 h.ch|exact λh=>c2 h.sq.1|exact λh=>c3 h.sq.2|exact λh=>c4 h.st|exact λh=>c5 h.sd|exact λh=>c6 h.sr|exact λh=>c7 (by have:=h.key.1;omega)|exact λh=>c8 (by have:=h.key.2;omega)|exact λh=>c9 (by have:=h.val;omega)
  try rw[decide_eq_false c1] at hch
  try rw[decide_eq_false c4] at hst
  repeat' first|refine ga ?_|refine gS (λ_=>?_) λ_=>?_|refine bx rfl λ_=>?_|refine al λ_=>?_|refine cq hch ?_|refine cq hst ?_|refine Pa (t:=42) e.enc [.int .i64 e.dc,.int .i64 e.rg,.int .i64 e.sq] rfl ?_|refine Pa (t:=44) e.enc [.int .i64 e.ct,.int .i64 e.sd,.int .i64 e.sr] rfl ?_
  exact Wa [] rfl rfl ⟨by rw[decide_eq_false hno],rfl⟩
end Go.Proofs.YthebagfahkebiaaGreat
