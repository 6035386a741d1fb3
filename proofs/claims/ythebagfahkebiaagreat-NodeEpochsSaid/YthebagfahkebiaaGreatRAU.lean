/- Texts of one road. -/
import Derived.Test.YthebagfahkebiaaGreatRAO
set_option linter.all false
set_option maxHeartbeats 8000000
set_option maxRecDepth 20000
namespace Go.Proofs.YthebagfahkebiaaGreat
open Go Go.Sl Go.Proofs.Tryz List
variable{l:List Lf}
def Fz(b cb:Nat)(dc rg nd:Int)(d w:Nat)(Ba:Int)(c:CS)(l:List Lf)(H':HH):Prop:=
 ∃v hv hd,H'=[Mb b cb dc rg nd d w true,ja cb c v,hv,zf w d (va l) Ba,hd]/\ia 49 c.lg v hv/\Od (dk l) d hd
def Gz(h:Ee l 1=true):AV l=0:=if_pos h
def Iz(h:Ee l 1=false):AV l=51:=if_neg (by rw[h];decide)
section
variable{l:List Lf}(ok:Ie l)(b cb:Nat)(dc rg nd:Int){d w:Nat}{Ba:Int}{hd:Hp}(hdk:Od (dk l) d hd){c:CS}(xb:Ob c){v:Value}{hv:Hp}(hs:ia 49 c.lg v hv)
include ok hdk xb hs
theorem bP:Ct prog 80 [b] [Mb b cb dc rg nd d w true,ja cb c v,hv,zf w d (va l) Ba,hd]
  (λr H'=>r= .tuple #[]/\Fz b cb dc rg nd d w Ba c.sync (Ze l) H'):=by
 have Gt:=OG ok hdk (w:=w) (seg:=va l) (Ba:=Ba);have hcs:=XQ xb cb hs;rw[<-Mf l] at Gt;refine ce func80 λg R=>?_;simp only[can];rw[<-Mf l];try refine ga ?_
 refine ck Gt ?_;rintro _ _ ⟨hd',rfl,rfl,Hj⟩;refine Za ?_;refine ck hcs ?_;rintro _ _ ⟨rfl,v',Rc,rfl,hs'⟩;refine Za ?_;exact D.fc [Mb b cb dc rg nd d w true,ja cb c.sync v',Rc,zf w d (va (Ze l)) Ba,hd'] _ rfl ⟨rfl,v',Rc,hd',rfl,hs',Hj⟩
def Gd(l:List Lf)(c:CS)(fr ep ix:Int)(e:ya):Bool×CS×List Lf:=
 if Ee l 1=true then((c.take fr ep ix e).1,(c.take fr ep ix e).2,xd l (c.take fr ep ix e).2 c.len) else(false,c,l)
theorem dP(fr ep ix:Int)(e:ya):Ct prog 63 [b,fr,ep,ix,.agg (List.toArray e.enc)] [Mb b cb dc rg nd d w true,ja cb c v,hv,zf w d (va l) Ba,hd]
  (λr H'=>r= .bool (Gd l c fr ep ix e).1/\Fz b cb dc rg nd d w Ba (Gd l c fr ep ix e).2.1 (Gd l c fr ep ix e).2.2 H'):=by
 have hmay:=NG ok b cb dc rg nd (w:=w) (seg:=va l) (Ba:=Ba) hdk;have tg:=xb.len;have dL:c.len=(c.lg.length:Int):=rfl
 cases hrm:Ee l 1 with
 |false=>
  have e0:Gd l c fr ep ix e=(false,c,l):=if_neg (by rw[hrm];decide);rw[e0];rw[Iz hrm] at hmay;refine ce func63 λg R=>?_;repeat' first|refine Za ?_|refine Uc λ_=>?_|refine cq hmay ?_
  exact Xa [Mb b cb dc rg nd d w true,ja cb c v,hv,zf w d (va l) Ba,hd] rfl rfl ⟨rfl,v,hv,hd,rfl,hs,hdk⟩
 |true=>
  have e0:Gd l c fr ep ix e=((c.take fr ep ix e).1,(c.take fr ep ix e).2,xd l (c.take fr ep ix e).2 c.len):=if_pos hrm;rw[e0];rw[Gz hrm] at hmay;have hlc:=CG c cb hs.rs;have Fh:=YQ xb cb hs fr ep ix e;have EF:=xb.take fr ep ix e;generalize c.take fr ep ix e=t at Fh EF⊢;refine ce func63 λg R=>?_;repeat' first|refine Za ?_|refine Uc λ_=>?_|refine cq hmay ?_|refine cq hlc ?_
  rename_i b9;refine KK (ml [8,1]) [Mb b cb dc rg nd d w true,Gb b9 e] ?_;repeat' first|refine ga ?_|refine Xf (t:=49) e.enc e.enc ?_
  refine ck Fh ?_;rintro _ _ ⟨rfl,v',Rc,rfl,hs'⟩;have ou:=Gv ok b cb dc rg nd (w:=w) (Ba:=Ba) hdk EF hs'.rs (was:=c.len) (by omega) (by omega);refine Za ?_;refine ck ou ?_;rintro _ _ ⟨rfl,hd',rfl,Hj⟩;refine Za ?_;exact Xa [Mb b cb dc rg nd d w true,ja cb t.2 v',Rc,zf w d (va (xd l t.2 c.len)) Ba,hd'] rfl rfl ⟨rfl,v',Rc,hd',rfl,hs',Hj⟩
def dg(l:List Lf)(c:CS)(e:ya):Int×CS×List Lf:=
 if Ee l 1=true then((c.Xb e).1,(c.Xb e).2,xd l (c.Xb e).2 c.len) else(51,c,l)
theorem UR(e:ya):Ct prog 153 [b,.agg (List.toArray e.enc)] [Mb b cb dc rg nd d w true,ja cb c v,hv,zf w d (va l) Ba,hd]
  (λr H'=>r= .int .i64 (dg l c e).1/\Fz b cb dc rg nd d w Ba (dg l c e).2.1 (dg l c e).2.2 H'):=by
 have hmay:=NG ok b cb dc rg nd (w:=w) (seg:=va l) (Ba:=Ba) hdk;have tg:=xb.len;have dL:c.len=(c.lg.length:Int):=rfl
 cases hrm:Ee l 1 with
 |false=>
  have e0:dg l c e=(51,c,l):=if_neg (by rw[hrm];decide);rw[e0];rw[Iz hrm] at hmay;refine ce func153 λg R=>?_;repeat' first|refine Za ?_|refine Uc λ_=>?_|refine cq hmay ?_
  exact Xa [Mb b cb dc rg nd d w true,ja cb c v,hv,zf w d (va l) Ba,hd] rfl rfl ⟨rfl,v,hv,hd,rfl,hs,hdk⟩
 |true=>
  have e0:dg l c e=((c.Xb e).1,(c.Xb e).2,xd l (c.Xb e).2 c.len):=if_pos hrm;rw[e0];rw[Gz hrm] at hmay;have hlc:=CG c cb hs.rs;have Fh:=ZK xb cb hs e;have EF:=xb.Xb e;generalize c.Xb e=t at Fh EF⊢;refine ce func153 λg R=>?_;repeat' first|refine Za ?_|refine Uc λ_=>?_|refine cq hmay ?_|refine cq hlc ?_
  rename_i b9;refine KK (ml [5,1]) [Mb b cb dc rg nd d w true,Gb b9 e] ?_;repeat' first|refine ga ?_|refine Xf (t:=49) e.enc e.enc ?_
  refine ck Fh ?_;rintro _ _ ⟨rfl,v',Rc,rfl,hs'⟩;have ou:=Gv ok b cb dc rg nd (w:=w) (Ba:=Ba) hdk EF hs'.rs (was:=c.len) (by omega) (by omega);refine Za ?_;refine ck ou ?_;rintro _ _ ⟨rfl,hd',rfl,Hj⟩;refine Za ?_;exact Xa [Mb b cb dc rg nd d w true,ja cb t.2 v',Rc,zf w d (va (xd l t.2 c.len)) Ba,hd'] rfl rfl ⟨rfl,v',Rc,hd',rfl,hs',Hj⟩
def jd(l:List Lf)(c:CS)(key val:ByteArray)(dead:Bool)(deps:V9)(clock cl op:Int):(Int×Int)×CS×List Lf:=
 if Ee l 1=true then((c.Zf key val dead deps clock cl op).1,(c.Zf key val dead deps clock cl op).2,xd l (c.Zf key val dead deps clock cl op).2 c.len) else((0,51),c,l)
theorem VR(key val:ByteArray)(dead:Bool)(deps:V9)(clock cl op:Int):Ct prog 142 [b,.string key,.string val,.bool dead,.agg (List.toArray deps.enc),clock,cl,op] [Mb b cb dc rg nd d w true,ja cb c v,hv,zf w d (va l) Ba,hd]
  (λr H'=>r= .tuple #[.int .i64 (jd l c key val dead deps clock cl op).1.1,.int .i64 (jd l c key val dead deps clock cl op).1.2]/\Fz b cb dc rg nd d w Ba (jd l c key val dead deps clock cl op).2.1 (jd l c key val dead deps clock cl op).2.2 H'):=by
 have hmay:=NG ok b cb dc rg nd (w:=w) (seg:=va l) (Ba:=Ba) hdk;have tg:=xb.len;have dL:c.len=(c.lg.length:Int):=rfl
 cases hrm:Ee l 1 with
 |false=>
  have e0:jd l c key val dead deps clock cl op=((0,51),c,l):=if_neg (by rw[hrm];decide);rw[e0];rw[Iz hrm] at hmay;refine ce func142 λg R=>?_;repeat' first|refine Za ?_|refine Uc λ_=>?_|refine cq hmay ?_
  exact D.Vb [Mb b cb dc rg nd d w true,ja cb c v,hv,zf w d (va l) Ba,hd] _ rfl rfl rfl ⟨rfl,v,hv,hd,rfl,hs,hdk⟩
 |true=>
  have e0:jd l c key val dead deps clock cl op=((c.Zf key val dead deps clock cl op).1,(c.Zf key val dead deps clock cl op).2,xd l (c.Zf key val dead deps clock cl op).2 c.len):=if_pos hrm;rw[e0];rw[Gz hrm] at hmay;have hlc:=CG c cb hs.rs;have Fh:=bV xb cb hs key val dead deps clock cl op;have EF:=xb.put key val dead deps clock cl op;generalize c.Zf key val dead deps clock cl op=t at Fh EF⊢;refine ce func142 λg R=>?_;repeat' first|refine Za ?_|refine Uc λ_=>?_|refine cq hmay ?_|refine cq hlc ?_
  rename_i b9;refine KK (ml [11,1,4]) [Mb b cb dc rg nd d w true,Ra b9 deps] ?_;repeat' first|refine ga ?_|refine Xf (t:=47) deps.enc deps.enc ?_
  refine ck Fh ?_;rintro _ _ ⟨rfl,v',Rc,rfl,hs'⟩;have ou:=Gv ok b cb dc rg nd (w:=w) (Ba:=Ba) hdk EF hs'.rs (was:=c.len) (by omega) (by omega);refine Za ?_;refine ck ou ?_;rintro _ _ ⟨rfl,hd',rfl,Hj⟩;refine Za ?_;exact D.Vb [Mb b cb dc rg nd d w true,ja cb t.2 v',Rc,zf w d (va (xd l t.2 c.len)) Ba,hd'] _ rfl rfl rfl ⟨rfl,v',Rc,hd',rfl,hs',Hj⟩
end
def Lc(l:List Lf)(c:CS)(x:Wa):(Bool×Int)×CS×List Lf:=
 if Ee l 2=true then
  (if(c.enter x).1.2=0 then((c.enter x).1,(c.enter x).2,Ze (Db (if(c.enter x).1.1=true then(Tj l).1 else l) (ee x (c.enter x).2.bs)).1) else((c.enter x).1,(c.enter x).2,l))
 else((false,51),c,l)
def WR{l:List Lf}(ok:Ie l)(b cb:Nat)(dc rg nd:Int){d w:Nat}{Ba:Int}{hd:Hp}(hdk:Od (dk l) d hd){c:CS}(xb:Ob c){v:Value}{hv:Hp}(hs:ia 49 c.lg v hv)(x:Wa):
  Ct prog 52 [b,.agg (List.toArray x.enc)] [Mb b cb dc rg nd d w true,ja cb c v,hv,zf w d (va l) Ba,hd]
   (λr H'=>r= .tuple #[.bool (Lc l c x).1.1,.int .i64 (Lc l c x).1.2]/\Fz b cb dc rg nd d w Ba (Lc l c x).2.1 (Lc l c x).2.2 H'):=by
 have hrm:=jN ok hdk (w:=w) (seg:=va l) (Ba:=Ba) 2
 cases hr:Ee l 2 with
 |false=>
  have e0:Lc l c x=((false,51),c,l):=if_neg (by rw[hr];decide);rw[e0];rw[hr] at hrm;refine ce func52 λg R=>?_;repeat' first|refine Za ?_|refine Uc λ_=>?_|refine cq hrm ?_
  exact D.Vb [Mb b cb dc rg nd d w true,ja cb c v,hv,zf w d (va l) Ba,hd] _ rfl rfl rfl ⟨rfl,v,hv,hd,rfl,hs,hdk⟩
 |true=>
  rw[hr] at hrm;have Fh:=wO xb cb hs x;have EF:=xb.enter x;have e0:Lc l c x=(if(c.enter x).1.2=0 then((c.enter x).1,(c.enter x).2,Ze (Db (if(c.enter x).1.1=true then(Tj l).1 else l) (ee x (c.enter x).2.bs)).1) else((c.enter x).1,(c.enter x).2,l)):=if_pos hr;rw[e0];clear e0;generalize c.enter x=t at Fh EF⊢;obtain⟨⟨H7,er⟩,c'⟩:=t;simp only[] at Fh EF⊢;by_cases he:er=0
  .subst he;rw[if_pos rfl]
   cases H7 with
   |true=>
    rw[if_pos rfl];have Jo:=iY ok hdk (w:=w) (Ba:=Ba);have SO:=ok.cut;refine ce func52 λg R=>?_;repeat' first|refine Za ?_|refine Uc λ_=>?_|refine cq hrm ?_
    rename_i b3;refine KK (ml [5,1,4]) [Mb b cb dc rg nd d w true,od b3 x] ?_;repeat' first|refine ga ?_|refine Xf (t:=40) x.enc x.enc ?_
    refine ck Fh ?_;rintro _ _ ⟨rfl,v',Rc,rfl,hs'⟩;refine Za ?_;refine ck Jo ?_;rintro _ _ ⟨Gl,rfl,rfl,XR⟩;simp only[can];have MI:=kI c' cb v';try refine ga ?_
    refine KK (ml [9,1,1,2]) [Mb b cb dc rg nd d w true,od b3 x] ?_;repeat' first|refine ga ?_|refine Xf (t:=40) x.enc x.enc ?_|refine cq MI ?_|refine jf (t:=140) (ee x c'.bs).enc ?_
    refine Up [ee x c'.bs] (λv2 h2 Sa=>?_);try refine ga ?_
    have js:=BL SO XR Sa.rs (by simp) (λr hr=>by
     rw[mem_singleton.1 hr];show(0:Nat)<=1073741824;omega) (w:=w) (Ba:=Ba)
    rw[MG] at js;refine ck js ?_;rintro _ _ ⟨Bo,rfl,rfl,CL⟩;have Gt:=OG (Ie.HE SO (ee x c'.bs)) CL (w:=w) (seg:=va (Db (Tj l).1 (ee x c'.bs)).1) (Ba:=Ba);refine Za ?_;refine ck Gt ?_;rintro _ _ ⟨Jd,rfl,rfl,DL⟩;refine Za ?_
    exact D.Vb [Mb b cb dc rg nd d w true,ja cb c' v',Rc,zf w d (va (Db (Tj l).1 (ee x c'.bs)).1) Ba,Jd] _ rfl rfl rfl ⟨rfl,v',Rc,Jd,by rw[Mf],hs',DL⟩
   |false=>
    rw[if_neg (by decide)];refine ce func52 λg R=>?_;repeat' first|refine Za ?_|refine Uc λ_=>?_|refine cq hrm ?_
    rename_i b3;refine KK (ml [5,1,4]) [Mb b cb dc rg nd d w true,od b3 x] ?_;repeat' first|refine ga ?_|refine Xf (t:=40) x.enc x.enc ?_
    refine ck Fh ?_;rintro _ _ ⟨rfl,v',Rc,rfl,hs'⟩;refine Za ?_;have MI:=kI c' cb v';refine KK (ml [9,1,1,2]) [Mb b cb dc rg nd d w true,od b3 x] ?_;repeat' first|refine ga ?_|refine Xf (t:=40) x.enc x.enc ?_|refine cq MI ?_|refine jf (t:=140) (ee x c'.bs).enc ?_
    refine Up [ee x c'.bs] (λv2 h2 Sa=>?_);try refine ga ?_
    have js:=BL ok hdk Sa.rs (by simp) (λr hr=>by
     rw[mem_singleton.1 hr];show(0:Nat)<=1073741824;omega) (w:=w) (Ba:=Ba)
    rw[MG] at js;refine ck js ?_;rintro _ _ ⟨Bo,rfl,rfl,CL⟩;have Gt:=OG (Ie.HE ok (ee x c'.bs)) CL (w:=w) (seg:=va (Db l (ee x c'.bs)).1) (Ba:=Ba);refine Za ?_;refine ck Gt ?_;rintro _ _ ⟨Jd,rfl,rfl,DL⟩;refine Za ?_;exact D.Vb [Mb b cb dc rg nd d w true,ja cb c' v',Rc,zf w d (va (Db l (ee x c'.bs)).1) Ba,Jd] _ rfl rfl rfl ⟨rfl,v',Rc,Jd,by rw[Mf],hs',DL⟩
  .rw[if_neg he];refine ce func52 λg R=>?_;repeat' first|refine Za ?_|refine Uc λ_=>?_|refine cq hrm ?_
   rename_i b3;refine KK (ml [5,1,4]) [Mb b cb dc rg nd d w true,od b3 x] ?_;repeat' first|refine ga ?_|refine Xf (t:=40) x.enc x.enc ?_
   refine ck Fh ?_;rintro _ _ ⟨rfl,v',Rc,rfl,hs'⟩;refine Za ?_;exact D.Vb [Mb b cb dc rg nd d w true,ja cb c' v',Rc,zf w d (va l) Ba,hd] _ rfl rfl rfl ⟨rfl,v',Rc,hd,rfl,hs',hdk⟩
theorem Ie.raa:Od {}=Od (dk []):=rfl
def BV(dc rg nd:Int):Ct prog 49 [dc,rg,nd] []
  (λr H'=>∃b cb d w hd,r= .pointer (some ⟨b,0,none⟩)/\H'=[Mb b cb dc rg nd d w true,ja cb (CS.new dc rg nd) (.slice none 0 0),zf w d (va []) 0,hd]/\Od (dk []) d hd):=by
 refine ng func49 λg R=>?_;refine ck fV ?_;rintro _ _ ⟨d,h0,rfl,rfl,Gl⟩;have Gl:Od (dk []) d h0:=Gl;repeat' first|refine Za ?_|refine Uc λ_=>?_|refine jf [.pointer none,dc,rg,nd,.pointer (some ⟨d,0,none⟩),.pointer none,.bool true] ?_
 rename_i b;refine ck (Jz Ie.nil Gl) ?_;rintro _ _ ⟨w,u,h1,ho,rfl,rfl,Bo,hs1⟩;refine Za ?_;refine ei [.pointer none,dc,rg,nd,.pointer (some ⟨d,0,none⟩),.pointer none,.bool true] [.pointer none,dc,rg,nd,.pointer (some ⟨d,0,none⟩),.pointer (some ⟨w,0,none⟩),.bool true] ?_;try refine ga ?_
 refine ck (Zx dc rg nd) ?_;rintro _ _ ⟨cb,rfl,rfl⟩;refine Za ?_;refine ei [.pointer none,dc,rg,nd,.pointer (some ⟨d,0,none⟩),.pointer (some ⟨w,0,none⟩),.bool true] [.pointer (some ⟨cb,0,none⟩),dc,rg,nd,.pointer (some ⟨d,0,none⟩),.pointer (some ⟨w,0,none⟩),.bool true] ?_;try refine ga ?_
 exact Xa [Mb b cb dc rg nd d w true,ja cb (CS.new dc rg nd) (.slice none 0 0),zf w d (va []) 0,h1] rfl rfl ⟨b,cb,d,w,h1,rfl,rfl,Bo⟩
def EL{l:List Lf}(ok:Ie l)(b cb:Nat)(dc rg nd:Int){d w:Nat}{seg Ba:Int}{hd:Hp}(hdk:Od (dk l) d hd)(c:CS)(v:Value){keep:Int}(Om: -9223372036854775808<=keep)(hk2:keep<=9223372036854775807):
  Ct prog 81 [b,keep] [Mb b cb dc rg nd d w true,ja cb c v,zf w d seg Ba,hd]
   (λr H'=>r= .tuple #[]/\∃ob hd',H'=[Mb b ob dc rg nd d w false,ja ob (CS.new dc rg nd) (.slice none 0 0),zf w d seg Ba,hd']/\Od ⟨qe l keep.toNat,[]⟩ d hd'):=by
 have cB:=eP ok hdk Om hk2;refine ng func81 λg R=>?_;refine ck cB ?_;rintro _ _ ⟨hd',rfl,rfl,Hj⟩;refine Za ?_;refine ei [cb,dc,rg,nd,d,w,.bool true] [cb,dc,rg,nd,d,w,.bool false] ?_;try refine ga ?_
 refine W.h0 [hd',Mb b cb dc rg nd d w false,ja cb c v,zf w d seg Ba,R] ?_;refine KK (ml [13,1]) [Mb b cb dc rg nd d w false] ?_;try refine ga ?_
 refine ck (Zx dc rg nd) ?_;rintro _ _ ⟨ob,rfl,rfl⟩;refine Za ?_;refine ei [cb,dc,rg,nd,d,w,.bool false] [.pointer (some ⟨ob,0,none⟩),dc,rg,nd,d,w,.bool false] ?_;try refine ga ?_
 exact D.fc [Mb b ob dc rg nd d w false,ja ob (CS.new dc rg nd) (.slice none 0 0),zf w d seg Ba,hd'] _ rfl ⟨rfl,ob,hd',rfl,Hj⟩
def FL(b cb:Nat)(dc rg nd:Int)(d w:Nat)(keep:Int):
  Ct prog 81 [b,keep] [Mb b cb dc rg nd d w false] (λr H'=>r= .tuple #[]/\H'=[Mb b cb dc rg nd d w false]):=by
 refine ng func81 λg R=>?_;exact D.fc [Mb b cb dc rg nd d w false] _ rfl ⟨rfl,rfl⟩
def xL(b cb:Nat)(dc rg nd:Int)(d w:Nat):
  Ct prog 19 [b] [Mb b cb dc rg nd d w true] (λr H'=>r= .tuple #[]/\H'=[Mb b cb dc rg nd d w true]):=by
 refine ce func19 λg R=>?_;repeat' first|refine Za ?_|refine W.lq 0 rfl ?_
 first|exact D.fc [Mb b cb dc rg nd d w true] _ rfl ⟨rfl,rfl⟩|exact D.ri [Mb b cb dc rg nd d w true] _ rfl ⟨rfl,rfl⟩
abbrev fP(b:Nat)(r:Rec):Hp:=[(b,.cells (List.toArray r.enc) 140 (0,0))]
def CV(nd:Int)(rs:List Rec)(i:Nat):Rb:=Xh nd (rs.take i)
def Kz{nd:Int}{rs:List Rec}{i:Nat}{r:Rec}(h:rs[i]? =some r):CV nd rs (i+1)=Th nd (CV nd rs i) r:=by
 unfold CV;rw[take_add_one,h];exact Dz nd _ r
structure jY where
 (w b3 b5 i:Nat)
 (u v:Value)
 (h ho hl:Hp)
 pr:Rec
 f:Rb
def zL(b cb:Nat)(dc rg nd:Int){d w:Nat}{hd:Hp}{l:List Lf}{rs:List Rec}{seg Ba:Int}
  (hop:Ct prog 82 [d] [hd] (λres H'=>∃w' u h' ho,res= .tuple #[.pointer (some ⟨w',0,none⟩),u]/\H'=[zf w' d seg Ba,h',ho]/\Od (dk l) d h'/\ia 140 rs u ho))
  (hl:rs.length<=1000000)(Mw:∀r∈rs,r.k=1/\ud r.e\/r.k=2/\Md r.c):
  Ct prog 19 [b] [Mb b cb dc rg nd d w false,hd]
   (λr H'=>r= .tuple #[]/\∃ob w' hd',∃v hv,H'=[Mb b ob dc rg nd d w' true,ja ob (CS.restore dc rg nd (Xh nd rs).x (Xh nd rs).sn (Xh nd rs).bs (Xh nd rs).es) v,hv,zf w' d seg Ba,hd']/\
    ia 49 (CS.restore dc rg nd (Xh nd rs).x (Xh nd rs).sn (Xh nd rs).bs (Xh nd rs).es).lg v hv/\Od (dk l) d hd'):=by
 refine ce func19 λg R=>?_;simp only[can]
 refine W.kY (α:=jY) 0 rfl (λa=>a.i<=rs.length/\Od (dk l) d a.h/\ia 140 rs a.u a.ho/\ia 49 a.f.es a.v a.hl/\a.f.es.length<=a.i/\a.f=CV nd rs a.i)
  (λa=>[(0,b),(2,a.u),(3,a.b3),(4,a.v),(5,a.b5),(6,.int .i64 (a.i:Int)),(7,a.f.sn),(8,a.f.bs)])
  (λa=>[fP a.b5 a.pr,a.hl,od a.b3 a.f.x,zf a.w d seg Ba,a.h,a.ho,Mb b cb dc rg nd d a.w true,R]) (λa=>rs.length - a.i) ?_ ?_
 .try refine ga ?_
  refine ei [cb,dc,rg,nd,d,w,.bool false] [cb,dc,rg,nd,d,w,.bool true] ?_;try refine ga ?_
  refine ck hop ?_;rintro _ _ ⟨w',u,h',ho,rfl,rfl,hdk,FF⟩;have PG:=FF.rs;obtain⟨up,uc,rfl⟩:=PG.len;refine Za ?_;refine ei [cb,dc,rg,nd,d,w,.bool true] [cb,dc,rg,nd,d,.pointer (some ⟨w',0,none⟩),.bool true] ?_;repeat' first|refine ga ?_|refine al λ_=>?_
  rename_i b3 b5;refine W.Pe ?_;refine W.h0 [[],fP b5 Rec.z,od b3 Rb.z.x,zf w' d seg Ba,h',ho,Mb b cb dc rg nd d w' true,R] ?_;obtain⟨i,CQ⟩:∃i:Nat,i=0:=⟨_,rfl⟩;obtain⟨f,ey⟩:∃f,f=Rb.z:=⟨_,rfl⟩;obtain⟨v,Z5⟩:∃v:Value,v= .slice none 0 0:=⟨_,rfl⟩;obtain⟨pr,hp0⟩:∃pr,pr=Rec.z:=⟨_,rfl⟩;obtain⟨vv,hh0⟩:∃h:Hp,h=[]:=⟨_,rfl⟩;have hf:f=CV nd rs i:=by rw[ey,CQ];rfl
  have QG:ia 49 f.es v vv:=by rw[ey,Z5,hh0];exact ia.nil _
  have hel:f.es.length<=i:=by rw[ey];exact di _
  have hi:i<=rs.length:=by rw[CQ];exact di _
  refine W.I7 (L':=[(31,.bool (decide ((i:Int)=(rs.length:Int)))),(0,b),(2,.slice up rs.length uc),(3,b3),(4,v),(5,b5),(6,.int .i64 (i:Int)),(7,f.sn),(8,f.bs)])
   (H':=[fP b5 pr,vv,od b3 f.x,zf w' d seg Ba,h',ho,Mb b cb dc rg nd d w' true,R]) ?_ (by subst CQ ey Z5;exact(by repeat(first|exact Aa.nil|refine Aa.cons rfl ?_))) (by subst hp0 hh0 ey;exact(Ia.qa inferInstance))
  clear CQ ey Z5 hp0 hh0;have Qp:=QG.rs;by_cases hlt:i<rs.length
  .obtain⟨r,hr⟩:=Lh hlt;have hsu:=Kz (nd:=nd) hr;rw[<-hf] at hsu;rcases Mw r (mem_of_getElem? hr) with⟨k1,kX⟩|⟨k2,hrc⟩
   .have hst:Th nd (f) r=⟨(f).x,(f).sn,(f).bs,(f).es++[r.e]⟩:=if_pos k1;rw[hst] at hsu;repeat' first|refine ga ?_|refine Vx PG hr ?_|refine Xf (t:=49) r.enc r.e.enc ?_|refine xg (pr).enc r.enc ?_
    refine Up [r.e] (λv2 h2 Sa=>?_);refine Jt (zb:=by simp only[Ib,td];omega) QG Sa.rs (λv3 h3 Cc=>?_);try refine ga ?_
    exact D.gP (⟨w',b3,b5,i+1,.slice up rs.length uc,v3,h',ho,h3,r,⟨(f).x,(f).sn,(f).bs,(f).es++[r.e]⟩⟩:jY) ⟨by simp only[];omega,hdk,FF,Cc,by simp only[Eb,Ib,td];omega,hsu.symm⟩ (by repeat(first|exact Aa.nil|refine Aa.cons rfl ?_)) (Ia.qa inferInstance)
   .have hst:Th nd (f) r=⟨r.c,if 0<Zb (some (ff r.c)) nd then Zb (some (ff r.c)) nd else(f).sn,r.base,(f).es⟩:=if_neg (by omega);rw[hst] at hsu;obtain⟨c,Xy,xb,hch⟩:=Yi hrc;have hsi:=ov (Ni.some xb) nd;rw[show jc (some c)=r.c from Xy.symm] at hsi;rw[hch] at hsu;generalize Zb (some c) nd=z at hsi hsu;repeat' first|refine ga ?_|refine Vx PG hr ?_|refine xg (pr).enc r.enc ?_
    refine KK (ml [4,1]) [fP b5 r] ?_;repeat' first|refine ga ?_|refine Xf (t:=40) r.enc r.c.enc ?_|refine xg (f).x.enc r.c.enc ?_
    refine wq ?_;by_cases hz:0<z
    .rw[if_pos hz] at hsu;repeat' first|refine ga ?_|refine Xf (t:=40) r.c.enc r.c.enc ?_|refine cq hsi ?_
     exact D.gP (⟨w',b3,b5,i+1,.slice up rs.length uc,v,h',ho,vv,r,⟨r.c,z,r.base,(f).es⟩⟩:jY) ⟨by simp only[];omega,hdk,FF,QG,by simp only[];omega,hsu.symm⟩ (by repeat(first|exact Aa.nil|refine Aa.cons rfl ?_)) (Ia.qa inferInstance)
    .rw[if_neg hz] at hsu;repeat' first|refine ga ?_|refine Xf (t:=40) r.c.enc r.c.enc ?_|refine cq hsi ?_
     exact D.gP (⟨w',b3,b5,i+1,.slice up rs.length uc,v,h',ho,vv,r,⟨r.c,(f).sn,r.base,(f).es⟩⟩:jY) ⟨by simp only[];omega,hdk,FF,QG,by simp only[];omega,hsu.symm⟩ (by repeat(first|exact Aa.nil|refine Aa.cons rfl ?_)) (Ia.qa inferInstance)
  .have lX:i=rs.length:=by omega
   have F2:f=Xh nd rs:=by rw[hf,lX];unfold CV;rw[take_length]
   have kX:=Nw dc rg nd (f).x (f).sn (f).bs QG.rs (by omega);try refine ga ?_
   refine KK (ml [17,1]) [Mb b cb dc rg nd d w' true,od b3 (f).x] ?_;repeat' first|refine ga ?_|refine Xf (t:=40) (f).x.enc (f).x.enc ?_
   refine ck kX ?_;rintro _ _ ⟨ob,v9,FQ,rfl,rfl,Bp⟩;refine Za ?_;refine ei [cb,dc,rg,nd,d,.pointer (some ⟨w',0,none⟩),.bool true] [.pointer (some ⟨ob,0,none⟩),dc,rg,nd,d,.pointer (some ⟨w',0,none⟩),.bool true] ?_;try refine ga ?_
   rw[<-F2]
   first
    |exact D.fc [Mb b ob dc rg nd d w' true,ja ob (CS.restore dc rg nd (f).x (f).sn (f).bs (f).es) v9,FQ,zf w' d seg Ba,h'] _ rfl ⟨rfl,ob,w',h',v9,FQ,rfl,Bp,hdk⟩
    |exact D.ri [Mb b ob dc rg nd d w' true,ja ob (CS.restore dc rg nd (f).x (f).sn (f).bs (f).es) v9,FQ,zf w' d seg Ba,h'] _ rfl ⟨rfl,ob,w',h',v9,FQ,rfl,Bp,hdk⟩
 .rintro⟨w',b3,b5,i,u,v,h',ho,vv,pr,f⟩ ⟨hi,hdk,FF,QG,hel,hf⟩;simp only[] at hi hdk FF QG hel hf⊢;have PG:=FF.rs;obtain⟨up,uc,rfl⟩:=PG.len;have Qp:=QG.rs;try refine ga ?_
  by_cases hlt:i<rs.length
  .obtain⟨r,hr⟩:=Lh hlt;have hsu:=Kz (nd:=nd) hr;rw[<-hf] at hsu;rcases Mw r (mem_of_getElem? hr) with⟨k1,kX⟩|⟨k2,hrc⟩
   .have hst:Th nd (f) r=⟨(f).x,(f).sn,(f).bs,(f).es++[r.e]⟩:=if_pos k1;rw[hst] at hsu;repeat' first|refine ga ?_|refine Vx PG hr ?_|refine Xf (t:=49) r.enc r.e.enc ?_|refine xg (pr).enc r.enc ?_
    refine Up [r.e] (λv2 h2 Sa=>?_);refine Jt (zb:=by simp only[Ib,td];omega) QG Sa.rs (λv3 h3 Cc=>?_);try refine ga ?_
    exact D.gP (⟨w',b3,b5,i+1,.slice up rs.length uc,v3,h',ho,h3,r,⟨(f).x,(f).sn,(f).bs,(f).es++[r.e]⟩⟩:jY) ⟨⟨by simp only[];omega,hdk,FF,Cc,by simp only[Eb,Ib,td];omega,hsu.symm⟩,by simp only[];omega⟩ (by repeat(first|exact Aa.nil|refine Aa.cons rfl ?_)) (Ia.qa inferInstance)
   .have hst:Th nd (f) r=⟨r.c,if 0<Zb (some (ff r.c)) nd then Zb (some (ff r.c)) nd else(f).sn,r.base,(f).es⟩:=if_neg (by omega);rw[hst] at hsu;obtain⟨c,Xy,xb,hch⟩:=Yi hrc;have hsi:=ov (Ni.some xb) nd;rw[show jc (some c)=r.c from Xy.symm] at hsi;rw[hch] at hsu;generalize Zb (some c) nd=z at hsi hsu;repeat' first|refine ga ?_|refine Vx PG hr ?_|refine xg (pr).enc r.enc ?_
    refine KK (ml [4,1]) [fP b5 r] ?_;repeat' first|refine ga ?_|refine Xf (t:=40) r.enc r.c.enc ?_|refine xg (f).x.enc r.c.enc ?_
    refine wq ?_;by_cases hz:0<z
    .rw[if_pos hz] at hsu;repeat' first|refine ga ?_|refine Xf (t:=40) r.c.enc r.c.enc ?_|refine cq hsi ?_
     exact D.gP (⟨w',b3,b5,i+1,.slice up rs.length uc,v,h',ho,vv,r,⟨r.c,z,r.base,(f).es⟩⟩:jY) ⟨⟨by simp only[];omega,hdk,FF,QG,by simp only[];omega,hsu.symm⟩,by simp only[];omega⟩ (by repeat(first|exact Aa.nil|refine Aa.cons rfl ?_)) (Ia.qa inferInstance)
    .rw[if_neg hz] at hsu;repeat' first|refine ga ?_|refine Xf (t:=40) r.c.enc r.c.enc ?_|refine cq hsi ?_
     exact D.gP (⟨w',b3,b5,i+1,.slice up rs.length uc,v,h',ho,vv,r,⟨r.c,(f).sn,r.base,(f).es⟩⟩:jY) ⟨⟨by simp only[];omega,hdk,FF,QG,by simp only[];omega,hsu.symm⟩,by simp only[];omega⟩ (by repeat(first|exact Aa.nil|refine Aa.cons rfl ?_)) (Ia.qa inferInstance)
  .have lX:i=rs.length:=by omega
   have F2:f=Xh nd rs:=by rw[hf,lX];unfold CV;rw[take_length]
   have kX:=Nw dc rg nd (f).x (f).sn (f).bs QG.rs (by omega);try refine ga ?_
   refine KK (ml [17,1]) [Mb b cb dc rg nd d w' true,od b3 (f).x] ?_;repeat' first|refine ga ?_|refine Xf (t:=40) (f).x.enc (f).x.enc ?_
   refine ck kX ?_;rintro _ _ ⟨ob,v9,FQ,rfl,rfl,Bp⟩;refine Za ?_;refine ei [cb,dc,rg,nd,d,.pointer (some ⟨w',0,none⟩),.bool true] [.pointer (some ⟨ob,0,none⟩),dc,rg,nd,d,.pointer (some ⟨w',0,none⟩),.bool true] ?_;try refine ga ?_
   rw[<-F2]
   first
    |exact D.fc [Mb b ob dc rg nd d w' true,ja ob (CS.restore dc rg nd (f).x (f).sn (f).bs (f).es) v9,FQ,zf w' d seg Ba,h'] _ rfl ⟨rfl,ob,w',h',v9,FQ,rfl,Bp,hdk⟩
    |exact D.ri [Mb b ob dc rg nd d w' true,ja ob (CS.restore dc rg nd (f).x (f).sn (f).bs (f).es) v9,FQ,zf w' d seg Ba,h'] _ rfl ⟨rfl,ob,w',h',v9,FQ,rfl,Bp,hdk⟩
variable{s:CS}
def CS.IG(s:CS):Int×Bool:=if Vc s.co s.nd<0\/s.du=0 then(0,false) else if s.ak<s.du then(s.ak+1,true) else if s.st<s.du then(s.du,true) else(0,false)
def eT(ok:Ob s)(h0:0<=s.ak)(b:Nat)(v:Value):Ct prog 162 [b] [ja b s v] (λr H'=>r= .tuple #[.int .i64 s.IG.1,.bool s.IG.2]/\H'=[ja b s v]):=by
 have Bt:=gv ok.co s.nd;have hd:=ok.du;have hl:=ok.len;have hlen:s.len=(s.lg.length:Int):=rfl;unfold CS.IG;generalize Vc s.co s.nd=bh at Bt⊢;have fin:∀{r:Int×Bool} {r':Int×Bool},r=r'->Ct prog 162 [b] [ja b s v] (λx H'=>x= .tuple #[.int .i64 r'.1,.bool r'.2]/\H'=[ja b s v])->Ct prog 162 [b] [ja b s v] (λx H'=>x= .tuple #[.int .i64 r.1,.bool r.2]/\H'=[ja b s v]):=λe h=>by rw[e];exact h
 by_cases h1:bh<0
 .refine fin (if_pos (.inl h1)) ?_;refine ng func162 λg R=>?_;refine wq ?_;repeat' first|refine ga ?_|refine Xf (s.cells v) (jc s.co).enc ?_|refine cq Bt ?_
  exact D.Vb [ja b s v] _ rfl rfl rfl ⟨rfl,rfl⟩
 by_cases h2:s.du=0
 .refine fin (if_pos (.inr h2)) ?_;refine ng func162 λg R=>?_;refine wq ?_;repeat' first|refine ga ?_|refine Xf (s.cells v) (jc s.co).enc ?_|refine cq Bt ?_
  exact D.Vb [ja b s v] _ rfl rfl rfl ⟨rfl,rfl⟩
 have h12: ¬(bh<0\/s.du=0):=by omega
 by_cases h3:s.ak<s.du
 .refine fin ((if_neg h12).trans (if_pos h3)) ?_;refine ng func162 λg R=>?_;refine wq ?_;repeat' first|refine ga ?_|refine Xf (s.cells v) (jc s.co).enc ?_|refine cq Bt ?_
  refine sj ?_;exact D.Vb [ja b s v] _ rfl rfl rfl ⟨rfl,rfl⟩
 by_cases h4:s.st<s.du
 .refine fin ((if_neg h12).trans ((if_neg h3).trans (if_pos h4))) ?_;refine ng func162 λg R=>?_;refine wq ?_;repeat' first|refine ga ?_|refine Xf (s.cells v) (jc s.co).enc ?_|refine cq Bt ?_
  refine sj ?_;refine sj ?_;exact D.Vb [ja b s v] _ rfl rfl rfl ⟨rfl,rfl⟩
 .refine fin ((if_neg h12).trans ((if_neg h3).trans (if_neg h4))) ?_;refine ng func162 λg R=>?_;refine wq ?_;repeat' first|refine ga ?_|refine Xf (s.cells v) (jc s.co).enc ?_|refine cq Bt ?_
  refine sj ?_;refine sj ?_;exact D.Vb [ja b s v] _ rfl rfl rfl ⟨rfl,rfl⟩
def CS.XX(s:CS):Bool:=decide (s.last) && (jc s.co).jo && decide (s.bs<=s.ak)
def gM(ok:Ob s)(b:Nat)(v:Value):Ct prog 30 [b] [ja b s v] (λr H'=>r= .bool s.XX/\H'=[ja b s v]):=by
 have hil:=Dq ok.co b v;unfold CS.XX;by_cases h1:s.last
 .rw[Mi h1] at hil⊢;obtain⟨jo,hj⟩:∃jo,(jc s.co).jo=jo:=⟨_,rfl⟩;rw[hj];refine ng func30 λg R=>?_;refine wq ?_;repeat' first|refine ga ?_|refine cq hil ?_
  refine WX.as 12 (.bool jo) rfl (by rw[<-hj]) ?_;cases jo
  all_goals
   try refine ga ?_
   exact Wi [ja b s v]
 .rw[rj h1] at hil⊢;refine ng func30 λg R=>?_;refine wq ?_;repeat' first|refine ga ?_|refine cq hil ?_
  exact Wi [ja b s v]
end Go.Proofs.YthebagfahkebiaaGreat
