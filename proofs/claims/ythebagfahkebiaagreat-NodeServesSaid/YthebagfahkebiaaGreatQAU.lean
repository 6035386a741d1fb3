/- Texts of one road. -/
import Derived.Test.YthebagfahkebiaaGreatQAO
set_option linter.all false
set_option maxHeartbeats 8000000
set_option maxRecDepth 20000
namespace Go.Proofs.YthebagfahkebiaaGreat
open Go Go.Sl Go.Proofs.Tryz List
variable{l:List Lf}
def kz(b cb:Nat)(dc rg nd:Int)(d w:Nat)(Aa:Int)(c:CS)(l:List Lf)(H':HH):Prop:=
 ∃v hv hd,H'=[Jb b cb dc rg nd d w true,oa cb c v,hv,qf w d (ua l) Aa,hd]/\ia 49 c.lg v hv/\Od (dk l) d hd
def mz(h:Ce l 1=true):wV l=0:=if_pos h
def pz(h:Ce l 1=false):wV l=51:=if_neg (by rw[h];decide)
section
variable{l:List Lf}(ok:Ge l)(b cb:Nat)(dc rg nd:Int){d w:Nat}{Aa:Int}{hd:Hp}(hdk:Od (dk l) d hd){c:CS}(ob:Lb c){v:Value}{hv:Hp}(hs:ia 49 c.lg v hv)
include ok hdk ob hs
theorem LO:Ct prog 80 [b] [Jb b cb dc rg nd d w true,oa cb c v,hv,qf w d (ua l) Aa,hd]
  (λr H'=>r= .tuple #[]/\kz b cb dc rg nd d w Aa c.sync (Xe l) H'):=by
 have Ws:=JG ok hdk (w:=w) (seg:=ua l) (Aa:=Aa);have hcs:=LQ ob cb hs;rw[<-Df l] at Ws;refine ce func80 λg R=>?_;simp only[can];rw[<-Df l];try refine ga ?_
 refine ck Ws ?_;rintro _ _ ⟨hd',rfl,rfl,Fj⟩;refine vb ?_;refine ck hcs ?_;rintro _ _ ⟨rfl,v',Lc,rfl,hs'⟩;refine vb ?_;exact D.Bc [Jb b cb dc rg nd d w true,oa cb c.sync v',Lc,qf w d (ua (Xe l)) Aa,hd'] _ rfl ⟨rfl,v',Lc,hd',rfl,hs',Fj⟩
def Kd(l:List Lf)(c:CS)(fr ep ix:Int)(e:ya):Bool×CS×List Lf:=
 if Ce l 1=true then((c.take fr ep ix e).1,(c.take fr ep ix e).2,td l (c.take fr ep ix e).2 c.len) else(false,c,l)
theorem MO(fr ep ix:Int)(e:ya):Ct prog 63 [b,fr,ep,ix,.agg (List.toArray e.enc)] [Jb b cb dc rg nd d w true,oa cb c v,hv,qf w d (ua l) Aa,hd]
  (λr H'=>r= .bool (Kd l c fr ep ix e).1/\kz b cb dc rg nd d w Aa (Kd l c fr ep ix e).2.1 (Kd l c fr ep ix e).2.2 H'):=by
 have hmay:=IG ok b cb dc rg nd (w:=w) (seg:=ua l) (Aa:=Aa) hdk;have jg:=ob.len;have PK:c.len=(c.lg.length:Int):=rfl
 cases hrm:Ce l 1 with
 |false=>
  have e0:Kd l c fr ep ix e=(false,c,l):=if_neg (by rw[hrm];decide);rw[e0];rw[pz hrm] at hmay;refine ce func63 λg R=>?_;repeat' first|refine vb ?_|refine Ud λ_=>?_|refine cq hmay ?_
  exact Wa [Jb b cb dc rg nd d w true,oa cb c v,hv,qf w d (ua l) Aa,hd] rfl rfl ⟨rfl,v,hv,hd,rfl,hs,hdk⟩
 |true=>
  have e0:Kd l c fr ep ix e=((c.take fr ep ix e).1,(c.take fr ep ix e).2,td l (c.take fr ep ix e).2 c.len):=if_pos hrm;rw[e0];rw[mz hrm] at hmay;have hlc:=yG c cb hs.rs;have th:=MQ ob cb hs fr ep ix e;have yF:=ob.take fr ep ix e;generalize c.take fr ep ix e=t at th yF⊢;refine ce func63 λg R=>?_;repeat' first|refine vb ?_|refine Ud λ_=>?_|refine cq hmay ?_|refine cq hlc ?_
  rename_i b9;refine sK (ml [8,1]) [Jb b cb dc rg nd d w true,Fb b9 e] ?_;repeat' first|refine ga ?_|refine Of (t:=49) e.enc e.enc ?_
  refine ck th ?_;rintro _ _ ⟨rfl,v',Lc,rfl,hs'⟩;have Vt:=qv ok b cb dc rg nd (w:=w) (Aa:=Aa) hdk yF hs'.rs (was:=c.len) (by omega) (by omega);refine vb ?_;refine ck Vt ?_;rintro _ _ ⟨rfl,hd',rfl,Fj⟩;refine vb ?_;exact Wa [Jb b cb dc rg nd d w true,oa cb t.2 v',Lc,qf w d (ua (td l t.2 c.len)) Aa,hd'] rfl rfl ⟨rfl,v',Lc,hd',rfl,hs',Fj⟩
def Yf(l:List Lf)(c:CS)(e:ya):Int×CS×List Lf:=
 if Ce l 1=true then((c.Xb e).1,(c.Xb e).2,td l (c.Xb e).2 c.len) else(51,c,l)
theorem GR(e:ya):Ct prog 153 [b,.agg (List.toArray e.enc)] [Jb b cb dc rg nd d w true,oa cb c v,hv,qf w d (ua l) Aa,hd]
  (λr H'=>r= .int .i64 (Yf l c e).1/\kz b cb dc rg nd d w Aa (Yf l c e).2.1 (Yf l c e).2.2 H'):=by
 have hmay:=IG ok b cb dc rg nd (w:=w) (seg:=ua l) (Aa:=Aa) hdk;have jg:=ob.len;have PK:c.len=(c.lg.length:Int):=rfl
 cases hrm:Ce l 1 with
 |false=>
  have e0:Yf l c e=(51,c,l):=if_neg (by rw[hrm];decide);rw[e0];rw[pz hrm] at hmay;refine ce func153 λg R=>?_;repeat' first|refine vb ?_|refine Ud λ_=>?_|refine cq hmay ?_
  exact Wa [Jb b cb dc rg nd d w true,oa cb c v,hv,qf w d (ua l) Aa,hd] rfl rfl ⟨rfl,v,hv,hd,rfl,hs,hdk⟩
 |true=>
  have e0:Yf l c e=((c.Xb e).1,(c.Xb e).2,td l (c.Xb e).2 c.len):=if_pos hrm;rw[e0];rw[mz hrm] at hmay;have hlc:=yG c cb hs.rs;have th:=LK ob cb hs e;have yF:=ob.Xb e;generalize c.Xb e=t at th yF⊢;refine ce func153 λg R=>?_;repeat' first|refine vb ?_|refine Ud λ_=>?_|refine cq hmay ?_|refine cq hlc ?_
  rename_i b9;refine sK (ml [5,1]) [Jb b cb dc rg nd d w true,Fb b9 e] ?_;repeat' first|refine ga ?_|refine Of (t:=49) e.enc e.enc ?_
  refine ck th ?_;rintro _ _ ⟨rfl,v',Lc,rfl,hs'⟩;have Vt:=qv ok b cb dc rg nd (w:=w) (Aa:=Aa) hdk yF hs'.rs (was:=c.len) (by omega) (by omega);refine vb ?_;refine ck Vt ?_;rintro _ _ ⟨rfl,hd',rfl,Fj⟩;refine vb ?_;exact Wa [Jb b cb dc rg nd d w true,oa cb t.2 v',Lc,qf w d (ua (td l t.2 c.len)) Aa,hd'] rfl rfl ⟨rfl,v',Lc,hd',rfl,hs',Fj⟩
def Vc(l:List Lf)(c:CS)(key val:ByteArray)(dead:Bool)(deps:V9)(clock cl op:Int):(Int×Int)×CS×List Lf:=
 if Ce l 1=true then((c.Xf key val dead deps clock cl op).1,(c.Xf key val dead deps clock cl op).2,td l (c.Xf key val dead deps clock cl op).2 c.len) else((0,51),c,l)
theorem HR(key val:ByteArray)(dead:Bool)(deps:V9)(clock cl op:Int):Ct prog 142 [b,.string key,.string val,.bool dead,.agg (List.toArray deps.enc),clock,cl,op] [Jb b cb dc rg nd d w true,oa cb c v,hv,qf w d (ua l) Aa,hd]
  (λr H'=>r= .tuple #[.int .i64 (Vc l c key val dead deps clock cl op).1.1,.int .i64 (Vc l c key val dead deps clock cl op).1.2]/\kz b cb dc rg nd d w Aa (Vc l c key val dead deps clock cl op).2.1 (Vc l c key val dead deps clock cl op).2.2 H'):=by
 have hmay:=IG ok b cb dc rg nd (w:=w) (seg:=ua l) (Aa:=Aa) hdk;have jg:=ob.len;have PK:c.len=(c.lg.length:Int):=rfl
 cases hrm:Ce l 1 with
 |false=>
  have e0:Vc l c key val dead deps clock cl op=((0,51),c,l):=if_neg (by rw[hrm];decide);rw[e0];rw[pz hrm] at hmay;refine ce func142 λg R=>?_;repeat' first|refine vb ?_|refine Ud λ_=>?_|refine cq hmay ?_
  exact D.Vb [Jb b cb dc rg nd d w true,oa cb c v,hv,qf w d (ua l) Aa,hd] _ rfl rfl rfl ⟨rfl,v,hv,hd,rfl,hs,hdk⟩
 |true=>
  have e0:Vc l c key val dead deps clock cl op=((c.Xf key val dead deps clock cl op).1,(c.Xf key val dead deps clock cl op).2,td l (c.Xf key val dead deps clock cl op).2 c.len):=if_pos hrm;rw[e0];rw[mz hrm] at hmay;have hlc:=yG c cb hs.rs;have th:=SU ob cb hs key val dead deps clock cl op;have yF:=ob.put key val dead deps clock cl op;generalize c.Xf key val dead deps clock cl op=t at th yF⊢;refine ce func142 λg R=>?_;repeat' first|refine vb ?_|refine Ud λ_=>?_|refine cq hmay ?_|refine cq hlc ?_
  rename_i b9;refine sK (ml [11,1,4]) [Jb b cb dc rg nd d w true,Na b9 deps] ?_;repeat' first|refine ga ?_|refine Of (t:=47) deps.enc deps.enc ?_
  refine ck th ?_;rintro _ _ ⟨rfl,v',Lc,rfl,hs'⟩;have Vt:=qv ok b cb dc rg nd (w:=w) (Aa:=Aa) hdk yF hs'.rs (was:=c.len) (by omega) (by omega);refine vb ?_;refine ck Vt ?_;rintro _ _ ⟨rfl,hd',rfl,Fj⟩;refine vb ?_;exact D.Vb [Jb b cb dc rg nd d w true,oa cb t.2 v',Lc,qf w d (ua (td l t.2 c.len)) Aa,hd'] _ rfl rfl rfl ⟨rfl,v',Lc,hd',rfl,hs',Fj⟩
end
def Kc(l:List Lf)(c:CS)(x:Va):(Bool×Int)×CS×List Lf:=
 if Ce l 2=true then
  (if(c.enter x).1.2=0 then((c.enter x).1,(c.enter x).2,Xe (Bb (if(c.enter x).1.1=true then(Qj l).1 else l) (de x (c.enter x).2.bs)).1) else((c.enter x).1,(c.enter x).2,l))
 else((false,51),c,l)
def JR{l:List Lf}(ok:Ge l)(b cb:Nat)(dc rg nd:Int){d w:Nat}{Aa:Int}{hd:Hp}(hdk:Od (dk l) d hd){c:CS}(ob:Lb c){v:Value}{hv:Hp}(hs:ia 49 c.lg v hv)(x:Va):
  Ct prog 52 [b,.agg (List.toArray x.enc)] [Jb b cb dc rg nd d w true,oa cb c v,hv,qf w d (ua l) Aa,hd]
   (λr H'=>r= .tuple #[.bool (Kc l c x).1.1,.int .i64 (Kc l c x).1.2]/\kz b cb dc rg nd d w Aa (Kc l c x).2.1 (Kc l c x).2.2 H'):=by
 have hrm:=UM ok hdk (w:=w) (seg:=ua l) (Aa:=Aa) 2
 cases hr:Ce l 2 with
 |false=>
  have e0:Kc l c x=((false,51),c,l):=if_neg (by rw[hr];decide);rw[e0];rw[hr] at hrm;refine ce func52 λg R=>?_;repeat' first|refine vb ?_|refine Ud λ_=>?_|refine cq hrm ?_
  exact D.Vb [Jb b cb dc rg nd d w true,oa cb c v,hv,qf w d (ua l) Aa,hd] _ rfl rfl rfl ⟨rfl,v,hv,hd,rfl,hs,hdk⟩
 |true=>
  rw[hr] at hrm;have th:=eO ob cb hs x;have yF:=ob.enter x;have e0:Kc l c x=(if(c.enter x).1.2=0 then((c.enter x).1,(c.enter x).2,Xe (Bb (if(c.enter x).1.1=true then(Qj l).1 else l) (de x (c.enter x).2.bs)).1) else((c.enter x).1,(c.enter x).2,l)):=if_pos hr;rw[e0];clear e0;generalize c.enter x=t at th yF⊢;obtain⟨⟨P7,er⟩,c'⟩:=t;simp only[] at th yF⊢;by_cases he:er=0
  .subst he;rw[if_pos rfl]
   cases P7 with
   |true=>
    rw[if_pos rfl];have yo:=gY ok hdk (w:=w) (Aa:=Aa);have CO:=ok.cut;refine ce func52 λg R=>?_;repeat' first|refine vb ?_|refine Ud λ_=>?_|refine cq hrm ?_
    rename_i b3;refine sK (ml [5,1,4]) [Jb b cb dc rg nd d w true,Mc b3 x] ?_;repeat' first|refine ga ?_|refine Of (t:=40) x.enc x.enc ?_
    refine ck th ?_;rintro _ _ ⟨rfl,v',Lc,rfl,hs'⟩;refine vb ?_;refine ck yo ?_;rintro _ _ ⟨Bk,rfl,rfl,KR⟩;simp only[can];have CI:=ZH c' cb v';try refine ga ?_
    refine sK (ml [9,1,1,2]) [Jb b cb dc rg nd d w true,Mc b3 x] ?_;repeat' first|refine ga ?_|refine Of (t:=40) x.enc x.enc ?_|refine cq CI ?_|refine Vf (t:=140) (de x c'.bs).enc ?_
    refine Kp [de x c'.bs] (λv2 h2 Oa=>?_);try refine ga ?_
    have Lr:=qL CO KR Oa.rs (by simp) (λr hr=>by
     rw[mem_singleton.1 hr];show(0:Nat)<=1073741824;omega) (w:=w) (Aa:=Aa)
    rw[HG] at Lr;refine ck Lr ?_;rintro _ _ ⟨Bn,rfl,rfl,rL⟩;have Ws:=JG (Ge.JE CO (de x c'.bs)) rL (w:=w) (seg:=ua (Bb (Qj l).1 (de x c'.bs)).1) (Aa:=Aa);refine vb ?_;refine ck Ws ?_;rintro _ _ ⟨Hj,rfl,rfl,sL⟩;refine vb ?_
    exact D.Vb [Jb b cb dc rg nd d w true,oa cb c' v',Lc,qf w d (ua (Bb (Qj l).1 (de x c'.bs)).1) Aa,Hj] _ rfl rfl rfl ⟨rfl,v',Lc,Hj,by rw[Df],hs',sL⟩
   |false=>
    rw[if_neg (by decide)];refine ce func52 λg R=>?_;repeat' first|refine vb ?_|refine Ud λ_=>?_|refine cq hrm ?_
    rename_i b3;refine sK (ml [5,1,4]) [Jb b cb dc rg nd d w true,Mc b3 x] ?_;repeat' first|refine ga ?_|refine Of (t:=40) x.enc x.enc ?_
    refine ck th ?_;rintro _ _ ⟨rfl,v',Lc,rfl,hs'⟩;refine vb ?_;have CI:=ZH c' cb v';refine sK (ml [9,1,1,2]) [Jb b cb dc rg nd d w true,Mc b3 x] ?_;repeat' first|refine ga ?_|refine Of (t:=40) x.enc x.enc ?_|refine cq CI ?_|refine Vf (t:=140) (de x c'.bs).enc ?_
    refine Kp [de x c'.bs] (λv2 h2 Oa=>?_);try refine ga ?_
    have Lr:=qL ok hdk Oa.rs (by simp) (λr hr=>by
     rw[mem_singleton.1 hr];show(0:Nat)<=1073741824;omega) (w:=w) (Aa:=Aa)
    rw[HG] at Lr;refine ck Lr ?_;rintro _ _ ⟨Bn,rfl,rfl,rL⟩;have Ws:=JG (Ge.JE ok (de x c'.bs)) rL (w:=w) (seg:=ua (Bb l (de x c'.bs)).1) (Aa:=Aa);refine vb ?_;refine ck Ws ?_;rintro _ _ ⟨Hj,rfl,rfl,sL⟩;refine vb ?_;exact D.Vb [Jb b cb dc rg nd d w true,oa cb c' v',Lc,qf w d (ua (Bb l (de x c'.bs)).1) Aa,Hj] _ rfl rfl rfl ⟨rfl,v',Lc,Hj,by rw[Df],hs',sL⟩
  .rw[if_neg he];refine ce func52 λg R=>?_;repeat' first|refine vb ?_|refine Ud λ_=>?_|refine cq hrm ?_
   rename_i b3;refine sK (ml [5,1,4]) [Jb b cb dc rg nd d w true,Mc b3 x] ?_;repeat' first|refine ga ?_|refine Of (t:=40) x.enc x.enc ?_
   refine ck th ?_;rintro _ _ ⟨rfl,v',Lc,rfl,hs'⟩;refine vb ?_;exact D.Vb [Jb b cb dc rg nd d w true,oa cb c' v',Lc,qf w d (ua l) Aa,hd] _ rfl rfl rfl ⟨rfl,v',Lc,hd,rfl,hs',hdk⟩
theorem Ge.yaa:Od {}=Od (dk []):=rfl
def xV(dc rg nd:Int):Ct prog 49 [.int .i64 dc,.int .i64 rg,.int .i64 nd] []
  (λr H'=>∃b cb d w hd,r= .pointer (some ⟨b,0,none⟩)/\H'=[Jb b cb dc rg nd d w true,oa cb (CS.new dc rg nd) (.slice none 0 0),qf w d (ua []) 0,hd]/\Od (dk []) d hd):=by
 refine Ct.mk' func49 rfl rfl rfl (λg R=>?_);try simp only[ca]
 simp only[na];try refine ga ?_
 refine WX.call rfl WU rfl ?_;rintro _ _ ⟨d,h0,rfl,rfl,Bk⟩;have Bk:Od (dk []) d h0:=Bk;simp only[ca,na];repeat'(first|refine ga ?_|refine bx rfl (λ_=>?_)|refine Vf [.pointer none,.int .i64 dc,.int .i64 rg,.int .i64 nd,.pointer (some ⟨d,0,none⟩),.pointer none,.bool true] ?_|fail)
 rename_i b;refine WX.call rfl (qz Ge.nil Bk) rfl ?_;rintro _ _ ⟨w,u,h1,ho,rfl,rfl,Bn,hs1⟩;simp only[ca,na];try refine ga ?_
 refine I.st ?_;refine Td [.pointer none,.int .i64 dc,.int .i64 rg,.int .i64 nd,.pointer (some ⟨d,0,none⟩),.pointer none,.bool true] [.pointer none,.int .i64 dc,.int .i64 rg,.int .i64 nd,.pointer (some ⟨d,0,none⟩),.pointer (some ⟨w,0,none⟩),.bool true] rfl rfl ?_;try refine ga ?_
 refine WX.call rfl (Kx dc rg nd) rfl ?_;rintro _ _ ⟨cb,rfl,rfl⟩;simp only[ca,na];try refine ga ?_
 refine I.st ?_;refine Td [.pointer none,.int .i64 dc,.int .i64 rg,.int .i64 nd,.pointer (some ⟨d,0,none⟩),.pointer (some ⟨w,0,none⟩),.bool true] [.pointer (some ⟨cb,0,none⟩),.int .i64 dc,.int .i64 rg,.int .i64 nd,.pointer (some ⟨d,0,none⟩),.pointer (some ⟨w,0,none⟩),.bool true] rfl rfl ?_;try refine ga ?_
 exact D.Ia [Jb b cb dc rg nd d w true,oa cb (CS.new dc rg nd) (.slice none 0 0),qf w d (ua []) 0,h1] _ rfl rfl ⟨b,cb,d,w,h1,rfl,rfl,Bn⟩
def tL{l:List Lf}(ok:Ge l)(b cb:Nat)(dc rg nd:Int){d w:Nat}{seg Aa:Int}{hd:Hp}(hdk:Od (dk l) d hd)(c:CS)(v:Value){keep:Int}(Lt: -9223372036854775808<=keep)(hk2:keep<=9223372036854775807):
  Ct prog 81 [.pointer (some ⟨b,0,none⟩),.int .i64 keep] [Jb b cb dc rg nd d w true,oa cb c v,qf w d seg Aa,hd]
   (λr H'=>r= .tuple #[]/\∃Ya hd',H'=[Jb b Ya dc rg nd d w false,oa Ya (CS.new dc rg nd) (.slice none 0 0),qf w d seg Aa,hd']/\Od ⟨oe l keep.toNat,[]⟩ d hd'):=by
 have cB:=NO ok hdk Lt hk2;refine Ct.mk' func81 rfl rfl rfl (λg R=>?_);try simp only[ca]
 simp only[na];try refine ga ?_
 refine WX.call rfl cB rfl ?_;rintro _ _ ⟨hd',rfl,rfl,Fj⟩;simp only[ca,na];try refine ga ?_
 refine I.st ?_;refine Td [.pointer (some ⟨cb,0,none⟩),.int .i64 dc,.int .i64 rg,.int .i64 nd,.pointer (some ⟨d,0,none⟩),.pointer (some ⟨w,0,none⟩),.bool true] [.pointer (some ⟨cb,0,none⟩),.int .i64 dc,.int .i64 rg,.int .i64 nd,.pointer (some ⟨d,0,none⟩),.pointer (some ⟨w,0,none⟩),.bool false] rfl rfl ?_;try refine ga ?_
 refine W.hp (H':=[hd',Jb b cb dc rg nd d w false,oa cb c v,qf w d seg Aa,R]) rfl ?_;refine W.Wf 8 (List.replicate 13 true++[false]) [Jb b cb dc rg nd d w false] Tryz.mix (by kernel_rfl) ?_;try refine ga ?_
 refine WX.call rfl (Kx dc rg nd) rfl ?_;rintro _ _ ⟨Ya,rfl,rfl⟩;simp only[ca,na];try refine ga ?_
 refine I.st ?_;refine Td [.pointer (some ⟨cb,0,none⟩),.int .i64 dc,.int .i64 rg,.int .i64 nd,.pointer (some ⟨d,0,none⟩),.pointer (some ⟨w,0,none⟩),.bool false] [.pointer (some ⟨Ya,0,none⟩),.int .i64 dc,.int .i64 rg,.int .i64 nd,.pointer (some ⟨d,0,none⟩),.pointer (some ⟨w,0,none⟩),.bool false] rfl rfl ?_;try refine ga ?_
 exact D.Bc [Jb b Ya dc rg nd d w false,oa Ya (CS.new dc rg nd) (.slice none 0 0),qf w d seg Aa,hd'] _ rfl ⟨rfl,Ya,hd',rfl,Fj⟩
def uL(b cb:Nat)(dc rg nd:Int)(d w:Nat)(keep:Int):
  Ct prog 81 [.pointer (some ⟨b,0,none⟩),.int .i64 keep] [Jb b cb dc rg nd d w false] (λr H'=>r= .tuple #[]/\H'=[Jb b cb dc rg nd d w false]):=by
 refine Ct.mk' func81 rfl rfl rfl (λg R=>?_);try simp only[ca]
 simp only[na];try refine ga ?_
 exact D.Bc [Jb b cb dc rg nd d w false] _ rfl ⟨rfl,rfl⟩
def jL(b cb:Nat)(dc rg nd:Int)(d w:Nat):
  Ct prog 19 [b] [Jb b cb dc rg nd d w true] (λr H'=>r= .tuple #[]/\H'=[Jb b cb dc rg nd d w true]):=by
 refine ce func19 λg R=>?_;repeat' first|refine vb ?_|refine W.Vp 0 rfl ?_
 first|exact D.Bc [Jb b cb dc rg nd d w true] _ rfl ⟨rfl,rfl⟩|exact D.ai [Jb b cb dc rg nd d w true] _ rfl ⟨rfl,rfl⟩
abbrev OO(b:Nat)(r:Rec):Hp:=[(b,.cells (List.toArray r.enc) 140 (0,0))]
def yV(nd:Int)(rs:List Rec)(i:Nat):Rb:=Oh nd (rs.take i)
def rz{nd:Int}{rs:List Rec}{i:Nat}{r:Rec}(h:rs[i]? =some r):yV nd rs (i+1)=Kh nd (yV nd rs i) r:=by
 unfold yV;rw[take_add_one,h];exact iz nd _ r
structure hY where
 (w b3 b5 i:Nat)
 (u v:Value)
 (h ho hl:Hp)
 pr:Rec
 f:Rb
def mL(b cb:Nat)(dc rg nd:Int){d w:Nat}{hd:Hp}{l:List Lf}{rs:List Rec}{seg Aa:Int}
  (hop:Ct prog 82 [d] [hd] (λres H'=>∃w' u h' ho,res= .tuple #[.pointer (some ⟨w',0,none⟩),u]/\H'=[qf w' d seg Aa,h',ho]/\Od (dk l) d h'/\ia 140 rs u ho))
  (hl:rs.length<=1000000)(yw:∀r∈rs,r.k=1/\Xc r.e\/r.k=2/\Nd r.c):
  Ct prog 19 [b] [Jb b cb dc rg nd d w false,hd]
   (λr H'=>r= .tuple #[]/\∃Ya w' hd',∃v hv,H'=[Jb b Ya dc rg nd d w' true,oa Ya (CS.restore dc rg nd (Oh nd rs).x (Oh nd rs).sn (Oh nd rs).bs (Oh nd rs).es) v,hv,qf w' d seg Aa,hd']/\
    ia 49 (CS.restore dc rg nd (Oh nd rs).x (Oh nd rs).sn (Oh nd rs).bs (Oh nd rs).es).lg v hv/\Od (dk l) d hd'):=by
 refine ce func19 λg R=>?_;simp only[can]
 refine W.iY (α:=hY) 0 rfl (λa=>a.i<=rs.length/\Od (dk l) d a.h/\ia 140 rs a.u a.ho/\ia 49 a.f.es a.v a.hl/\a.f.es.length<=a.i/\a.f=yV nd rs a.i)
  (λa=>[(0,b),(2,a.u),(3,a.b3),(4,a.v),(5,a.b5),(6,.int .i64 (a.i:Int)),(7,a.f.sn),(8,a.f.bs)])
  (λa=>[OO a.b5 a.pr,a.hl,Mc a.b3 a.f.x,qf a.w d seg Aa,a.h,a.ho,Jb b cb dc rg nd d a.w true,R]) (λa=>rs.length - a.i) ?_ ?_
 .try refine ga ?_
  refine Wh [cb,dc,rg,nd,d,w,.bool false] [cb,dc,rg,nd,d,w,.bool true] ?_;try refine ga ?_
  refine ck hop ?_;rintro _ _ ⟨w',u,h',ho,rfl,rfl,hdk,zF⟩;have wK:=zF.rs;obtain⟨up,uc,rfl⟩:=wK.len;refine vb ?_;refine Wh [cb,dc,rg,nd,d,w,.bool true] [cb,dc,rg,nd,d,.pointer (some ⟨w',0,none⟩),.bool true] ?_;repeat' first|refine ga ?_|refine al λ_=>?_
  rename_i b3 b5;refine W.Ke ?_;refine W.h0 [[],OO b5 Rec.z,Mc b3 Rb.z.x,qf w' d seg Aa,h',ho,Jb b cb dc rg nd d w' true,R] ?_;obtain⟨i,qQ⟩:∃i:Nat,i=0:=⟨_,rfl⟩;obtain⟨f,Ox⟩:∃f,f=Rb.z:=⟨_,rfl⟩;obtain⟨v,E6⟩:∃v:Value,v= .slice none 0 0:=⟨_,rfl⟩;obtain⟨pr,hp0⟩:∃pr,pr=Rec.z:=⟨_,rfl⟩;obtain⟨Su,hh0⟩:∃h:Hp,h=[]:=⟨_,rfl⟩;have hf:f=yV nd rs i:=by rw[Ox,qQ];rfl
  have uz:ia 49 f.es v Su:=by rw[Ox,E6,hh0];exact ia.nil _
  have hel:f.es.length<=i:=by rw[Ox];exact Gi _
  have hi:i<=rs.length:=by rw[qQ];exact Gi _
  refine W.Q7 (L':=[(31,.bool (decide ((i:Int)=(rs.length:Int)))),(0,b),(2,.slice up rs.length uc),(3,b3),(4,v),(5,b5),(6,.int .i64 (i:Int)),(7,f.sn),(8,f.bs)])
   (H':=[OO b5 pr,Su,Mc b3 f.x,qf w' d seg Aa,h',ho,Jb b cb dc rg nd d w' true,R]) ?_ (by subst qQ Ox E6;exact(by repeat(first|exact Ca.nil|refine Ca.cons rfl ?_))) (by subst hp0 hh0 Ox;exact(Ga.qa inferInstance))
  clear qQ Ox E6 hp0 hh0;have AF:=uz.rs;by_cases hlt:i<rs.length
  .obtain⟨r,hr⟩:=Sh hlt;have hsu:=rz (nd:=nd) hr;rw[<-hf] at hsu;rcases yw r (mem_of_getElem? hr) with⟨k1,fX⟩|⟨k2,hrc⟩
   .have hst:Kh nd (f) r=⟨(f).x,(f).sn,(f).bs,(f).es++[r.e]⟩:=if_pos k1;rw[hst] at hsu;repeat' first|refine ga ?_|refine rG wK hr ?_|refine Of (t:=49) r.enc r.e.enc ?_|refine nh (pr).enc r.enc ?_
    refine Kp [r.e] (λv2 h2 Oa=>?_);refine Ys (zb:=by simp only[Gb,jd];omega) uz Oa.rs (λv3 h3 Fc=>?_);try refine ga ?_
    exact D.PO (⟨w',b3,b5,i+1,.slice up rs.length uc,v3,h',ho,h3,r,⟨(f).x,(f).sn,(f).bs,(f).es++[r.e]⟩⟩:hY) ⟨by simp only[];omega,hdk,zF,Fc,by simp only[Cb,Gb,jd];omega,hsu.symm⟩ (by repeat(first|exact Ca.nil|refine Ca.cons rfl ?_)) (Ga.qa inferInstance)
   .have hst:Kh nd (f) r=⟨r.c,if 0<Zb (some (bf r.c)) nd then Zb (some (bf r.c)) nd else(f).sn,r.base,(f).es⟩:=if_neg (by omega);rw[hst] at hsu;obtain⟨c,Gy,ob,hch⟩:=Ti hrc;have hsi:=Ou (Ii.some ob) nd;rw[show Yb (some c)=r.c from Gy.symm] at hsi;rw[hch] at hsu;generalize Zb (some c) nd=z at hsi hsu;repeat' first|refine ga ?_|refine rG wK hr ?_|refine nh (pr).enc r.enc ?_
    refine sK (ml [4,1]) [OO b5 r] ?_;repeat' first|refine ga ?_|refine Of (t:=40) r.enc r.c.enc ?_|refine nh (f).x.enc r.c.enc ?_
    refine wq ?_;by_cases hz:0<z
    .rw[if_pos hz] at hsu;repeat' first|refine ga ?_|refine Of (t:=40) r.c.enc r.c.enc ?_|refine cq hsi ?_
     exact D.PO (⟨w',b3,b5,i+1,.slice up rs.length uc,v,h',ho,Su,r,⟨r.c,z,r.base,(f).es⟩⟩:hY) ⟨by simp only[];omega,hdk,zF,uz,by simp only[];omega,hsu.symm⟩ (by repeat(first|exact Ca.nil|refine Ca.cons rfl ?_)) (Ga.qa inferInstance)
    .rw[if_neg hz] at hsu;repeat' first|refine ga ?_|refine Of (t:=40) r.c.enc r.c.enc ?_|refine cq hsi ?_
     exact D.PO (⟨w',b3,b5,i+1,.slice up rs.length uc,v,h',ho,Su,r,⟨r.c,(f).sn,r.base,(f).es⟩⟩:hY) ⟨by simp only[];omega,hdk,zF,uz,by simp only[];omega,hsu.symm⟩ (by repeat(first|exact Ca.nil|refine Ca.cons rfl ?_)) (Ga.qa inferInstance)
  .have gX:i=rs.length:=by omega
   have N2:f=Oh nd rs:=by rw[hf,gX];unfold yV;rw[take_length]
   have fX:=zw dc rg nd (f).x (f).sn (f).bs uz.rs (by omega);try refine ga ?_
   refine sK (ml [17,1]) [Jb b cb dc rg nd d w' true,Mc b3 (f).x] ?_;repeat' first|refine ga ?_|refine Of (t:=40) (f).x.enc (f).x.enc ?_
   refine ck fX ?_;rintro _ _ ⟨Ya,v9,tQ,rfl,rfl,Wo⟩;refine vb ?_;refine Wh [cb,dc,rg,nd,d,.pointer (some ⟨w',0,none⟩),.bool true] [.pointer (some ⟨Ya,0,none⟩),dc,rg,nd,d,.pointer (some ⟨w',0,none⟩),.bool true] ?_;try refine ga ?_
   rw[<-N2]
   first
    |exact D.Bc [Jb b Ya dc rg nd d w' true,oa Ya (CS.restore dc rg nd (f).x (f).sn (f).bs (f).es) v9,tQ,qf w' d seg Aa,h'] _ rfl ⟨rfl,Ya,w',h',v9,tQ,rfl,Wo,hdk⟩
    |exact D.ai [Jb b Ya dc rg nd d w' true,oa Ya (CS.restore dc rg nd (f).x (f).sn (f).bs (f).es) v9,tQ,qf w' d seg Aa,h'] _ rfl ⟨rfl,Ya,w',h',v9,tQ,rfl,Wo,hdk⟩
 .rintro⟨w',b3,b5,i,u,v,h',ho,Su,pr,f⟩ ⟨hi,hdk,zF,uz,hel,hf⟩;simp only[] at hi hdk zF uz hel hf⊢;have wK:=zF.rs;obtain⟨up,uc,rfl⟩:=wK.len;have AF:=uz.rs;try refine ga ?_
  by_cases hlt:i<rs.length
  .obtain⟨r,hr⟩:=Sh hlt;have hsu:=rz (nd:=nd) hr;rw[<-hf] at hsu;rcases yw r (mem_of_getElem? hr) with⟨k1,fX⟩|⟨k2,hrc⟩
   .have hst:Kh nd (f) r=⟨(f).x,(f).sn,(f).bs,(f).es++[r.e]⟩:=if_pos k1;rw[hst] at hsu;repeat' first|refine ga ?_|refine rG wK hr ?_|refine Of (t:=49) r.enc r.e.enc ?_|refine nh (pr).enc r.enc ?_
    refine Kp [r.e] (λv2 h2 Oa=>?_);refine Ys (zb:=by simp only[Gb,jd];omega) uz Oa.rs (λv3 h3 Fc=>?_);try refine ga ?_
    exact D.PO (⟨w',b3,b5,i+1,.slice up rs.length uc,v3,h',ho,h3,r,⟨(f).x,(f).sn,(f).bs,(f).es++[r.e]⟩⟩:hY) ⟨⟨by simp only[];omega,hdk,zF,Fc,by simp only[Cb,Gb,jd];omega,hsu.symm⟩,by simp only[];omega⟩ (by repeat(first|exact Ca.nil|refine Ca.cons rfl ?_)) (Ga.qa inferInstance)
   .have hst:Kh nd (f) r=⟨r.c,if 0<Zb (some (bf r.c)) nd then Zb (some (bf r.c)) nd else(f).sn,r.base,(f).es⟩:=if_neg (by omega);rw[hst] at hsu;obtain⟨c,Gy,ob,hch⟩:=Ti hrc;have hsi:=Ou (Ii.some ob) nd;rw[show Yb (some c)=r.c from Gy.symm] at hsi;rw[hch] at hsu;generalize Zb (some c) nd=z at hsi hsu;repeat' first|refine ga ?_|refine rG wK hr ?_|refine nh (pr).enc r.enc ?_
    refine sK (ml [4,1]) [OO b5 r] ?_;repeat' first|refine ga ?_|refine Of (t:=40) r.enc r.c.enc ?_|refine nh (f).x.enc r.c.enc ?_
    refine wq ?_;by_cases hz:0<z
    .rw[if_pos hz] at hsu;repeat' first|refine ga ?_|refine Of (t:=40) r.c.enc r.c.enc ?_|refine cq hsi ?_
     exact D.PO (⟨w',b3,b5,i+1,.slice up rs.length uc,v,h',ho,Su,r,⟨r.c,z,r.base,(f).es⟩⟩:hY) ⟨⟨by simp only[];omega,hdk,zF,uz,by simp only[];omega,hsu.symm⟩,by simp only[];omega⟩ (by repeat(first|exact Ca.nil|refine Ca.cons rfl ?_)) (Ga.qa inferInstance)
    .rw[if_neg hz] at hsu;repeat' first|refine ga ?_|refine Of (t:=40) r.c.enc r.c.enc ?_|refine cq hsi ?_
     exact D.PO (⟨w',b3,b5,i+1,.slice up rs.length uc,v,h',ho,Su,r,⟨r.c,(f).sn,r.base,(f).es⟩⟩:hY) ⟨⟨by simp only[];omega,hdk,zF,uz,by simp only[];omega,hsu.symm⟩,by simp only[];omega⟩ (by repeat(first|exact Ca.nil|refine Ca.cons rfl ?_)) (Ga.qa inferInstance)
  .have gX:i=rs.length:=by omega
   have N2:f=Oh nd rs:=by rw[hf,gX];unfold yV;rw[take_length]
   have fX:=zw dc rg nd (f).x (f).sn (f).bs uz.rs (by omega);try refine ga ?_
   refine sK (ml [17,1]) [Jb b cb dc rg nd d w' true,Mc b3 (f).x] ?_;repeat' first|refine ga ?_|refine Of (t:=40) (f).x.enc (f).x.enc ?_
   refine ck fX ?_;rintro _ _ ⟨Ya,v9,tQ,rfl,rfl,Wo⟩;refine vb ?_;refine Wh [cb,dc,rg,nd,d,.pointer (some ⟨w',0,none⟩),.bool true] [.pointer (some ⟨Ya,0,none⟩),dc,rg,nd,d,.pointer (some ⟨w',0,none⟩),.bool true] ?_;try refine ga ?_
   rw[<-N2]
   first
    |exact D.Bc [Jb b Ya dc rg nd d w' true,oa Ya (CS.restore dc rg nd (f).x (f).sn (f).bs (f).es) v9,tQ,qf w' d seg Aa,h'] _ rfl ⟨rfl,Ya,w',h',v9,tQ,rfl,Wo,hdk⟩
    |exact D.ai [Jb b Ya dc rg nd d w' true,oa Ya (CS.restore dc rg nd (f).x (f).sn (f).bs (f).es) v9,tQ,qf w' d seg Aa,h'] _ rfl ⟨rfl,Ya,w',h',v9,tQ,rfl,Wo,hdk⟩
variable{s:CS}
def CS.JM(s:CS):Int×Bool:=if Wc s.co s.nd<0\/s.du=0 then(0,false) else if s.ak<s.du then(s.ak+1,true) else if s.st<s.du then(s.du,true) else(0,false)
def VS(ok:Lb s)(h0:0<=s.ak)(b:Nat)(v:Value):Ct prog 162 [.pointer (some ⟨b,0,none⟩)] [oa b s v] (λr H'=>r= .tuple #[.int .i64 s.JM.1,.bool s.JM.2]/\H'=[oa b s v]):=by
 have Qs:=Nu ok.co s.nd;have hd:=ok.du;have hl:=ok.len;have hlen:s.len=(s.lg.length:Int):=rfl;unfold CS.JM;generalize Wc s.co s.nd=bh at Qs⊢;have fin:∀{r:Int×Bool} {r':Int×Bool},r=r'->Ct prog 162 [.pointer (some ⟨b,0,none⟩)] [oa b s v] (λx H'=>x= .tuple #[.int .i64 r'.1,.bool r'.2]/\H'=[oa b s v])->Ct prog 162 [.pointer (some ⟨b,0,none⟩)] [oa b s v] (λx H'=>x= .tuple #[.int .i64 r.1,.bool r.2]/\H'=[oa b s v]):=λe h=>by rw[e];exact h
 by_cases h1:bh<0
 .refine fin (if_pos (.inl h1)) ?_;refine Ct.mk' func162 rfl rfl rfl (λg R=>?_);try simp only[ca]
  simp only[na];try refine ga ?_
  refine W.quiet Tryz.mix (by kernel_rfl) ?_;repeat'(first|refine ga ?_|refine Pa (s.cells v) (Yb s.co).enc rfl ?_|refine WX.ja rfl Qs rfl ?_|fail)
  exact D.Vb [oa b s v] _ rfl rfl rfl ⟨rfl,rfl⟩
 by_cases h2:s.du=0
 .refine fin (if_pos (.inr h2)) ?_;refine Ct.mk' func162 rfl rfl rfl (λg R=>?_);try simp only[ca]
  simp only[na];try refine ga ?_
  refine W.quiet Tryz.mix (by kernel_rfl) ?_;repeat'(first|refine ga ?_|refine Pa (s.cells v) (Yb s.co).enc rfl ?_|refine WX.ja rfl Qs rfl ?_|fail)
  exact D.Vb [oa b s v] _ rfl rfl rfl ⟨rfl,rfl⟩
 have h12: ¬(bh<0\/s.du=0):=by omega
 by_cases h3:s.ak<s.du
 .refine fin ((if_neg h12).trans (if_pos h3)) ?_;refine Ct.mk' func162 rfl rfl rfl (λg R=>?_);try simp only[ca]
  simp only[na];try refine ga ?_
  refine W.quiet Tryz.mix (by kernel_rfl) ?_;repeat'(first|refine ga ?_|refine Pa (s.cells v) (Yb s.co).enc rfl ?_|refine WX.ja rfl Qs rfl ?_|fail)
  refine W.quiet Tryz.mix (by kernel_rfl) ?_;try refine ga ?_
  exact D.Vb [oa b s v] _ rfl rfl rfl ⟨rfl,rfl⟩
 by_cases h4:s.st<s.du
 .refine fin ((if_neg h12).trans ((if_neg h3).trans (if_pos h4))) ?_;refine Ct.mk' func162 rfl rfl rfl (λg R=>?_);try simp only[ca]
  simp only[na];try refine ga ?_
  refine W.quiet Tryz.mix (by kernel_rfl) ?_;repeat'(first|refine ga ?_|refine Pa (s.cells v) (Yb s.co).enc rfl ?_|refine WX.ja rfl Qs rfl ?_|fail)
  refine W.quiet Tryz.mix (by kernel_rfl) ?_;try refine ga ?_
  refine W.quiet Tryz.mix (by kernel_rfl) ?_;try refine ga ?_
  exact D.Vb [oa b s v] _ rfl rfl rfl ⟨rfl,rfl⟩
 .refine fin ((if_neg h12).trans ((if_neg h3).trans (if_neg h4))) ?_;refine Ct.mk' func162 rfl rfl rfl (λg R=>?_);try simp only[ca]
  simp only[na];try refine ga ?_
  refine W.quiet Tryz.mix (by kernel_rfl) ?_;repeat'(first|refine ga ?_|refine Pa (s.cells v) (Yb s.co).enc rfl ?_|refine WX.ja rfl Qs rfl ?_|fail)
  refine W.quiet Tryz.mix (by kernel_rfl) ?_;try refine ga ?_
  refine W.quiet Tryz.mix (by kernel_rfl) ?_;try refine ga ?_
  exact D.Vb [oa b s v] _ rfl rfl rfl ⟨rfl,rfl⟩
def CS.TX(s:CS):Bool:=decide (s.last) && (Yb s.co).jo && decide (s.bs<=s.ak)
def XL(ok:Lb s)(b:Nat)(v:Value):Ct prog 30 [.pointer (some ⟨b,0,none⟩)] [oa b s v] (λr H'=>r= .bool s.TX/\H'=[oa b s v]):=by
 have hil:=Zm ok.co b v;unfold CS.TX;by_cases h1:s.last
 .rw[decide_eq_true h1] at hil⊢;obtain⟨jo,hj⟩:∃jo,(Yb s.co).jo=jo:=⟨_,rfl⟩;rw[hj];refine Ct.mk' func30 rfl rfl rfl (λg R=>?_);try simp only[ca]
  simp only[na];try refine ga ?_
  refine W.quiet Tryz.mix (by kernel_rfl) ?_;repeat'(first|refine ga ?_|refine WX.ja rfl hil rfl ?_|fail)
  refine WX.as 12 (.bool jo) rfl (by rw[<-hj]) ?_;cases jo
  all_goals
   try refine ga ?_
   exact D.Ia [oa b s v] _ rfl rfl ⟨rfl,rfl⟩
 .rw[decide_eq_false h1] at hil⊢;refine Ct.mk' func30 rfl rfl rfl (λg R=>?_);try simp only[ca]
  simp only[na];try refine ga ?_
  refine W.quiet Tryz.mix (by kernel_rfl) ?_;repeat'(first|refine ga ?_|refine WX.ja rfl hil rfl ?_|fail)
  exact D.Ia [oa b s v] _ rfl rfl ⟨rfl,rfl⟩
end Go.Proofs.YthebagfahkebiaaGreat
