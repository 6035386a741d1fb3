/- Texts of one road. -/
import Derived.ChangeShapes
import Derived.Test.YthebagfahkebiaaGreatQAP
import Derived.Test.YthebagfahkebiaaGreatQAT
import Derived.Test.YthebagfahkebiaaGreatQAU
set_option linter.all false
set_option maxHeartbeats 8000000
set_option maxRecDepth 20000
namespace Go.Proofs.YthebagfahkebiaaGreat
open Go Go.Sl Go.Proofs.Tryz List
structure LI(l:List Lf)(c:CS)(N:Int):Prop where
 lg:tV l
 tl:L2 l c
 ok:Lb c
 n:ua l<=N
section
variable{l:List Lf}{c:CS}{N:Int}
def LI.mono{M:Int}(h:LI l c N)(hm:N<=M):LI l c M:=⟨h.lg,h.tl,h.ok,Int.le_trans h.n hm⟩
def LI.chain{c':CS}(h:LI l c N)(ok:Lb c')(h1:c'.nd=c.nd)(h2:c'.co=c.co)(h3:c'.sn=c.sn)(h4:c'.bs=c.bs)(h5:c'.lg=c.lg)(h6:c'.du=c.du):LI l c' N:=
 ⟨h.lg,⟨by rw[h1,h2];exact h.tl.x,by rw[h1,h3];exact h.tl.sn,by rw[h1,h4];exact h.tl.bs,by rw[h1,h5];exact h.tl.es,by rw[h5,h6];exact h.tl.du⟩,ok,h.n⟩
def LI.settle(h:LI l c N):LI l c.settle N:=by
 obtain⟨-,-,h3,h4,h5,h6,h7,h8,-,-⟩:=Ja c;exact h.chain h.ok.settle h3 h4 h5 h6 h7 h8
def LI.nil(dc rg nd:Int):LI [] (CS.new dc rg nd) 0:=
 ⟨⟨Ge.nil,(λr hr=>nomatch hr),(λr hr=>nomatch hr),Nat.le_refl _⟩,⟨rfl,rfl,rfl,rfl,Gi _⟩,Lb.new dc rg nd,Int.le_refl _⟩
def LI.push(h:LI l c N){e:ya}(he:Xc e)(hl:c.lg.length<256)(hr:Ce l 1=true)(hN:N<1099511627776):LI (Bb l (Im e)).1 (c.push e) (N+1):=by
 have hn:=h.n;obtain⟨-,h2,h3,h4⟩:=xF h.lg.ok (n:=1) (by decide) hr (by omega) (aF he);have O2:=h.lg.top;have vL:=h.tl.du;have hd:=h.ok.du;have hlen:c.len=(c.lg.length:Int):=rfl
 have e1:Oh (c.push e).nd (we (Ta (Bb l (Im e)).1))=⟨(Oh c.nd (we (Ta l))).x,(Oh c.nd (we (Ta l))).sn,(Oh c.nd (we (Ta l))).bs,(Oh c.nd (we (Ta l))).es++[e]⟩:=by
  rw[h2,Xi,if_neg (show ¬(Im e).k=3 from(by decide: ¬(1:Int)=3)),iz];rfl
 refine⟨⟨h.lg.ok.JE _,λr hr=>?_,?_,?_⟩,⟨?_,?_,?_,?_,?_⟩,h.ok.push hl he,by omega⟩
 .rw[h2] at hr;rcases mem_append.1 hr with hr|hr
  .exact h.lg.re r hr
  .rw[mem_singleton.1 hr];exact .inl ⟨rfl,he⟩
 .rw[h2,h3,drop_append_of_le_length O2];intro r hr;rcases mem_append.1 hr with hr|hr
  .exact h.lg.loose r hr
  .rw[mem_singleton.1 hr];rfl
 .rw[h2,h3,Cb];omega
 .rw[e1];exact h.tl.x
 .rw[e1];exact h.tl.sn
 .rw[e1];exact h.tl.bs
 .rw[e1];show _++[e]=c.lg++[e];rw[h.tl.es]
 .rw[h2,h3,Cb];show _<=(c.lg++[e]).length - c.du.toNat;rw[Cb];simp only[Gb,jd];omega
def Mr(l:List Lf)(c c':CS)(e:ya)(h:c'.lg=c.lg++[e]):td l c' c.len=(Bb l (Im e)).1:=by
 unfold td;have h1:c'.len=c.len+1:=by unfold CS.len;rw[h];simp
 rw[if_pos (by omega),h,show c.len.toNat=c.lg.length from rfl,getD_eq_getElem?_getD,List.getElem?_concat_length];rfl
def Ef(l:List Lf)(c:CS):td l c c.len=l:=by unfold td;rw[if_neg (by omega)]
def Zi(c c':CS):Prop:=c'=c\/∃e,Xc e/\c.lg.length<256/\(c'=c.push e\/c'=(c.push e).settle)
def LI.jY(h:LI l c N){c':CS}(hg:Zi c c')(hr:Ce l 1=true)(hN:N<1099511627776):LI (td l c' c.len) c' (N+1):=by
 rcases hg with rfl|⟨e,he,hl,rfl|rfl⟩
 .rw[Ef];exact h.mono (by omega)
 .rw[Mr l c _ e rfl];exact h.push he hl hr hN
 .rw[Mr l c _ e (Ja (c.push e)).2.2.2.2.2.2.1];exact(h.push he hl hr hN).settle
def Zi.take(c:CS)(f ep ix:Int)(e:ya):Zi c (c.take f ep ix e).2:=by
 unfold CS.take;split
 .rename_i h;exact .inr ⟨e,h.2.2.2.2.1,by have:=h.2.2.2.2.2;simp only[CS.len] at this;omega,.inr rfl⟩
 .exact .inl rfl
def Zi.wg(c:CS)(f ep ix:Int)(e:ya):Zi c (c.wg f ep ix e).2:=by
 unfold CS.wg;split
 .rename_i h;exact .inr ⟨e,h.2.2.2.2.1,by have:=h.2.2.2.2.2;simp only[CS.len] at this;omega,.inl rfl⟩
 .exact .inl rfl
def Zi.Xb(c:CS)(e:ya):Zi c (c.Xb e).2:=by
 unfold CS.Xb;repeat' split
 all_goals first|exact .inl rfl|skip
 rename_i h1 _ _ _ h2;simp only[not_or,Classical.not_not] at h1;exact .inr ⟨e,h1.1,by simp only[CS.len] at h2;omega,.inr rfl⟩
def Zi.Gc(c:CS)(e:ya):Zi c (c.Gc e).2:=by
 unfold CS.Gc;repeat' split
 all_goals first|exact .inl rfl|skip
 rename_i h1 _ _ _ h2;simp only[not_or,Classical.not_not] at h1;exact .inr ⟨e,h1.1,by simp only[CS.len] at h2;omega,.inl rfl⟩
def Zi.put(c:CS)(key val:ByteArray)(dead:Bool)(deps:V9)(clock cl op:Int):Zi c (c.Xf key val dead deps clock cl op).2:=by
 unfold CS.Xf;repeat' split
 all_goals first|exact .inl rfl|skip
 rename_i h1 h2;exact .inr ⟨_,Classical.not_not.1 h2,by simp only[not_or,CS.len] at h1;omega,.inr rfl⟩
def Zi.vk(c:CS)(key val:ByteArray)(dead:Bool)(deps:V9)(clock cl op:Int):Zi c (c.vk key val dead deps clock cl op).2:=by
 unfold CS.vk;repeat' split
 all_goals first|exact .inl rfl|skip
 rename_i h1 h2;exact .inr ⟨_,Classical.not_not.1 h2,by simp only[not_or,CS.len] at h1;omega,.inl rfl⟩
def Zi.ok{c c':CS}(hg:Zi c c')(ok:Lb c):Lb c':=by
 rcases hg with rfl|⟨e,he,hl,rfl|rfl⟩
 .exact ok
 .exact ok.push hl he
 .exact(ok.push hl he).settle
def Zi.nd{c c':CS}(hg:Zi c c'):c'.dc=c.dc/\c'.rg=c.rg/\c'.nd=c.nd:=by
 rcases hg with rfl|⟨e,he,hl,rfl|rfl⟩
 .exact⟨rfl,rfl,rfl⟩
 .exact⟨rfl,rfl,rfl⟩
 .obtain⟨h1,h2,h3,-⟩:=Ja (c.push e);exact⟨h1,h2,h3⟩
def LI.sync(h:LI l c N):LI (Xe l) c.sync N:=by
 have h1:LI (Xe l) {c with du:=c.len} N:=by
  refine⟨⟨h.lg.ok.sync,by rw[Ue];exact h.lg.re,?_,by rw[Ue,Yi];exact Nat.le_refl _⟩,⟨by rw[Ue];exact h.tl.x,by rw[Ue];exact h.tl.sn,by rw[Ue];exact h.tl.bs,by rw[Ue];exact h.tl.es,?_⟩,⟨h.ok.co,⟨h.ok.bs.1,Int.le_trans h.ok.bs.2 h.ok.du.2⟩,⟨Int.natCast_nonneg _,Int.le_refl _⟩,h.ok.len,h.ok.es⟩,by rw[Df];exact h.n⟩
  .rw[Ue,Yi,drop_length];intro r hr;cases hr
  .rw[Ue,Yi,Nat.sub_self];exact Gi _
 exact h1.settle
def LI.heard(h:LI l c N)(f ep du st:Int):LI l (c.heard f ep du st).2 N:=by
 have hok:=h.ok.heard f ep du st;unfold CS.heard at hok⊢;split
 .rename_i hh;rw[if_pos hh] at hok;obtain⟨-,-,h3,h4,h5,h6,h7,h8,-⟩:=Re c f (mn du c.du) (mn st c.du);obtain⟨-,-,s3,s4,s5,s6,s7,s8,-,-⟩:=Ja (c.Mb f (mn du c.du) (mn st c.du));exact h.chain hok (s3.trans h3) (s4.trans h4) (s5.trans h5) (s6.trans h6) (s7.trans h7) (s8.trans h8)
 .exact h
def NI{x:Va}(h:Nd x):Yb (some (bf x))=x:=h.2.1
def tv{x:Va}(h:Nd x){b:Int}(b0:0<=b)(b1:b<=MC):(de x b).code=0:=by
 have:=ZN h.2.2 b0 b1;rwa [h.2.1] at this
def vz{n:Int}{r:Rec}(hc:r.code=0):(Bb [⟨n,[Nc],1⟩] r).1=[⟨n,[Nc,r],1⟩]:=by
 have hle:=(Rec.good hc).yh;have mh:=(Rec.good Ph).yh;have hb:(bytes [Nc]).length=Nc.fr.length:=by unfold bytes;simp
 unfold Bb;rw[if_neg (by simpa using hc)];simp only[List.getLast?_singleton,dropLast_singleton];rw[if_neg (by rw[hb];omega),if_neg (by rw[Qe];simp only[map_cons,map_nil,sum_cons,sum_nil];rw[hb];omega)];rfl
def LI.enter(h:LI l c N)(x:Va)(hN:N+2<1099511627776):LI (Kc l c x).2.2 (Kc l c x).2.1 (N+2):=by
 have hn:=h.n;have hlo:=(Eg h.lg.ok).1;unfold Kc
 cases hr:Ce l 2 with
 |false=>rw[if_neg (by decide)];exact h.mono (by omega)
 |true=>
  rw[if_pos rfl];by_cases hR:Nd x;rotate_left
  .have e:c.enter x=((false,1),c):=if_pos hR;rw[e,if_neg (show ¬(1:Int)=0 by decide)];exact h.mono (by omega)
  by_cases xU:x.ep<=(Yb c.co).ep
  .have e:c.enter x=((false,80),c):=by unfold CS.enter;rw[if_neg (λh=>h hR),if_pos xU]
   rw[e,if_neg (show ¬(80:Int)=0 by decide)];exact h.mono (by omega)
  have e:c.enter x=((c.Zh x,0),(c.Qc x).settle):=by unfold CS.enter;rw[if_neg (λh=>h hR),if_neg xU]
  have hok:Lb (c.Qc x):=h.ok.Qc hR;have VA:=gI hR.2.2 c.nd;rw[e,if_pos rfl];simp only[];rw[show(c.Qc x).settle.bs=(c.Qc x).bs from(Ja _).2.2.2.2.2.1];refine LI.settle ?_;by_cases hs:Zb (some (bf x)) c.nd≠0/\Zb (some (bf x)) c.nd≠c.sn
  .have e1:c.Qc x=⟨c.dc,c.rg,c.nd,some (bf x),Zb (some (bf x)) c.nd,0,[],0,0,0,0,true⟩:=if_pos hs;have e2:c.Zh x=true:=Fi hs;have hc:(de x (c.Qc x).bs).code=0:=tv hR (by rw[e1];exact Int.le_refl 0) (by rw[e1];show(0:Int)<=MC;decide);rw[e2,if_pos rfl,ov h.lg.ok hr (by omega) hlo,vz hc];generalize CI:(c.Qc x).bs=bs at hc⊢;have hb0:bs=0:=by rw[<-CI,e1]
   subst hb0;rw[e1] at hok⊢;have Ws:Xe [⟨ua l+1,[Nc,de x 0],1⟩]=[⟨ua l+1,[Nc,de x 0],2⟩]:=rfl;rw[Ws];have ob:=h.lg.ok.cut;rw[ov h.lg.ok hr (by omega) hlo] at ob;have Oj:=(ob.JE (de x 0)).sync;rw[vz hc,Ws] at Oj
   have hrb:Oh c.nd (we (Ta [⟨ua l+1,[Nc,de x 0],2⟩]))=⟨x,Zb (some (bf x)) c.nd,0,[]⟩:=by
    have:Oh c.nd (we (Ta [⟨ua l+1,[Nc,de x 0],2⟩]))=Kh c.nd Rb.z (de x 0):=rfl;rw[this];unfold Kh;rw[if_neg (show ¬(de x 0).k=1 from(by decide: ¬(2:Int)=1)),show(de x 0).c=x from rfl,if_pos (by omega)];rfl
   refine⟨⟨Oj,λr hr=>?_,(λr hr=>nomatch hr),Nat.le_refl 2⟩,⟨?_,?_,?_,?_,Gi _⟩,hok,?_⟩
   .rcases mem_cons.1 hr with rfl|hr
    .exact .inr (.inr rfl)
    .rw[mem_singleton.1 hr];exact .inr (.inl ⟨rfl,hR⟩)
   .show(Oh c.nd _).x=_;rw[hrb];exact(NI hR).symm
   .show(Oh c.nd _).sn=_;rw[hrb]
   .show(Oh c.nd _).bs=_;rw[hrb]
   .show(Oh c.nd _).es=_;rw[hrb]
   .show ua l+1<=_;omega
  .have e1:c.Qc x=⟨c.dc,c.rg,c.nd,some (bf x),c.sn,c.len,c.lg,c.len,c.st,0,0,true⟩:=if_neg hs;have e2:c.Zh x=false:=gj hs;have jg:=h.ok.len;have hlen:c.len=(c.lg.length:Int):=rfl;have QH:(c.Qc x).bs=c.len:=by rw[e1]
   have hc:(de x (c.Qc x).bs).code=0:=tv hR (by rw[QH];omega) (by rw[QH];simp only[MC];omega);rw[e2,if_neg (by decide)];obtain⟨-,g2,g3,g4⟩:=xF h.lg.ok (n:=2) (by decide) hr (by omega) hc;rw[QH] at g2 g3 g4 hc⊢;rw[e1] at hok⊢
   have hrb:Oh c.nd (we (Ta (Xe (Bb l (de x c.len)).1)))=⟨x,c.sn,c.len,c.lg⟩:=by
    rw[Ue,g2,Xi,if_neg (show ¬(de x c.len).k=3 from(by decide: ¬(2:Int)=3)),iz];unfold Kh;rw[if_neg (show ¬(de x c.len).k=1 from(by decide: ¬(2:Int)=1)),show(de x c.len).c=x from rfl,h.tl.sn,h.tl.es];congr 1;split
    .rename_i hp;exact Classical.byContradiction λhne=>hs ⟨by omega,hne⟩
    .rfl
   refine⟨⟨(h.lg.ok.JE _).sync,λr hr=>?_,?_,by rw[Ue,Yi];exact Nat.le_refl _⟩,⟨?_,?_,?_,?_,?_⟩,hok,?_⟩
   .rw[Ue,g2] at hr;rcases mem_append.1 hr with hr|hr
    .exact h.lg.re r hr
    .rw[mem_singleton.1 hr];exact .inr (.inl ⟨rfl,hR⟩)
   .rw[Ue,Yi,drop_length];intro r hr;cases hr
   .show(Oh c.nd _).x=_;rw[hrb];exact(NI hR).symm
   .show(Oh c.nd _).sn=_;rw[hrb]
   .show(Oh c.nd _).bs=_;rw[hrb]
   .show(Oh c.nd _).es=_;rw[hrb]
   .rw[Ue,Yi,Nat.sub_self];exact Gi _
   .rw[Df];omega
def CS.again(c:CS)(rs:List Rec):CS:=CS.restore c.dc c.rg c.nd (Oh c.nd (we rs)).x (Oh c.nd (we rs)).sn (Oh c.nd (we rs)).bs (Oh c.nd (we rs)).es
def uv{l:List Lf}(h:∀f∈l,f.full=f):Dg l=(Ta l).length:=by
 have e:Xe l=l:=by
  unfold Xe
  conv=>rhs;rw[<-map_id l]
  exact map_congr_left h
 rw[<-Yi,e]
def MR(rs:List Rec):∀r∈we rs,r∈rs/\r.k≠3:=by
 have key:∀(rs o:List Rec),∀r∈rs.foldl (λo r=>if r.k=3 then[] else o++[r]) o,r∈o\/(r∈rs/\r.k≠3):=by
  intro rs
  induction rs with
  |nil=>intro o r h;exact .inl h
  |cons x t ih=>
   intro o r h;rw[foldl_cons] at h;rcases ih _ r h with h|h
   .split at h
    .cases h
    .rename_i hx;rcases mem_append.1 h with h|h
     .exact .inl h
     .rw[mem_singleton.1 h];exact .inr ⟨zf ..,hx⟩
   .exact .inr ⟨Rn _ h.1,h.2⟩
 intro r h;rcases key rs [] r h with h|h
 .cases h
 .exact h
def LI.KG{l':List Lf}{m:Nat}(h:LI l c N)(ux:Ge l')(hf:∀f∈l',f.full=f)(hk:Dg l<=m)(hm:m<=(Ta l).length)(hr:Ta l'=(Ta l).take m)(hn:ua l'<=ua l):
  LI l' (c.again (Ta l')) N/\c.again (Ta l')=CS.restore c.dc c.rg c.nd (Yb c.co) c.sn c.bs (c.lg.take (c.lg.length - ((Ta l).length - m)))/\(c.again (Ta l')).co=c.co/\(c.again (Ta l')).sn=c.sn/\(c.again (Ta l')).bs=c.bs/\
   (c.again (Ta l')).lg=c.lg.take (c.lg.length - ((Ta l).length - m))/\(c.again (Ta l')).du=(c.again (Ta l')).len/\c.du.toNat<=c.lg.length - ((Ta l).length - m):=by
 have hn0:=h.n;have O2:=h.lg.top;have vL:=h.tl.du;have hd:=h.ok.du;have hlen:c.len=(c.lg.length:Int):=rfl;obtain⟨j,rfl⟩:∃j,m=Dg l+j:=⟨m - Dg l,by omega⟩;obtain⟨A,hA⟩:∃A,(Ta l).take (Dg l)=A:=⟨_,rfl⟩;obtain⟨B,hB⟩:∃B,(Ta l).drop (Dg l)=B:=⟨_,rfl⟩;have hAB:Ta l=A++B:=by rw[<-hA,<-hB,take_append_drop]
 have hBl:B.length=(Ta l).length - Dg l:=by rw[<-hB,length_drop]
 have R7:∀r∈B,r.k=1:=by rw[<-hB];exact h.lg.loose
 have nQ:Ta l'=A++B.take j:=by rw[hr,take_add,hA,hB]
 have hBj:∀r∈B.take j,r.k=1:=λr hr=>R7 r (mem_of_mem_take hr)
 have e1:Oh c.nd (we (Ta l))=⟨(Oh c.nd (we A)).x,(Oh c.nd (we A)).sn,(Oh c.nd (we A)).bs,(Oh c.nd (we A)).es++B.map (·.e)⟩:=by
  rw[hAB,Xq _ _ R7,FG,GG _ _ _ R7]
 have e2:Oh c.nd (we (Ta l'))=⟨(Oh c.nd (we A)).x,(Oh c.nd (we A)).sn,(Oh c.nd (we A)).bs,(Oh c.nd (we A)).es++(B.take j).map (·.e)⟩:=by
  rw[nQ,Xq _ _ hBj,FG,GG _ _ _ hBj]
 have t1:=h.tl.x;have t2:=h.tl.sn;have t3:=h.tl.bs;have t4:=h.tl.es;rw[e1] at t1 t2 t3 t4;simp only[] at t1 t2 t3 t4;have jg:c.lg.length=(Oh c.nd (we A)).es.length+B.length:=by rw[<-t4];simp
 have F6:(Oh c.nd (we A)).es++(B.take j).map (·.e)=c.lg.take (c.lg.length - ((Ta l).length - (Dg l+j))):=by
  rw[show c.lg.length - ((Ta l).length - (Dg l+j))=(Oh c.nd (we A)).es.length+j by omega,<-t4,take_length_add_append,map_take]
 rw[t1,t2,t3,F6] at e2;have hag:c.again (Ta l')=CS.restore c.dc c.rg c.nd (Yb c.co) c.sn c.bs (c.lg.take (c.lg.length - ((Ta l).length - (Dg l+j)))):=by unfold CS.again;rw[e2]
 have hdl:c.du.toNat<=c.lg.length - ((Ta l).length - (Dg l+j)):=by omega
 generalize hK:c.lg.length - ((Ta l).length - (Dg l+j))=K at*;have hlk:(c.lg.take K).length=K:=by rw[Fe];omega
 obtain⟨r,hres⟩:∃r,CS.restore c.dc c.rg c.nd (Yb c.co) c.sn c.bs (c.lg.take K)=r:=⟨_,rfl⟩;obtain⟨-,-,s3,s4,s5,s6,s7,s8,-,-⟩:=Ja (CS.eg c.dc c.rg c.nd (Yb c.co) c.sn c.bs (c.lg.take K))
 have oQ:(CS.eg c.dc c.rg c.nd (Yb c.co) c.sn c.bs (c.lg.take K)).co=c.co:=by
  show(if Nd (Yb c.co) then some (bf (Yb c.co)) else none)=c.co
  cases hc:c.co with
  |none=>exact if_neg Hx
  |some d=>
   have okd:=h.ok.co d hc;show(if Nd d.cfg then some (bf d.cfg) else none)=some d;rw[if_pos (vv okd),Ft (by have:=okd.l4;omega)]
 have CI:(CS.eg c.dc c.rg c.nd (Yb c.co) c.sn c.bs (c.lg.take K)).bs=c.bs:=by
  show mx 0 (mn c.bs ((c.lg.take K).length:Int))=c.bs;rw[hlk];have:=h.ok.bs;unfold mx mn;split<;>split<;>omega
 have s3:(CS.restore c.dc c.rg c.nd (Yb c.co) c.sn c.bs (c.lg.take K)).nd=c.nd:=s3;have s4:(CS.restore c.dc c.rg c.nd (Yb c.co) c.sn c.bs (c.lg.take K)).co=c.co:=s4.trans oQ;have s5:(CS.restore c.dc c.rg c.nd (Yb c.co) c.sn c.bs (c.lg.take K)).sn=c.sn:=s5;have s6:(CS.restore c.dc c.rg c.nd (Yb c.co) c.sn c.bs (c.lg.take K)).bs=c.bs:=s6.trans CI;have s7:(CS.restore c.dc c.rg c.nd (Yb c.co) c.sn c.bs (c.lg.take K)).lg=c.lg.take K:=s7;have s8:(CS.restore c.dc c.rg c.nd (Yb c.co) c.sn c.bs (c.lg.take K)).du=((c.lg.take K).length:Int):=s8;have hok:Lb (CS.restore c.dc c.rg c.nd (Yb c.co) c.sn c.bs (c.lg.take K)):=Lb.restore (by rw[hlk];have:=h.ok.len;omega) λe he=>h.ok.es e (mem_of_mem_take he);rw[hag];refine⟨⟨⟨ux,λx hx=>h.lg.re x (by rw[hr] at hx;exact mem_of_mem_take hx),?_,by rw[uv hf];exact Nat.le_refl _⟩,⟨?_,?_,?_,?_,?_⟩,hok,by omega⟩,rfl,s4,s5,s6,s7,?_,hdl⟩
 .rw[uv hf,drop_length];intro x hx;cases hx
 .rw[s3,s4,e2]
 .rw[s3,s5,e2]
 .rw[s3,s6,e2]
 .rw[s3,s7,e2]
 .rw[uv hf,Nat.sub_self];exact Gi _
 .rw[s8];unfold CS.len;rw[s7]
end
inductive Ea where
 |up (l:List Lf) (c:CS) (t:Int)
 |dn (l:List Lf) (c:CS) (q:Nat)
def Ea.Xa:Ea->Bool
 | .up .. =>true
 | .dn .. =>false
def Ea.c0:Ea->CS
 | .up _ c _=>c
 | .dn _ c _=>c
def Ea.l0:Ea->List Lf
 | .up l _ _=>l
 | .dn l _ _=>l
def Ea.ch:Ea->CS
 | .up _ c _=>c
 | .dn _ c _=>CS.new c.dc c.rg c.nd
def Ea.O7:Ea->ze
 | .up l _ _=>dk l
 | .dn l _ q=>⟨oe l q,[]⟩
def Ea.ok(s:Ea)(N:Int):Prop:=LI s.l0 s.c0 N
structure I2(s:Ea)(cb d w:Nat)(v:Value)(hv:Hp)(seg t:Int)(hd:Hp):Prop where
 sl:ia 49 s.ch.lg v hv
 dk:Od s.O7 d hd
 sg:s.Xa=true->seg=ua s.l0
 tn:∀l c t',s= .up l c t'->t=t'
 nv:s.Xa=false->v= .slice none 0 0/\hv=[]
def og(s:Ea)(b:Nat)(h:Hp):Prop:=∃cb d w v hv seg t hd,h=Jb b cb s.c0.dc s.c0.rg s.c0.nd d w s.Xa++(oa cb s.ch v++(hv++(qf w d seg t++hd)))/\I2 s cb d w v hv seg t hd
def Ea.sync:Ea->Ea
 | .up l c t=> .up (Xe l) c.sync t
 | .dn l c q=> .dn l c q
def Ea.take(s:Ea)(fr ep ix:Int)(e:ya):Bool×Ea:=match s with
 | .up l c t=>((Kd l c fr ep ix e).1,.up (Kd l c fr ep ix e).2.2 (Kd l c fr ep ix e).2.1 t)
 | .dn l c q=>(false,.dn l c q)
def Ea.inj(s:Ea)(e:ya):Int×Ea:=match s with
 | .up l c t=>((Yf l c e).1,.up (Yf l c e).2.2 (Yf l c e).2.1 t)
 | .dn l c q=>(52,.dn l c q)
def Ea.put(s:Ea)(key val:ByteArray)(dead:Bool)(deps:V9)(clock cl op:Int):(Int×Int)×Ea:=match s with
 | .up l c t=>((Vc l c key val dead deps clock cl op).1,.up (Vc l c key val dead deps clock cl op).2.2 (Vc l c key val dead deps clock cl op).2.1 t)
 | .dn l c q=>((0,52),.dn l c q)
def Ea.enter(s:Ea)(x:Va):(Bool×Int)×Ea:=match s with
 | .up l c t=>((Kc l c x).1,.up (Kc l c x).2.2 (Kc l c x).2.1 t)
 | .dn l c q=>((false,52),.dn l c q)
def Ea.heard(s:Ea)(f ep du st:Int):Bool×Ea:=match s with
 | .up l c t=>((c.heard f ep du st).1,.up l (c.heard f ep du st).2 t)
 | .dn l c q=>(false,.dn l c q)
def Ea.Pb(s:Ea)(keep:Int):Ea:=match s with
 | .up l c _=> .dn l c keep.toNat
 | .dn l c q=> .dn l c q
section
variable{s:Ea}{N:Int}
def Ea.ok.mono{M:Int}(h:s.ok N)(hm:N<=M):s.ok M:=LI.mono h hm
def Ea.ok.sync(h:s.ok N):s.sync.ok N:=by
 cases s with
 |up l c t=>exact LI.sync h
 |dn l c q=>exact h
def Ea.ok.take(h:s.ok N)(hN:N<1099511627776)(fr ep ix:Int)(e:ya):(s.take fr ep ix e).2.ok (N+1):=by
 cases s with
 |up l c t=>
  have h:LI l c N:=h;show LI (Kd l c fr ep ix e).2.2 (Kd l c fr ep ix e).2.1 (N+1);unfold Kd;split
  .rename_i hr;exact h.jY (Zi.take c fr ep ix e) hr hN
  .exact h.mono (by omega)
 |dn l c q=>exact LI.mono h (by omega)
def Ea.ok.inj(h:s.ok N)(hN:N<1099511627776)(e:ya):(s.inj e).2.ok (N+1):=by
 cases s with
 |up l c t=>
  have h:LI l c N:=h;show LI (Yf l c e).2.2 (Yf l c e).2.1 (N+1);unfold Yf;split
  .rename_i hr;exact h.jY (Zi.Xb c e) hr hN
  .exact h.mono (by omega)
 |dn l c q=>exact LI.mono h (by omega)
def Ea.ok.put(h:s.ok N)(hN:N<1099511627776)(key val:ByteArray)(dead:Bool)(deps:V9)(clock cl op:Int):(s.put key val dead deps clock cl op).2.ok (N+1):=by
 cases s with
 |up l c t=>
  have h:LI l c N:=h;show LI (Vc l c key val dead deps clock cl op).2.2 (Vc l c key val dead deps clock cl op).2.1 (N+1);unfold Vc;split
  .rename_i hr;exact h.jY (Zi.put c key val dead deps clock cl op) hr hN
  .exact h.mono (by omega)
 |dn l c q=>exact LI.mono h (by omega)
def Ea.ok.enter(h:s.ok N)(hN:N+2<1099511627776)(x:Va):(s.enter x).2.ok (N+2):=by
 cases s with
 |up l c t=>exact LI.enter h x hN
 |dn l c q=>exact LI.mono h (by omega)
def Ea.ok.heard(h:s.ok N)(f ep du st:Int):(s.heard f ep du st).2.ok N:=by
 cases s with
 |up l c t=>exact LI.heard h f ep du st
 |dn l c q=>exact h
def Ea.ok.Pb(h:s.ok N)(keep:Int):(s.Pb keep).ok N:=by
 cases s with
 |up l c t=>exact h
 |dn l c q=>exact h
end
def Ob(c c':CS):Prop:=c'.dc=c.dc/\c'.rg=c.rg/\c'.nd=c.nd
def Ob.refl(c:CS):Ob c c:=⟨rfl,rfl,rfl⟩
def Ob.trans{a b c:CS}(h:Ob a b)(k:Ob b c):Ob a c:=⟨k.1.trans h.1,k.2.1.trans h.2.1,k.2.2.trans h.2.2⟩
def wv(c:CS):Ob c c.settle:=⟨(Ja c).1,(Ja c).2.1,(Ja c).2.2.1⟩
def Bm(c:CS):Ob c c.sync:=wv {c with du:=c.len}
def xh(c:CS)(x:Va):Ob c (c.enter x).2:=by
 unfold CS.enter;split
 .exact Ob.refl c
 .split
  .exact Ob.refl c
  .refine Ob.trans ?_ (wv (c.Qc x));unfold CS.Qc;split<;>exact⟨rfl,rfl,rfl⟩
def Ck(c:CS)(f ep du st:Int):Ob c (c.heard f ep du st).2:=by
 unfold CS.heard;split
 .exact Ob.trans ⟨(Re c f _ _).1,(Re c f _ _).2.1,(Re c f _ _).2.2.1⟩ (wv _)
 .exact Ob.refl c
def FI(c:CS)(rs:List Rec):Ob c (c.again rs):=⟨(Ja _).1,(Ja _).2.1,(Ja _).2.2.1⟩
def Am(l:List Lf)(c:CS)(fr ep ix:Int)(e:ya):Ob c (Kd l c fr ep ix e).2.1:=by
 unfold Kd;split
 .exact(Zi.take c fr ep ix e).nd
 .exact Ob.refl c
def Rp(l:List Lf)(c:CS)(e:ya):Ob c (Yf l c e).2.1:=by
 unfold Yf;split
 .exact(Zi.Xb c e).nd
 .exact Ob.refl c
def Sp(l:List Lf)(c:CS)(key val:ByteArray)(dead:Bool)(deps:V9)(clock cl op:Int):Ob c (Vc l c key val dead deps clock cl op).2.1:=by
 unfold Vc;split
 .exact(Zi.put c key val dead deps clock cl op).nd
 .exact Ob.refl c
def wz(l:List Lf)(c:CS)(x:Va):Ob c (Kc l c x).2.1:=by
 unfold Kc;repeat' split
 all_goals first|exact Ob.refl c|exact xh c x
def wF(dc rg nd f ep du st:Int):(CS.new dc rg nd).heard f ep du st=(false,CS.new dc rg nd):=by
 have hb:Wc (CS.new dc rg nd).co (CS.new dc rg nd).nd= -1:=by
  show Wc none nd= -1;unfold Wc;split
  .rfl
  .rfl
 unfold CS.heard;rw[hb,if_neg (by omega)]
abbrev yb(b cb d w:Nat)(up:Bool)(tn:Int):Hp:=[(b,.cells (List.toArray [cb,d,w,.bool up,tn]) 119 (0,0))]
def zz(b cb d w:Nat)(Aa tn:Int)(c:CS)(l:List Lf)(T:Int)(H':HH):Prop:=
 ∃v hv hd,H'=[yb b cb d w true tn,ta cb c v,hv,ff w d (ua l) Aa,hd]/\ia 49 c.lg v hv/\RD l d hd T
def BR(dc rg nd:Int):Ct prog 54 [.int .i64 dc,.int .i64 rg,.int .i64 nd] []
  (λr H'=>∃b cb d w hd,r= .pointer (some ⟨b,0,none⟩)/\H'=[yb b cb d w true 0,ta cb (CS.new dc rg nd) (.slice none 0 0),ff w d (ua []) 0,hd]/\RD [] d hd 0):=by
 refine Ct.mk' func54 rfl rfl rfl (λg R=>?_);try simp only[ca]
 simp only[na];try refine ga ?_
 refine WX.call rfl (Gt dc rg nd) rfl ?_;rintro _ _ ⟨cb,rfl,rfl⟩;simp only[ca,na];refine WX.call rfl zV rfl ?_;rintro _ _ ⟨d,h0,rfl,rfl,Bk⟩;have Bk:RD [] d h0 0:=⟨[],0,LR.nil,Int.le_refl 0,Bk⟩;simp only[ca,na];repeat'(first|refine ga ?_|refine bx rfl (λ_=>?_)|refine Vf [.pointer (some ⟨cb,0,none⟩),.pointer (some ⟨d,0,none⟩),.pointer none,.bool true,.int .i64 0] ?_|fail)
 rename_i b;refine WX.call rfl (Dw Ge.nil Bk) rfl ?_;rintro _ _ ⟨w,u,h1,ho,rfl,rfl,Bn,hs1⟩;simp only[ca,na];try refine ga ?_
 refine I.st ?_;refine Td [.pointer (some ⟨cb,0,none⟩),.pointer (some ⟨d,0,none⟩),.pointer none,.bool true,.int .i64 0] [.pointer (some ⟨cb,0,none⟩),.pointer (some ⟨d,0,none⟩),.pointer (some ⟨w,0,none⟩),.bool true,.int .i64 0] rfl rfl ?_;try refine ga ?_
 exact D.Ia [yb b cb d w true 0,ta cb (CS.new dc rg nd) (.slice none 0 0),ff w d (ua []) 0,h1] _ rfl rfl ⟨b,cb,d,w,h1,rfl,rfl,Bn⟩
def UO{e:ya}(h:Xc e):(Im e).size<=1073741824:=by
 have hk:=h.key;have hv:=h.val;show e.key.data.toList.length+e.val.data.toList.length<=1073741824;rw[show e.key.data.toList.length=e.key.size from Array.length_toList,show e.val.data.toList.length=e.val.size from Array.length_toList];omega
section
variable{l:List Lf}(ok:Ge l)(b cb:Nat){d w:Nat}{Aa tn T:Int}{hd:Hp}(hdk:RD l d hd T)(Mi:0<=T)(hT:T<=137438953472)
include ok hdk Mi hT
theorem Nr{r:Rec}(hz:r.size<=1073741824):
  Ct prog 138 [b,.agg (List.toArray r.enc)] [yb b cb d w true tn,ff w d (ua l) Aa,hd]
   (λv H'=>v= .tuple #[]/\∃hd',H'=[yb b cb d w true tn,ff w d (ua (Bb l r).1) Aa,hd']/\RD (Bb l r).1 d hd' (T+243)):=by
 refine ce func138 λg R=>?_;repeat' first|refine vb ?_|refine Ud λ_=>?_
 rename_i b1;refine sK (ml [6,3]) [yb b cb d w true tn,OO b1 r] ?_;repeat' first|refine ga ?_|refine Of (t:=140) r.enc r.enc ?_
 refine Kp [r] (λv2 h2 Oa=>?_);try refine ga ?_
 refine WX.Ke ?_;refine Ys (zb:=by simp only[Gb,jd];omega) (show ia 140 ([]:List Rec) (.slice none 0 0) [] from ia.nil _) Oa.rs (λv3 h3 Fc=>?_);rw[nil_append] at Fc;try refine ga ?_
 have Lr:=AV ok hdk Fc.rs (by simp) Mi (by omega) (λx hx=>by rw[mem_singleton.1 hx];exact hz) (w:=w) (Aa:=Aa);rw[HG] at Lr;refine ck Lr ?_;rintro _ _ ⟨hd',rfl,rfl,Fj⟩;have Fj:RD (Bb l r).1 d hd' (T+243):=Fj;refine vb ?_;exact D.Bc [yb b cb d w true tn,ff w d (ua (Bb l r).1) Aa,hd'] _ rfl ⟨rfl,hd',rfl,Fj⟩
theorem Pr{c:CS}(ob:Lb c){v:Value}{hv:Hp}(hs:Rs c.lg v hv){was:Nat}(h1:was<=c.lg.length)(h2:c.lg.length<=was+1):
  Ct prog 181 [b,.int .i64 (was:Int)] [yb b cb d w true tn,ta cb c v,hv,ff w d (ua l) Aa,hd]
   (λr H'=>r= .tuple #[]/\∃hd',H'=[yb b cb d w true tn,ta cb c v,hv,ff w d (ua (td l c (was:Int))) Aa,hd']/\RD (td l c (was:Int)) d hd' (T+243)):=by
 have jg:=ob.len;have hlen:c.len=(c.lg.length:Int):=rfl;obtain⟨up,uc,rfl⟩:=hs.len;refine ce func181 λg R=>?_;simp only[can];by_cases hw:was<c.lg.length
 .obtain⟨e,he⟩:=Sh hw
  have hg:td l c (was:Int)=(Bb l (Im e)).1:=by
   unfold td;rw[if_pos (by omega),show((was:Int)).toNat=was from rfl,getD_eq_getElem?_getD,he];rfl
  have D6:Xc e:=ob.es _ (mem_of_getElem? he);have hwr:=Nr ok b cb hdk Mi hT (w:=w) (Aa:=Aa) (tn:=tn) (UO D6);rw[hg];obtain⟨lz,hlz⟩:∃lz,(Bb l (Im e)).1=lz:=⟨_,rfl⟩;rw[hlz] at hwr⊢;try refine ga ?_
  refine W.lo (α:=Nat×List Lf×Hp) (λx=>(x.1=was/\x.2.1=l/\x.2.2=hd)\/(x.1=was+1/\x.2.1=lz/\RD lz d x.2.2 (T+243))) (λx=>[(0,b),(4,.int .i64 (x.1:Int))])
   (λx=>[yb b cb d w true tn,ta cb c (.slice up c.lg.length uc),hv,ff w d (ua x.2.1) Aa,x.2.2,R]) (λx=>was+1 - x.1) (was,l,hd) (.inl ⟨rfl,rfl,rfl⟩) ?_
  rintro⟨i,m,y⟩ (⟨rfl,rfl,rfl⟩|⟨rfl,rfl,hy⟩)
  .simp only[];repeat' first|refine ga ?_|refine rG hs he ?_|refine Vf (t:=140) (Im e).enc ?_
   refine ck hwr ?_;rintro _ _ ⟨rfl,hd',rfl,Fj⟩;refine vb ?_;exact D.rd (i+1,lz,hd') (.inr ⟨rfl,rfl,Fj⟩) (by simp only[];omega)
  .have Hy:c.lg.length=was+1:=by omega
   simp only[];try refine ga ?_
   exact D.Bc [yb b cb d w true tn,ta cb c (.slice up c.lg.length uc),hv,ff w d (ua m) Aa,y] _ rfl ⟨rfl,y,rfl,hy⟩
 .have hg:td l c (was:Int)=l:=by unfold td;rw[if_neg (by omega)]
  rw[hg];try refine ga ?_
  refine W.lo (α:=Unit) (λ_=>True) (λ_=>[(0,b),(4,.int .i64 (was:Int))])
   (λ_=>[yb b cb d w true tn,ta cb c (.slice up c.lg.length uc),hv,ff w d (ua l) Aa,hd,R]) (λ_=>0) () trivial ?_
  rintro - -;try refine ga ?_
  exact D.Bc [yb b cb d w true tn,ta cb c (.slice up c.lg.length uc),hv,ff w d (ua l) Aa,hd] _ rfl ⟨rfl,hd,rfl,hdk.mono (by omega)⟩
end
section
variable{l:List Lf}(ok:Ge l)(b cb:Nat){d w:Nat}{Aa tn T:Int}{hd:Hp}(hdk:RD l d hd T)(Mi:0<=T)(hT:T<=137438953472){c:CS}(ob:Lb c){v:Value}{hv:Hp}(hs:ia 49 c.lg v hv)
include ok hdk Mi hT ob hs
theorem VO:Ct prog 197 [b] [yb b cb d w true tn,ta cb c v,hv,ff w d (ua l) Aa,hd]
  (λr H'=>r= .tuple #[]/\zz b cb d w Aa tn c.sync (Xe l) (T+243) H'):=by
 have _:=Mi;have _:=hT;have Ws:=Az ok hdk (w:=w) (seg:=ua l) (Aa:=Aa);have hcs:=jO ob cb hs;rw[<-Df l] at Ws;refine ce func197 λg R=>?_;simp only[can];rw[<-Df l];try refine ga ?_
 refine ck Ws ?_;rintro _ _ ⟨hd',rfl,Fj⟩;refine vb ?_;refine ck hcs ?_;rintro _ _ ⟨rfl,v',Lc,rfl,hs'⟩;refine vb ?_;exact D.Bc [yb b cb d w true tn,ta cb c.sync v',Lc,ff w d (ua (Xe l)) Aa,hd'] _ rfl ⟨rfl,v',Lc,hd',rfl,hs',Fj.mono (by omega)⟩
def Mj(l:List Lf)(c:CS)(fr ep ix:Int)(e:ya):Bool×CS×List Lf:=
 if Ce l 1=true then((c.wg fr ep ix e).1,(c.wg fr ep ix e).2,td l (c.wg fr ep ix e).2 c.len) else(false,c,l)
theorem Bz{c c':CS}(h:Zi c c'):c.lg.length<=c'.lg.length/\c'.lg.length<=c.lg.length+1:=by
 have _:=ok;have _:=hdk;have _:=Mi;have _:=hT;have _:=ob;have _:=hs;rcases h with rfl|⟨e,_,_,rfl|rfl⟩
 .omega
 .show c.lg.length<=(c.lg++[e]).length/\_;simp[CS.push]
 .rw[(Ja (c.push e)).2.2.2.2.2.2.1];show c.lg.length<=(c.lg++[e]).length/\_;simp[CS.push]
theorem WO(fr ep ix:Int)(e:ya):Ct prog 87 [b,fr,ep,ix,.agg (List.toArray e.enc)] [yb b cb d w true tn,ta cb c v,hv,ff w d (ua l) Aa,hd]
  (λr H'=>r= .bool (Mj l c fr ep ix e).1/\zz b cb d w Aa tn (Mj l c fr ep ix e).2.1 (Mj l c fr ep ix e).2.2 (T+243) H'):=by
 have hroom:=Yt ok hdk (w:=w) (seg:=ua l) (Aa:=Aa) 1;have jg:=ob.len;have PK:c.len=(c.lg.length:Int):=rfl;obtain⟨up,uc,rfl⟩:=hs.rs.len
 cases hrm:Ce l 1 with
 |false=>
  have e0:Mj l c fr ep ix e=(false,c,l):=if_neg (by rw[hrm];decide);rw[e0];rw[hrm] at hroom;refine ce func87 λg R=>?_;repeat' first|refine vb ?_|refine Ud λ_=>?_|refine cq hroom ?_
  exact Wa [yb b cb d w true tn,ta cb c (.slice up c.lg.length uc),hv,ff w d (ua l) Aa,hd] rfl rfl ⟨rfl,_,hv,hd,rfl,hs,hdk.mono (by omega)⟩
 |true=>
  have e0:Mj l c fr ep ix e=((c.wg fr ep ix e).1,(c.wg fr ep ix e).2,td l (c.wg fr ep ix e).2 c.len):=if_pos hrm;rw[e0,PK];rw[hrm] at hroom;have th:=mO ob cb hs fr ep ix e;have TR:=Zi.wg c fr ep ix e;generalize c.wg fr ep ix e=t at th TR⊢;have yF:=TR.ok ob;obtain⟨g1,g2⟩:=Bz ok hdk Mi hT ob hs TR;refine ce func87 λg R=>?_;repeat' first|refine vb ?_|refine Ud λ_=>?_|refine cq hroom ?_
  rename_i b9;refine sK (ml [8,1]) [yb b cb d w true tn,Fb b9 e] ?_;repeat' first|refine ga ?_|refine Of (t:=49) e.enc e.enc ?_
  refine ck th ?_;rintro _ _ ⟨rfl,v',Lc,rfl,hs'⟩;have Vt:=Pr ok b cb hdk Mi hT yF hs'.rs (w:=w) (Aa:=Aa) (tn:=tn) g1 g2;refine vb ?_;refine ck Vt ?_;rintro _ _ ⟨rfl,hd',rfl,Fj⟩;refine vb ?_;exact Wa [yb b cb d w true tn,ta cb t.2 v',Lc,ff w d (ua (td l t.2 (c.lg.length:Int))) Aa,hd'] rfl rfl ⟨rfl,v',Lc,hd',rfl,hs',Fj⟩
def xk(l:List Lf)(c:CS)(e:ya):Int×CS×List Lf:=
 if Ce l 1=true then((c.Gc e).1,(c.Gc e).2,td l (c.Gc e).2 c.len) else(51,c,l)
theorem pR(e:ya):Ct prog 189 [b,.agg (List.toArray e.enc)] [yb b cb d w true tn,ta cb c v,hv,ff w d (ua l) Aa,hd]
  (λr H'=>r= .int .i64 (xk l c e).1/\zz b cb d w Aa tn (xk l c e).2.1 (xk l c e).2.2 (T+243) H'):=by
 have hroom:=Yt ok hdk (w:=w) (seg:=ua l) (Aa:=Aa) 1;have jg:=ob.len;have PK:c.len=(c.lg.length:Int):=rfl;obtain⟨up,uc,rfl⟩:=hs.rs.len
 cases hrm:Ce l 1 with
 |false=>
  have e0:xk l c e=(51,c,l):=if_neg (by rw[hrm];decide);rw[e0];rw[hrm] at hroom;refine ce func189 λg R=>?_;repeat' first|refine vb ?_|refine Ud λ_=>?_|refine cq hroom ?_
  exact Wa [yb b cb d w true tn,ta cb c (.slice up c.lg.length uc),hv,ff w d (ua l) Aa,hd] rfl rfl ⟨rfl,_,hv,hd,rfl,hs,hdk.mono (by omega)⟩
 |true=>
  have e0:xk l c e=((c.Gc e).1,(c.Gc e).2,td l (c.Gc e).2 c.len):=if_pos hrm;rw[e0,PK];rw[hrm] at hroom;have th:=jI ob cb hs e;have TR:=Zi.Gc c e;generalize c.Gc e=t at th TR⊢;have yF:=TR.ok ob;obtain⟨g1,g2⟩:=Bz ok hdk Mi hT ob hs TR;refine ce func189 λg R=>?_;repeat' first|refine vb ?_|refine Ud λ_=>?_|refine cq hroom ?_
  rename_i b9;refine sK (ml [5,1]) [yb b cb d w true tn,Fb b9 e] ?_;repeat' first|refine ga ?_|refine Of (t:=49) e.enc e.enc ?_
  refine ck th ?_;rintro _ _ ⟨rfl,v',Lc,rfl,hs'⟩;have Vt:=Pr ok b cb hdk Mi hT yF hs'.rs (w:=w) (Aa:=Aa) (tn:=tn) g1 g2;refine vb ?_;refine ck Vt ?_;rintro _ _ ⟨rfl,hd',rfl,Fj⟩;refine vb ?_;exact Wa [yb b cb d w true tn,ta cb t.2 v',Lc,ff w d (ua (td l t.2 (c.lg.length:Int))) Aa,hd'] rfl rfl ⟨rfl,v',Lc,hd',rfl,hs',Fj⟩
def Dj(l:List Lf)(c:CS)(key val:ByteArray)(dead:Bool)(deps:V9)(clock cl op:Int):(Int×Int)×CS×List Lf:=
 if Ce l 1=true then((c.vk key val dead deps clock cl op).1,(c.vk key val dead deps clock cl op).2,td l (c.vk key val dead deps clock cl op).2 c.len) else((0,51),c,l)
theorem qR(key val:ByteArray)(dead:Bool)(deps:V9)(clock cl op:Int):Ct prog 175 [b,.string key,.string val,.bool dead,.agg (List.toArray deps.enc),clock,cl,op] [yb b cb d w true tn,ta cb c v,hv,ff w d (ua l) Aa,hd]
  (λr H'=>r= .tuple #[.int .i64 (Dj l c key val dead deps clock cl op).1.1,.int .i64 (Dj l c key val dead deps clock cl op).1.2]/\zz b cb d w Aa tn (Dj l c key val dead deps clock cl op).2.1 (Dj l c key val dead deps clock cl op).2.2 (T+243) H'):=by
 have hroom:=Yt ok hdk (w:=w) (seg:=ua l) (Aa:=Aa) 1;have jg:=ob.len;have PK:c.len=(c.lg.length:Int):=rfl;obtain⟨up,uc,rfl⟩:=hs.rs.len
 cases hrm:Ce l 1 with
 |false=>
  have e0:Dj l c key val dead deps clock cl op=((0,51),c,l):=if_neg (by rw[hrm];decide);rw[e0];rw[hrm] at hroom;refine ce func175 λg R=>?_;repeat' first|refine vb ?_|refine Ud λ_=>?_|refine cq hroom ?_
  exact D.Vb [yb b cb d w true tn,ta cb c (.slice up c.lg.length uc),hv,ff w d (ua l) Aa,hd] _ rfl rfl rfl ⟨rfl,_,hv,hd,rfl,hs,hdk.mono (by omega)⟩
 |true=>
  have e0:Dj l c key val dead deps clock cl op=((c.vk key val dead deps clock cl op).1,(c.vk key val dead deps clock cl op).2,td l (c.vk key val dead deps clock cl op).2 c.len):=if_pos hrm;rw[e0,PK];rw[hrm] at hroom;have th:=bR ob cb hs key val dead deps clock cl op;have TR:=Zi.vk c key val dead deps clock cl op;generalize c.vk key val dead deps clock cl op=t at th TR⊢;have yF:=TR.ok ob;obtain⟨g1,g2⟩:=Bz ok hdk Mi hT ob hs TR;refine ce func175 λg R=>?_;repeat' first|refine vb ?_|refine Ud λ_=>?_|refine cq hroom ?_
  rename_i b9;refine sK (ml [11,1,5]) [yb b cb d w true tn,Na b9 deps] ?_;repeat' first|refine ga ?_|refine Of (t:=47) deps.enc deps.enc ?_
  refine ck th ?_;rintro _ _ ⟨rfl,v',Lc,rfl,hs'⟩;have Vt:=Pr ok b cb hdk Mi hT yF hs'.rs (w:=w) (Aa:=Aa) (tn:=tn) g1 g2;refine vb ?_;refine ck Vt ?_;rintro _ _ ⟨rfl,hd',rfl,Fj⟩;refine vb ?_;exact D.Vb [yb b cb d w true tn,ta cb t.2 v',Lc,ff w d (ua (td l t.2 (c.lg.length:Int))) Aa,hd'] _ rfl rfl rfl ⟨rfl,v',Lc,hd',rfl,hs',Fj⟩
end
variable{l:List Lf}{d:Nat}{hd:Hp}
def zk(l:List Lf)(c:CS)(x:Va):(Bool×Int)×CS×List Lf:=
 if Ce l 2=true then
  (if(c.enter x).1.2=0 then((c.enter x).1,(c.enter x).2,Xe (Bb (if(c.enter x).1.1=true then(Qj l).1 else l) (de x (c.enter x).2.bs)).1) else((false,(c.enter x).1.2),(c.enter x).2,l))
 else((false,51),c,l)
def UR(l:List Lf)(c:CS)(x:Va):(zk l c x).2=(Kc l c x).2:=by
 unfold zk Kc;repeat' split
 all_goals rfl
def BF(x:Va)(b:Int):(de x b).size<=1073741824:=by show(0:Nat)<=1073741824;omega
def xL(ok:Ge l)(b cb:Nat){w:Nat}{Aa tn T:Int}(hdk:RD l d hd T)(Mi:0<=T)(hT:T<=68719476736){c:CS}(ob:Lb c){v:Value}{hv:Hp}(hs:ia 49 c.lg v hv)(x:Va):
  Ct prog 57 [b,.agg (List.toArray x.enc)] [yb b cb d w true tn,ta cb c v,hv,ff w d (ua l) Aa,hd]
   (λr H'=>r= .tuple #[.bool (zk l c x).1.1,.int .i64 (zk l c x).1.2]/\zz b cb d w Aa tn (zk l c x).2.1 (zk l c x).2.2 (T+486) H'):=by
 have hrm:=Yt ok hdk (w:=w) (seg:=ua l) (Aa:=Aa) 2
 cases hr:Ce l 2 with
 |false=>
  have e0:zk l c x=((false,51),c,l):=if_neg (by rw[hr];decide);rw[e0];rw[hr] at hrm;refine ce func57 λg R=>?_;repeat' first|refine vb ?_|refine Ud λ_=>?_|refine cq hrm ?_
  exact D.Vb [yb b cb d w true tn,ta cb c v,hv,ff w d (ua l) Aa,hd] _ rfl rfl rfl ⟨rfl,v,hv,hd,rfl,hs,hdk.mono (by omega)⟩
 |true=>
  rw[hr] at hrm;have th:=RK ob cb hs x;have yF:=ob.enter x;have e0:zk l c x=(if(c.enter x).1.2=0 then((c.enter x).1,(c.enter x).2,Xe (Bb (if(c.enter x).1.1=true then(Qj l).1 else l) (de x (c.enter x).2.bs)).1) else((false,(c.enter x).1.2),(c.enter x).2,l)):=if_pos hr;rw[e0];clear e0;generalize c.enter x=t at th yF⊢;obtain⟨⟨P7,er⟩,c'⟩:=t;simp only[] at th yF⊢;by_cases he:er=0
  .subst he;rw[if_pos rfl]
   cases P7 with
   |true=>
    rw[if_pos rfl];have yo:=BV ok hdk (by omega) (w:=w) (Aa:=Aa);have CO:=ok.cut;refine ce func57 λg R=>?_;repeat' first|refine vb ?_|refine Ud λ_=>?_|refine cq hrm ?_
    rename_i b3;refine sK (ml [5,1,5]) [yb b cb d w true tn,Mc b3 x] ?_;repeat' first|refine ga ?_|refine Of (t:=40) x.enc x.enc ?_
    refine ck th ?_;rintro _ _ ⟨rfl,v',Lc,rfl,hs'⟩;refine vb ?_;refine ck yo ?_;rintro _ _ ⟨Bk,rfl,rfl,KR⟩;refine vb ?_;refine sK (ml [10,1]) [yb b cb d w true tn,Mc b3 x,ta cb c' v'] ?_;repeat' first|refine ga ?_|refine Of (t:=40) x.enc x.enc ?_|refine Vf (t:=140) (de x c'.bs).enc ?_
    have Lr:=Nr CO b cb KR (by omega) (by omega) (BF x c'.bs) (w:=w) (Aa:=Aa) (tn:=tn);refine ck Lr ?_;rintro _ _ ⟨rfl,Bn,rfl,rL⟩;have Ws:=Az (Ge.JE CO (de x c'.bs)) rL (w:=w) (seg:=ua (Bb (Qj l).1 (de x c'.bs)).1) (Aa:=Aa);refine vb ?_;refine ck Ws ?_;rintro _ _ ⟨Hj,rfl,sL⟩;refine vb ?_
    exact D.Vb [yb b cb d w true tn,ta cb c' v',Lc,ff w d (ua (Bb (Qj l).1 (de x c'.bs)).1) Aa,Hj] _ rfl rfl rfl ⟨rfl,v',Lc,Hj,by rw[Df],hs',sL.mono (by omega)⟩
   |false=>
    rw[if_neg (by decide)];refine ce func57 λg R=>?_;repeat' first|refine vb ?_|refine Ud λ_=>?_|refine cq hrm ?_
    rename_i b3;refine sK (ml [5,1,5]) [yb b cb d w true tn,Mc b3 x] ?_;repeat' first|refine ga ?_|refine Of (t:=40) x.enc x.enc ?_
    refine ck th ?_;rintro _ _ ⟨rfl,v',Lc,rfl,hs'⟩;have KR:=hdk.mono (show T<=T+243 by omega);refine vb ?_;refine sK (ml [10,1]) [yb b cb d w true tn,Mc b3 x,ta cb c' v'] ?_;repeat' first|refine ga ?_|refine Of (t:=40) x.enc x.enc ?_|refine Vf (t:=140) (de x c'.bs).enc ?_
    have Lr:=Nr ok b cb KR (by omega) (by omega) (BF x c'.bs) (w:=w) (Aa:=Aa) (tn:=tn);refine ck Lr ?_;rintro _ _ ⟨rfl,Bn,rfl,rL⟩;have Ws:=Az (Ge.JE ok (de x c'.bs)) rL (w:=w) (seg:=ua (Bb l (de x c'.bs)).1) (Aa:=Aa);refine vb ?_;refine ck Ws ?_;rintro _ _ ⟨Hj,rfl,sL⟩;refine vb ?_;exact D.Vb [yb b cb d w true tn,ta cb c' v',Lc,ff w d (ua (Bb l (de x c'.bs)).1) Aa,Hj] _ rfl rfl rfl ⟨rfl,v',Lc,Hj,by rw[Df],hs',sL.mono (by omega)⟩
  .rw[if_neg he];refine ce func57 λg R=>?_;repeat' first|refine vb ?_|refine Ud λ_=>?_|refine cq hrm ?_
   rename_i b3;refine sK (ml [5,1,5]) [yb b cb d w true tn,Mc b3 x] ?_;repeat' first|refine ga ?_|refine Of (t:=40) x.enc x.enc ?_
   refine ck th ?_;rintro _ _ ⟨rfl,v',Lc,rfl,hs'⟩;refine vb ?_;exact D.Vb [yb b cb d w true tn,ta cb c' v',Lc,ff w d (ua l) Aa,hd] _ rfl rfl rfl ⟨rfl,v',Lc,hd,rfl,hs',hdk.mono (by omega)⟩
def yL(ok:Ge l)(b cb:Nat){w:Nat}{seg Aa tn T:Int}(hdk:RD l d hd T)(hT:T<=137438953472)(c:CS)(v:Value){keep:Int}(Lt: -9223372036854775808<=keep)(hk2:keep<=9223372036854775807):
  Ct prog 198 [.pointer (some ⟨b,0,none⟩),.int .i64 keep] [yb b cb d w true tn,ta cb c v,ff w d seg Aa,hd]
   (λr H'=>r= .tuple #[]/\∃Ya hd',H'=[yb b Ya d w false tn,ta Ya (CS.new c.dc c.rg c.nd) (.slice none 0 0),ff w d seg Aa,hd']/\∃t,0<=t/\t<=T/\pg (((oe l keep.toNat).map fq).map Ub.pl) t d hd'):=by
 obtain⟨qs,t,lr,ht,hyq⟩:=hdk;have Ju:=lr.q ok.toKu;have cB:=XO Ju lr.t0 (by omega) (λx hx=>(lr.pos x hx).2) hyq Lt hk2;have zL:=lr.t0;refine Ct.mk' func198 rfl rfl rfl (λg R=>?_);try simp only[ca]
 simp only[na];try refine ga ?_
 refine WX.call rfl cB rfl ?_;rintro _ _ ⟨last,y2,rfl,rfl,hy2,hla⟩;rw[Cz (k:=keep.toNat) lr.m lr.inc (VR hla lr.inc lr.pos)] at hy2;simp only[ca,na];try refine ga ?_
 refine I.st ?_;refine Td [.pointer (some ⟨cb,0,none⟩),.pointer (some ⟨d,0,none⟩),.pointer (some ⟨w,0,none⟩),.bool true,.int .i64 tn] [.pointer (some ⟨cb,0,none⟩),.pointer (some ⟨d,0,none⟩),.pointer (some ⟨w,0,none⟩),.bool false,.int .i64 tn] rfl rfl ?_;try refine ga ?_
 refine W.hp (H':=[y2,yb b cb d w false tn,ta cb c v,ff w d seg Aa,R]) rfl ?_;refine W.Wf 8 (List.replicate 22 true++[false]) [yb b cb d w false tn,ta cb c v] Tryz.mix (by kernel_rfl) ?_;try refine ga ?_
 refine WX.call rfl (Gt c.dc c.rg c.nd) rfl ?_;rintro _ _ ⟨Ya,rfl,rfl⟩;simp only[ca,na];try refine ga ?_
 refine I.st ?_;refine Td [.pointer (some ⟨cb,0,none⟩),.pointer (some ⟨d,0,none⟩),.pointer (some ⟨w,0,none⟩),.bool false,.int .i64 tn] [.pointer (some ⟨Ya,0,none⟩),.pointer (some ⟨d,0,none⟩),.pointer (some ⟨w,0,none⟩),.bool false,.int .i64 tn] rfl rfl ?_;try refine ga ?_
 exact D.Bc [yb b Ya d w false tn,ta Ya (CS.new c.dc c.rg c.nd) (.slice none 0 0),ff w d seg Aa,y2] _ rfl ⟨rfl,Ya,y2,rfl,t,zL,ht,hy2⟩
def OI(b cb d w:Nat)(tn:Int)(keep:Int):
  Ct prog 198 [.pointer (some ⟨b,0,none⟩),.int .i64 keep] [yb b cb d w false tn] (λr H'=>r= .tuple #[]/\H'=[yb b cb d w false tn]):=by
 refine Ct.mk' func198 rfl rfl rfl (λg R=>?_);try simp only[ca]
 simp only[na];try refine ga ?_
 exact D.ai [yb b cb d w false tn] _ rfl ⟨rfl,rfl⟩
def PI(b cb d w:Nat)(tn:Int)(x:Va):
  Ct prog 57 [b,.agg (List.toArray x.enc)] [yb b cb d w false tn] (λr H'=>r= .tuple #[.bool false,.int .i64 52]/\H'=[yb b cb d w false tn]):=by
 refine ce func57 λg R=>?_;repeat' first|refine vb ?_|refine Ud λ_=>?_
 exact D.Vb [yb b cb d w false tn] _ rfl rfl rfl ⟨rfl,rfl⟩
def yO(b cb d w:Nat)(tn:Int)(e:ya):
  Ct prog 189 [b,.agg (List.toArray e.enc)] [yb b cb d w false tn] (λr H'=>r= .int .i64 52/\H'=[yb b cb d w false tn]):=by
 refine ce func189 λg R=>?_;repeat' first|refine vb ?_|refine Ud λ_=>?_
 exact vj [yb b cb d w false tn]
def AL(b cb d w:Nat)(tn:Int)(fr ep ix:Int)(e:ya):
  Ct prog 87 [b,fr,ep,ix,.agg (List.toArray e.enc)] [yb b cb d w false tn] (λr H'=>r= .bool false/\H'=[yb b cb d w false tn]):=by
 refine ce func87 λg R=>?_;repeat' first|refine vb ?_|refine Ud λ_=>?_
 exact vj [yb b cb d w false tn]
def BL(b cb d w:Nat)(tn:Int):
  Ct prog 197 [.pointer (some ⟨b,0,none⟩)] [yb b cb d w false tn] (λr H'=>r= .tuple #[]/\H'=[yb b cb d w false tn]):=by
 refine Ct.mk' func197 rfl rfl rfl (λg R=>?_);try simp only[ca]
 simp only[na];try refine ga ?_
 exact D.Bc [yb b cb d w false tn] _ rfl ⟨rfl,rfl⟩
def EI(b cb d w:Nat)(tn:Int):
  Ct prog 199 [.pointer (some ⟨b,0,none⟩)] [yb b cb d w true tn] (λr H'=>r= .tuple #[]/\H'=[yb b cb d w true tn]):=by
 refine Ct.mk' func199 rfl rfl rfl (λg R=>?_);try simp only[ca]
 simp only[na];try refine ga ?_
 exact D.ai [yb b cb d w true tn] _ rfl ⟨rfl,rfl⟩
def GI(b cb:Nat)(c:CS){d w:Nat}{tn:Int}{hd:Hp}{l:List Lf}{rs:List Rec}{seg Aa T:Int}
  (hop:Ct prog 134 [.pointer (some ⟨d,0,none⟩)] [hd] (λres H'=>∃w' u h' ho,res= .tuple #[.pointer (some ⟨w',0,none⟩),u]/\H'=[ff w' d seg Aa,h',ho]/\RD l d h' T/\ia 140 rs u ho))
  (hl:rs.length<=1000000)(yw:∀r∈rs,r.k=1/\Xc r.e\/r.k=2/\Nd r.c):
  Ct prog 199 [.pointer (some ⟨b,0,none⟩)] [yb b cb d w false tn,ta cb (CS.new c.dc c.rg c.nd) (.slice none 0 0),hd]
   (λr H'=>r= .tuple #[]/\∃Ya w' hd' uj,∃v hv,H'=[yb b Ya d w' true uj,ta Ya (CS.restore c.dc c.rg c.nd (Oh c.nd rs).x (Oh c.nd rs).sn (Oh c.nd rs).bs (Oh c.nd rs).es) v,hv,ff w' d seg Aa,hd']/\
    ia 49 (CS.restore c.dc c.rg c.nd (Oh c.nd rs).x (Oh c.nd rs).sn (Oh c.nd rs).bs (Oh c.nd rs).es).lg v hv/\RD l d hd' T):=by
 refine Ct.mk' func199 rfl rfl rfl (λg R=>?_);try simp only[ca]
 simp only[na];try refine ga ?_
 refine I.st ?_;refine Td [.pointer (some ⟨cb,0,none⟩),.pointer (some ⟨d,0,none⟩),.pointer (some ⟨w,0,none⟩),.bool false,.int .i64 tn] [.pointer (some ⟨cb,0,none⟩),.pointer (some ⟨d,0,none⟩),.pointer (some ⟨w,0,none⟩),.bool true,.int .i64 tn] rfl rfl ?_;try refine ga ?_
 refine WX.call rfl hop rfl ?_;rintro _ _ ⟨w',u,h',ho,rfl,rfl,hdk,zF⟩;have wK:=zF.rs;obtain⟨up,uc,rfl⟩:=wK.len;simp only[ca,na];try refine ga ?_
 refine I.st ?_;refine Td [.pointer (some ⟨cb,0,none⟩),.pointer (some ⟨d,0,none⟩),.pointer (some ⟨w,0,none⟩),.bool true,.int .i64 tn] [.pointer (some ⟨cb,0,none⟩),.pointer (some ⟨d,0,none⟩),.pointer (some ⟨w',0,none⟩),.bool true,.int .i64 tn] rfl rfl ?_;try refine ga ?_
 refine I.st ?_;refine Td [.pointer (some ⟨cb,0,none⟩),.pointer (some ⟨d,0,none⟩),.pointer (some ⟨w',0,none⟩),.bool true,.int .i64 tn] [.pointer (some ⟨cb,0,none⟩),.pointer (some ⟨d,0,none⟩),.pointer (some ⟨w',0,none⟩),.bool true,.int .i64 Aa] rfl rfl ?_;repeat'(first|refine ga ?_|refine al (λ_=>?_)|fail)
 rename_i b4;refine W.Ke ?_;refine W.hp (H':=[[],Mc b4 Rb.z.x,ff w' d seg Aa,h',ho,yb b cb d w' true Aa,ta cb (CS.new c.dc c.rg c.nd) (.slice none 0 0),R]) rfl ?_
 refine W.sub (L':=[(0,.pointer (some ⟨b,0,none⟩)),(3,.slice up rs.length uc),(4,.pointer (some ⟨b4,0,none⟩)),(5,.slice none 0 0),(6,.int .i64 Rb.z.sn),(7,.int .i64 Rb.z.bs),(8,.int .i64 ((0:Nat):Int))])
  (H':=[[],Mc b4 Rb.z.x,ff w' d seg Aa,h',ho,yb b cb d w' true Aa,ta cb (CS.new c.dc c.rg c.nd) (.slice none 0 0),R]) (by repeat(first|exact Ca.nil|refine Ca.cons rfl ?_)) (Ga.qa inferInstance) ?_
 obtain⟨f0,Ox⟩:∃f,f=Rb.z:=⟨_,rfl⟩;rw[<-Ox]
 refine W.loop (α:=Nat×Rb×Value×Hp) (λx=>x.1<=rs.length/\ia 49 x.2.1.es x.2.2.1 x.2.2.2/\x.2.1.es.length<=x.1/\x.2.1=yV c.nd rs x.1)
  (λx=>[(0,.pointer (some ⟨b,0,none⟩)),(3,.slice up rs.length uc),(4,.pointer (some ⟨b4,0,none⟩)),(5,x.2.2.1),(6,.int .i64 x.2.1.sn),(7,.int .i64 x.2.1.bs),(8,.int .i64 (x.1:Int))])
  (λx=>[x.2.2.2,Mc b4 x.2.1.x,ff w' d seg Aa,h',ho,yb b cb d w' true Aa,ta cb (CS.new c.dc c.rg c.nd) (.slice none 0 0),R]) (λx=>rs.length - x.1) (0,f0,.slice none 0 0,[]) ⟨Nat.zero_le _,by rw[Ox];exact ia.nil _,by rw[Ox];exact Nat.zero_le _,by rw[Ox];rfl⟩ (by repeat(first|exact Ca.nil|refine Ca.cons rfl ?_)) (Ga.qa inferInstance) ?_
 clear Ox;rintro⟨i,f,v,Su⟩ ⟨hi,uz,hel,hf⟩;simp only[] at hi uz hel hf⊢;have AF:=uz.rs;by_cases hlt:i<rs.length
 .obtain⟨r,hr⟩:∃r,rs[i]? =some r:=⟨_,List.getElem?_eq_getElem hlt⟩;have hsu:=rz (nd:=c.nd) hr;rw[<-hf] at hsu;rcases yw r (mem_of_getElem? hr) with⟨k1,fX⟩|⟨k2,hrc⟩
  .have hst:Kh c.nd f r=⟨f.x,f.sn,f.bs,f.es++[r.e]⟩:=if_pos k1;rw[hst] at hsu;repeat'(first|refine ga ?_|refine WX.Wn rfl wK hr rfl (us:=r.e.enc) rfl rfl rfl ?_|fail)
   rw[k1];refine I.bs ?_;refine WX.lit (ys:=[r.e]) rfl rfl rfl rfl rfl rfl (by decide) rfl (λv2 h2 Oa=>?_);refine WX.app rfl rfl uz Oa.rs rfl rfl (by decide) (by simp only[length_cons,length_nil];omega) rfl (λv3 h3 Fc=>?_);try refine ga ?_
   exact D.rd (i+1,⟨f.x,f.sn,f.bs,f.es++[r.e]⟩,v3,h3) ⟨by simp only[];omega,Fc,by simp only[length_append,length_cons,length_nil];omega,hsu.symm⟩ (by simp only[];omega)
  .have hst:Kh c.nd f r=⟨r.c,if 0<Zb (some (bf r.c)) c.nd then Zb (some (bf r.c)) c.nd else f.sn,r.base,f.es⟩:=if_neg (by omega);rw[hst] at hsu;obtain⟨ch,Gy,ob,hch⟩:=Ti hrc;have hsi:=iF (Ii.some ob) c.nd;rw[show Yb (some ch)=r.c from Gy.symm] at hsi;rw[hch] at hsu;generalize Zb (some ch) c.nd=z at hsi hsu;try refine ga ?_
   rw[k2];repeat'(first|refine ga ?_|refine WX.Wn rfl wK hr rfl (us:=r.c.enc) rfl rfl rfl ?_|refine ud f.x.enc r.c.enc rfl rfl ?_|fail)
   refine W.quiet Tryz.mix (by kernel_rfl) ?_;by_cases hz:0<z
   .rw[if_pos hz] at hsu;repeat'(first|refine ga ?_|refine Pa (t:=40) r.c.enc r.c.enc rfl ?_|refine WX.ja rfl hsi rfl ?_|fail)
    exact D.rd (i+1,⟨r.c,z,r.base,f.es⟩,v,Su) ⟨by simp only[];omega,uz,by simp only[];omega,hsu.symm⟩ (by simp only[];omega)
   .rw[if_neg hz] at hsu;repeat'(first|refine ga ?_|refine Pa (t:=40) r.c.enc r.c.enc rfl ?_|refine WX.ja rfl hsi rfl ?_|fail)
    exact D.rd (i+1,⟨r.c,f.sn,r.base,f.es⟩,v,Su) ⟨by simp only[];omega,uz,by simp only[];omega,hsu.symm⟩ (by simp only[];omega)
 .obtain rfl:i=rs.length:=by omega
  have N2:f=Oh c.nd rs:=by rw[hf];unfold yV;rw[take_length]
  have fX:=BG c.dc c.rg c.nd f.x f.sn f.bs uz.rs (by omega);try refine ga ?_
  refine W.Wf 8 (List.replicate 26 true++[false]) [yb b cb d w' true Aa,Mc b4 f.x,ta cb (CS.new c.dc c.rg c.nd) (.slice none 0 0)] Tryz.mix (by kernel_rfl) ?_;repeat'(first|refine ga ?_|refine Pa (t:=40) f.x.enc f.x.enc rfl ?_|fail)
  refine WX.call rfl fX rfl ?_;rintro _ _ ⟨Ya,v9,tQ,rfl,rfl,Wo⟩;simp only[ca,na];try refine ga ?_
  refine I.st ?_;refine Td [.pointer (some ⟨cb,0,none⟩),.pointer (some ⟨d,0,none⟩),.pointer (some ⟨w',0,none⟩),.bool true,.int .i64 Aa] [.pointer (some ⟨Ya,0,none⟩),.pointer (some ⟨d,0,none⟩),.pointer (some ⟨w',0,none⟩),.bool true,.int .i64 Aa] rfl rfl ?_;try refine ga ?_
  rw[<-N2];exact D.Bc [yb b Ya d w' true Aa,ta Ya (CS.restore c.dc c.rg c.nd f.x f.sn f.bs f.es) v9,tQ,ff w' d seg Aa,h'] _ rfl ⟨rfl,Ya,w',h',Aa,v9,tQ,rfl,Wo,hdk⟩
variable{b:Nat}{s:Ea}{h:Hp}{f:FuncId}{args:List Value}{u:Value}
section
variable(b cb:Nat)(dc rg nd:Int)(d w:Nat)
def QO:Ct prog 80 [.pointer (some ⟨b,0,none⟩)] [Jb b cb dc rg nd d w false] (λr H'=>r= .tuple #[]/\H'=[Jb b cb dc rg nd d w false]):=by
 refine Ct.mk' func80 rfl rfl rfl (λg R=>?_);try simp only[ca]
 simp only[na];try refine ga ?_
 exact D.Bc [Jb b cb dc rg nd d w false] _ rfl ⟨rfl,rfl⟩
def RO(fr ep ix:Int)(e:ya):Ct prog 63 [b,fr,ep,ix,.agg (List.toArray e.enc)] [Jb b cb dc rg nd d w false] (λr H'=>r= .bool false/\H'=[Jb b cb dc rg nd d w false]):=by
 have hmay:=jz b cb dc rg nd d w;refine ce func63 λg R=>?_;repeat' first|refine vb ?_|refine Ud λ_=>?_|refine cq hmay ?_
 exact vj [Jb b cb dc rg nd d w false]
def NR(e:ya):Ct prog 153 [b,.agg (List.toArray e.enc)] [Jb b cb dc rg nd d w false] (λr H'=>r= .int .i64 52/\H'=[Jb b cb dc rg nd d w false]):=by
 have hmay:=jz b cb dc rg nd d w;refine ce func153 λg R=>?_;repeat' first|refine vb ?_|refine Ud λ_=>?_|refine cq hmay ?_
 exact vj [Jb b cb dc rg nd d w false]
def OR(key val:ByteArray)(dead:Bool)(deps:V9)(clock cl op:Int):Ct prog 142 [b,.string key,.string val,.bool dead,.agg (List.toArray deps.enc),clock,cl,op] [Jb b cb dc rg nd d w false] (λr H'=>r= .tuple #[.int .i64 0,.int .i64 52]/\H'=[Jb b cb dc rg nd d w false]):=by
 have hmay:=jz b cb dc rg nd d w;refine ce func142 λg R=>?_;repeat' first|refine vb ?_|refine Ud λ_=>?_|refine cq hmay ?_
 exact D.Vb [Jb b cb dc rg nd d w false] _ rfl rfl rfl ⟨rfl,rfl⟩
def PR(x:Va):Ct prog 52 [b,.agg (List.toArray x.enc)] [Jb b cb dc rg nd d w false] (λr H'=>r= .tuple #[.bool false,.int .i64 52]/\H'=[Jb b cb dc rg nd d w false]):=by
 refine ce func52 λg R=>?_;repeat' first|refine vb ?_|refine Ud λ_=>?_
 exact D.Vb [Jb b cb dc rg nd d w false] _ rfl rfl rfl ⟨rfl,rfl⟩
end
def kz.is{cb:Nat}{dc rg nd:Int}{d w:Nat}{Aa:Int}{c:CS}{l:List Lf}{H':HH}(h:kz b cb dc rg nd d w Aa c l H')(hid:c.dc=dc/\c.rg=rg/\c.nd=nd):∃Lp,Lp.flatten=H'.flatten/\∃h',Lp=[h']/\og (.up l c Aa) b h':=by
 obtain⟨v,hv,hd,rfl,hs,hk⟩:=h;obtain⟨rfl,rfl,rfl⟩:=hid;exact⟨[Jb b cb c.dc c.rg c.nd d w true++(oa cb c v++(hv++(qf w d (ua l) Aa++hd)))],by simp,_,rfl,cb,d,w,v,hv,ua l,Aa,hd,rfl,⟨hs,hk,λ_=>rfl,λl' c' t' e=>(by cases e;rfl),λe=>(by cases e)⟩⟩
def og.still(hm:og s b h)
  (k:∀cb d w,Ct prog f args [Jb b cb s.c0.dc s.c0.rg s.c0.nd d w s.Xa] (λr H'=>r=u/\H'=[Jb b cb s.c0.dc s.c0.rg s.c0.nd d w s.Xa])):
  Ct prog f args [h] (λr H'=>r=u/\H'=[h]):=by
 obtain⟨cb,d,w,v,hv,seg,t,hd,rfl,at_⟩:=hm;exact Ct.ext (k cb d w)
def zv(hm:og s b h)(hu:s.Xa=false)
  (k:∀cb d w,Ct prog f args [Jb b cb s.c0.dc s.c0.rg s.c0.nd d w false] (λr H'=>r=u/\H'=[Jb b cb s.c0.dc s.c0.rg s.c0.nd d w false])):
  Ct prog f args [h] (λr H'=>r=u/\∃h',H'=[h']/\og s b h'):=
 (hm.still λcb d w=>by rw[hu];exact k cb d w).mono λr H' ⟨h1,h2⟩=>⟨h1,h,h2,hm⟩
section
variable{s:Ea}{N:Int}(ok:s.ok N){b:Nat}{h:Hp}(hm:og s b h)
include ok hm
theorem SO:Ct prog 80 [b] [h] (λr H'=>r= .tuple #[]/\∃h',H'=[h']/\og s.sync b h'):=by
 cases s with
 |up l c t=>
  obtain⟨cb,d,w,v,hv,seg,t',hd,rfl,at_⟩:=hm;obtain rfl:=at_.sg rfl;obtain rfl:=at_.tn l c t rfl;have Sy:Ge l:=ok.lg.ok;have ob:Lb c:=ok.ok;have Mf:ia 49 c.lg v hv:=at_.sl;have hdk:Od (dk l) d hd:=at_.dk
  exact(LO (w:=w) (Aa:=t') Sy b cb c.dc c.rg c.nd hdk ob Mf).pack (by simp[Ea.c0,Ea.ch,Ea.Xa,Ea.l0]) λr H' ⟨h1,h2⟩=>let⟨Lp,e,p⟩:=h2.is (Bm c);⟨Lp,e,h1,p⟩
 |dn l c q=>exact zv hm rfl λcb d w=>QO b cb c.dc c.rg c.nd d w
theorem TO(fr ep ix:Int)(e:ya):Ct prog 63 [b,fr,ep,ix,.agg (List.toArray e.enc)] [h] (λr H'=>r= .bool (s.take fr ep ix e).1/\∃h',H'=[h']/\og (s.take fr ep ix e).2 b h'):=by
 cases s with
 |up l c t=>
  obtain⟨cb,d,w,v,hv,seg,t',hd,rfl,at_⟩:=hm;obtain rfl:=at_.sg rfl;obtain rfl:=at_.tn l c t rfl;have Sy:Ge l:=ok.lg.ok;have ob:Lb c:=ok.ok;have Mf:ia 49 c.lg v hv:=at_.sl;have hdk:Od (dk l) d hd:=at_.dk
  exact(MO (w:=w) (Aa:=t') Sy b cb c.dc c.rg c.nd hdk ob Mf fr ep ix e).pack (by simp[Ea.c0,Ea.ch,Ea.Xa,Ea.l0]) λr H' ⟨h1,h2⟩=>let⟨Lp,e',p⟩:=h2.is (Am l c fr ep ix e);⟨Lp,e',h1,p⟩
 |dn l c q=>exact zv hm rfl λcb d w=>RO b cb c.dc c.rg c.nd d w fr ep ix e
theorem RR(e:ya):Ct prog 153 [b,.agg (List.toArray e.enc)] [h] (λr H'=>r= .int .i64 (s.inj e).1/\∃h',H'=[h']/\og (s.inj e).2 b h'):=by
 cases s with
 |up l c t=>
  obtain⟨cb,d,w,v,hv,seg,t',hd,rfl,at_⟩:=hm;obtain rfl:=at_.sg rfl;obtain rfl:=at_.tn l c t rfl;have Sy:Ge l:=ok.lg.ok;have ob:Lb c:=ok.ok;have Mf:ia 49 c.lg v hv:=at_.sl;have hdk:Od (dk l) d hd:=at_.dk
  exact(GR (w:=w) (Aa:=t') Sy b cb c.dc c.rg c.nd hdk ob Mf e).pack (by simp[Ea.c0,Ea.ch,Ea.Xa,Ea.l0]) λr H' ⟨h1,h2⟩=>let⟨Lp,e',p⟩:=h2.is (Rp l c e);⟨Lp,e',h1,p⟩
 |dn l c q=>exact zv hm rfl λcb d w=>NR b cb c.dc c.rg c.nd d w e
theorem SR(key val:ByteArray)(dead:Bool)(deps:V9)(clock cl op:Int):Ct prog 142 [b,.string key,.string val,.bool dead,.agg (List.toArray deps.enc),clock,cl,op] [h]
  (λr H'=>r= .tuple #[.int .i64 (s.put key val dead deps clock cl op).1.1,.int .i64 (s.put key val dead deps clock cl op).1.2]/\∃h',H'=[h']/\og (s.put key val dead deps clock cl op).2 b h'):=by
 cases s with
 |up l c t=>
  obtain⟨cb,d,w,v,hv,seg,t',hd,rfl,at_⟩:=hm;obtain rfl:=at_.sg rfl;obtain rfl:=at_.tn l c t rfl;have Sy:Ge l:=ok.lg.ok;have ob:Lb c:=ok.ok;have Mf:ia 49 c.lg v hv:=at_.sl;have hdk:Od (dk l) d hd:=at_.dk
  exact(HR (w:=w) (Aa:=t') Sy b cb c.dc c.rg c.nd hdk ob Mf key val dead deps clock cl op).pack (by simp[Ea.c0,Ea.ch,Ea.Xa,Ea.l0]) λr H' ⟨h1,h2⟩=>let⟨Lp,e',p⟩:=h2.is (Sp l c key val dead deps clock cl op);⟨Lp,e',h1,p⟩
 |dn l c q=>exact zv hm rfl λcb d w=>OR b cb c.dc c.rg c.nd d w key val dead deps clock cl op
theorem xz(x:Va):Ct prog 52 [b,.agg (List.toArray x.enc)] [h] (λr H'=>r= .tuple #[.bool (s.enter x).1.1,.int .i64 (s.enter x).1.2]/\∃h',H'=[h']/\og (s.enter x).2 b h'):=by
 cases s with
 |up l c t=>
  obtain⟨cb,d,w,v,hv,seg,t',hd,rfl,at_⟩:=hm;obtain rfl:=at_.sg rfl;obtain rfl:=at_.tn l c t rfl;have Sy:Ge l:=ok.lg.ok;have ob:Lb c:=ok.ok;have Mf:ia 49 c.lg v hv:=at_.sl;have hdk:Od (dk l) d hd:=at_.dk
  exact(JR (w:=w) (Aa:=t') Sy b cb c.dc c.rg c.nd hdk ob Mf x).pack (by simp[Ea.c0,Ea.ch,Ea.Xa,Ea.l0]) λr H' ⟨h1,h2⟩=>let⟨Lp,e',p⟩:=h2.is (wz l c x);⟨Lp,e',h1,p⟩
 |dn l c q=>exact zv hm rfl λcb d w=>PR b cb c.dc c.rg c.nd d w x
theorem wL{keep:Int}(Lt: -9223372036854775808<=keep)(hk2:keep<=9223372036854775807):Ct prog 81 [b,keep] [h] (λr H'=>r= .tuple #[]/\∃h',H'=[h']/\og (s.Pb keep) b h'):=by
 cases s with
 |up l c t=>
  obtain⟨cb,d,w,v,hv,seg,t',hd,rfl,at_⟩:=hm;have Sy:Ge l:=ok.lg.ok;have hdk:Od (dk l) d hd:=at_.dk;have h0:=(tL (seg:=seg) (Aa:=t') (w:=w) Sy b cb c.dc c.rg c.nd hdk c v Lt hk2).frame (F:=[hv]) (post':=λr H'=>r= .tuple #[]/\∃Ya hd',H'=[Jb b Ya c.dc c.rg c.nd d w false,oa Ya (CS.new c.dc c.rg c.nd) (.slice none 0 0),qf w d seg t',hd']++[hv]/\Od ⟨oe l keep.toNat,[]⟩ d hd') λr H' ⟨h1,Ya,hd',h2,h3⟩=>⟨h1,Ya,hd',by rw[h2],h3⟩;have h1:=h0.perm (pre':=[Jb b cb c.dc c.rg c.nd d w true,oa cb c v,hv,qf w d seg t',hd]) (List.Perm.flatten (.cons _ (.cons _ (perm_append_comm (l₁:=[qf w d seg t',hd]) (l₂:=[hv])))));refine h1.pI (by simp[Ea.c0,Ea.ch,Ea.Xa]) λr H' ⟨h1,Ya,hd',h2,h3⟩=>?_;subst h2
  exact⟨[Jb b Ya c.dc c.rg c.nd d w false++(oa Ya (CS.new c.dc c.rg c.nd) (.slice none 0 0)++([]++(qf w d seg t'++hd')))],hv,by simp,h1,_,rfl,Ya,d,w,.slice none 0 0,[],seg,t',hd',rfl,⟨ia.nil _,h3,λe=>(by cases e),λl' c' t'' e=>(by cases e),λ_=>⟨rfl,rfl⟩⟩⟩
 |dn l c q=>exact zv hm rfl λcb d w=>uL b cb c.dc c.rg c.nd d w keep
end
def qi(s s':Ea):Prop:=match s with
 | .up l c t=>s'= .up l c t
 | .dn l c q=>∃l' t',s'= .up l' (c.again (Ta l')) t'/\Ge l'/\(∀f∈l',f.full=f)/\Dg l<=Xt l q/\Xt l q<=(Ta l).length/\Ta l'=(Ta l).take (Xt l q)/\((Av l<=q->t'=0)/\∀K,FU l K->FU l' K)/\ua l'<=ua l
def qi.ok{s s':Ea}{N:Int}(h:qi s s')(ok:s.ok N):s'.ok N:=by
 cases s with
 |up l c t=>cases h;exact ok
 |dn l c q=>
  obtain⟨l',t',rfl,ux,hf,h1,h2,h3,-,h4⟩:=h;exact(LI.KG ok ux hf h1 h2 h3 h4).1
def TM(ok:Ge l):(we (Ta l)).length<=1000000:=by
 have h1:=yz (Ta l);have h2:=Ik ok.good;have h3:=ok.used;omega
def tV.sub{l':List Lf}{m:Nat}(h:tV l)(hr:Ta l'=(Ta l).take m):∀r∈we (Ta l'),r.k=1/\Xc r.e\/r.k=2/\Nd r.c:=by
 intro r hm;obtain⟨h1,h2⟩:=MR _ r hm;rw[hr] at h1;rcases h.re r (mem_of_mem_take h1) with h|h|h
 .exact .inl h
 .exact .inr h
 .exact absurd h h2
section
variable{H:Type}{enc:TypeId×Value->H}{P:Program}{w:World}{base:Nat}{spare:Nat->Bool}{held:Bool}
def F3{t0 t1 t2 t3:TypeId}{args:Array Value}{ds:List (DataW H)}{ps:List MemPlace}(h:DataW.TrodAll enc P w base spare held [t0,t1,t2,t3] args.toList ds ps):
  ∃v0 v1 v2 v3 d0 d1 d2 d3,args= #[v0,v1,v2,v3]/\ds=[d0,d1,d2,d3]/\(∃p,DataW.Trod enc P w base spare held t0 v0 d0 p)/\(∃p,DataW.Trod enc P w base spare held t1 v1 d1 p)/\(∃p,DataW.Trod enc P w base spare held t2 v2 d2 p)/\(∃p,DataW.Trod enc P w base spare held t3 v3 d3 p):=by
 obtain⟨v0,vs0,d0,ds0,p0,q0,ha,rfl,rfl,Bk,fF⟩:=ChangeShapes.trodAll_cons h;obtain⟨v1,AK,d1,ds1,p1,q1,rfl,rfl,rfl,Bn,AF⟩:=ChangeShapes.trodAll_cons fF;obtain⟨v2,MT,d2,ds2,p2,q2,rfl,rfl,rfl,Hj,nQ⟩:=ChangeShapes.trodAll_cons AF;obtain⟨v3,G9,d3,ds3,p3,q3,rfl,rfl,rfl,cL,HU⟩:=ChangeShapes.trodAll_cons nQ;obtain⟨rfl,rfl,rfl⟩:=ChangeShapes.trodAll_nil HU;exact⟨v0,v1,v2,v3,d0,d1,d2,d3,by cases args;simp_all,rfl,⟨_,Bk⟩,⟨_,Bn⟩,⟨_,Hj⟩,⟨_,cL⟩⟩
def J3{t0 t1 t2 t3 t4:TypeId}{args:Array Value}{ds:List (DataW H)}{ps:List MemPlace}(h:DataW.TrodAll enc P w base spare held [t0,t1,t2,t3,t4] args.toList ds ps):
  ∃v0 v1 v2 v3 v4 d0 d1 d2 d3 d4,args= #[v0,v1,v2,v3,v4]/\ds=[d0,d1,d2,d3,d4]/\(∃p,DataW.Trod enc P w base spare held t0 v0 d0 p)/\(∃p,DataW.Trod enc P w base spare held t1 v1 d1 p)/\(∃p,DataW.Trod enc P w base spare held t2 v2 d2 p)/\(∃p,DataW.Trod enc P w base spare held t3 v3 d3 p)/\(∃p,DataW.Trod enc P w base spare held t4 v4 d4 p):=by
 obtain⟨v0,vs0,d0,ds0,p0,q0,ha,rfl,rfl,Bk,fF⟩:=ChangeShapes.trodAll_cons h;obtain⟨v1,AK,d1,ds1,p1,q1,rfl,rfl,rfl,Bn,AF⟩:=ChangeShapes.trodAll_cons fF;obtain⟨v2,MT,d2,ds2,p2,q2,rfl,rfl,rfl,Hj,nQ⟩:=ChangeShapes.trodAll_cons AF;obtain⟨v3,G9,d3,ds3,p3,q3,rfl,rfl,rfl,cL,HU⟩:=ChangeShapes.trodAll_cons nQ;obtain⟨v4,vs4,d4,ds4,p4,q4,rfl,rfl,rfl,hd4,hr4⟩:=ChangeShapes.trodAll_cons HU;obtain⟨rfl,rfl,rfl⟩:=ChangeShapes.trodAll_nil hr4;exact⟨v0,v1,v2,v3,v4,d0,d1,d2,d3,d4,by cases args;simp_all,rfl,⟨_,Bk⟩,⟨_,Bn⟩,⟨_,Hj⟩,⟨_,cL⟩,⟨_,hd4⟩⟩
end
section
variable{H:Type}{enc:TypeId×Value->H}{w:World}{t e:Nat}{ag:Bool}{cs:List Value}
def eH[TU prog t (.array 3 e)][TL prog t 3 ag][TL prog e 1 false][TU prog e (.int .i64)](h:Rf enc prog w t cs):∃a b c,cs=[.int .i64 a,.int .i64 b,.int .i64 c]:=by
 have hl:=h.oZ (k:=3)
 match cs,hl with
 |[c0,c1,c2],_=>
  obtain⟨n0,e0,_⟩:=(h.elem (k:=1) 0 (by decide)).int;obtain⟨n1,e1,_⟩:=(h.elem (k:=1) 1 (by decide)).int;obtain⟨n2,e2,_⟩:=(h.elem (k:=1) 2 (by decide)).int;cases e0;cases e1;cases e2;exact⟨n0,n1,n2,rfl⟩
def OL(h:Rf enc prog w 47 cs):∃v:V9,cs=v.enc:=by
 have hl:=h.oZ (k:=9)
 match cs,hl with
 |[c0,c1,c2,c3,c4,c5,c6,c7,c8],_=>
  obtain⟨a,b,c,e0⟩:=eH (h.elem (k:=3) 0 (by decide));obtain⟨a',b',c',e1⟩:=eH (h.elem (k:=3) 1 (by decide));obtain⟨H9,b'',c'',e2⟩:=eH (h.elem (k:=3) 2 (by decide));cases e0;cases e1;cases e2;exact⟨⟨a,b,c,a',b',c',H9,b'',c''⟩,rfl⟩
def pZ(h:Rf enc prog w 42 cs):∃a b c,cs=[.int .i64 a,.int .i64 b,.int .i64 c]:=by
 have hl:=h.len (i:=0)
 match cs,hl with
 |[c0,c1,c2],_=>
  obtain⟨n0,e0,_⟩:=(h.field 0).int;obtain⟨n1,e1,_⟩:=(h.field 1).int;obtain⟨n2,e2,_⟩:=(h.field 2).int;cases e0;cases e1;cases e2;exact⟨n0,n1,n2,rfl⟩
def NT(h:Rf enc prog w 44 cs):∃a b c,cs=[.int .i64 a,.int .i64 b,.int .i64 c]:=by
 have hl:=h.len (i:=0)
 match cs,hl with
 |[c0,c1,c2],_=>
  obtain⟨n0,e0,_⟩:=(h.field 0).int;obtain⟨n1,e1,_⟩:=(h.field 1).int;obtain⟨n2,e2,_⟩:=(h.field 2).int;cases e0;cases e1;cases e2;exact⟨n0,n1,n2,rfl⟩
def DA(h:Rf enc prog w 37 cs):∃a b,cs=[.int .i64 a,.int .i64 b]:=by
 have hl:=h.len (i:=0)
 match cs,hl with
 |[c0,c1],_=>
  obtain⟨n0,e0,_⟩:=(h.field 0).int;obtain⟨n1,e1,_⟩:=(h.field 1).int;cases e0;cases e1;exact⟨n0,n1,rfl⟩
def wY(h:Rf enc prog w 49 cs):∃x:ya,cs=x.enc/\x.key.data.toList.length<=reachBytes/\x.val.data.toList.length<=reachBytes:=by
 have hl:=h.len (i:=0)
 match cs,hl with
 |[c0,c1,c2,c3,c4,c5,c6,c7,c8,c9,c10,I9,J9,c13,c14,c15,c16,c17,c18,c19],_=>
  have h0:Rf enc prog w 42 [c0,c1,c2]:=h.field 0;have h1:Rf enc prog w 44 [c3,c4,c5]:=h.field 1;obtain⟨a,b,c,e0⟩:=pZ h0;obtain⟨a',b',c',e1⟩:=NT h1;obtain⟨key,e2,hk⟩:=(h.field 2).string;obtain⟨val,e3,hv⟩:=(h.field 3).string;obtain⟨dead,e4⟩:=(h.field 4).bool;have h5:Rf enc prog w 47 [c9,c10,I9,J9,c13,c14,c15,c16,c17]:=h.field 5;obtain⟨dp,e5⟩:=OL h5;obtain⟨cl,e6,_⟩:=(h.field 6).int;obtain⟨op,e7,_⟩:=(h.field 7).int;cases e0;cases e1;cases e2;cases e3;cases e4;cases e5;cases e6;cases e7;exact⟨⟨a,b,c,a',b',c',key,val,dead,dp,cl,op⟩,rfl,hk,hv⟩
def OT[TU prog t (.array 4 37)][TL prog t 8 ag](h:Rf enc prog w t cs):∃a b c d:Mem,cs=[.int .i64 a.nd,.int .i64 a.sn,.int .i64 b.nd,.int .i64 b.sn,.int .i64 c.nd,.int .i64 c.sn,.int .i64 d.nd,.int .i64 d.sn]:=by
 have hl:=h.oZ (k:=8)
 match cs,hl with
 |[c0,c1,c2,c3,c4,c5,c6,c7],_=>
  obtain⟨a,b,e0⟩:=DA (h.elem (k:=2) 0 (by decide));obtain⟨a',b',e1⟩:=DA (h.elem (k:=2) 1 (by decide));obtain⟨H9,b'',e2⟩:=DA (h.elem (k:=2) 2 (by decide));obtain⟨a3,b3,e3⟩:=DA (h.elem (k:=2) 3 (by decide));cases e0;cases e1;cases e2;cases e3;exact⟨⟨a,b⟩,⟨a',b'⟩,⟨H9,b''⟩,⟨a3,b3⟩,rfl⟩
theorem vY (h : Rf enc prog w 40 cs) : ∃ x : Va, cs = x.enc := by
 have hl := h.len (i := 0)
 match cs, hl with
 | [c0, c1, c2, c3, c4, c5, c6, c7, c8, c9, c10, I9, J9], _ =>
  obtain ⟨ep, e0, _⟩ := (h.field 0).int
  obtain ⟨n, e1, _⟩ := (h.field 1).int
  obtain ⟨f0, f1, f2, f3, e2⟩ := OT (h.field 2)
  obtain ⟨jo, e3⟩ := (h.field 3).bool
  have h4 : Rf enc prog w 37 [I9, J9] := h.field 4
  obtain ⟨a, b, e4⟩ := DA h4
  cases e0; cases e1; cases e2; cases e3; cases e4
  exact ⟨⟨ep, n, f0, f1, f2, f3, jo, ⟨a, b⟩⟩, rfl⟩
end
def lf{α:Type}(cs:List α)(a b:Nat):cs.drop a=(cs.drop a).take b++cs.drop (a+b):=by rw[<-drop_drop,take_append_drop]
structure Wt where
 to:Bl
 (op tr ix:Int)
 deriving DecidableEq
def Wt.enc(w:Wt):List Value:=w.to.enc++[.int .i64 w.op,.int .i64 w.tr,.int .i64 w.ix]
instance : Nb Wt := ⟨7, Wt.enc, fun _ => rfl, fun _ => rfl, by decide⟩
structure va where
 (fc rn nn cl:Int)
 s:Ea
 ws:List Wt
 hd:List ya
 kn:V9
 (rc mr:V3)
def Ej(v:V9)(rg:Int)(c:V3):V9:=zg (zg (zg v 0 rg c.a) 1 rg c.b) 2 rg c.c
abbrev QE(a b:V9):Prop:=∀i,i<9->b.at i<=a.at i
instance(a b:V9):Decidable (QE a b):=Nat.decidableBallLT 9 λi _=>b.at i<=a.at i
def V9.of(h:V9)(e:ya):Int:=h.at (e.dc.toNat*3+e.rg.toNat)
abbrev iu(h:V9)(e:ya):Prop:=e.sq=h.of e+1/\QE h e.dp
def Xl(x y:Int):Int:=if x<y then -1 else if y<x then 1 else 0
def Ql(a b:ya):Int:=if Xl a.ct b.ct≠0 then Xl a.ct b.ct else if Xl a.sd b.sd≠0 then Xl a.sd b.sd else Xl a.sr b.sr
def zd(h:V9)(hd:List ya):Nat->Int
 |0=> -1
 |k+1=>if iu h (hd.getD k ya.z)/\(zd h hd k<0\/Ql (hd.getD k ya.z) (hd.getD (zd h hd k).toNat ya.z)<0) then(k:Int) else zd h hd k
def Be(h:V9)(hd:List ya):Int:=zd h hd hd.length
def Xd(dc x:Int):Prop:=0<=x/\x<3/\x≠dc
instance(dc x:Int):Decidable (Xd dc x):=inferInstanceAs (Decidable (_/\_))
def En(dc c:Int)(e:ya):Bool:=decide (e.dc=dc/\e.sq - 1=c)
def Bw(dc x:Int)(r:V3)(es:List ya):Option ya:=if Xd dc x then es.find? (En dc (r.at x.toNat)) else none
structure Qy where
 key:ByteArray
 Rj:V9
 snap:Bool
 av:V9
 mr:V3
def Qy.enc(q:Qy):List Value:= .string q.key::(q.Rj.enc++(.bool q.snap::(q.av.enc++q.mr.enc)))
structure An where
 code:Int
 has:Bool
 en:ya
 col:V3
def An.enc(a:An):List Value:= .int .i64 a.code:: .bool a.has::(a.en.enc++a.col.enc)
def An.z:An:=⟨0,false,ya.z,V3.z⟩
def WV(a b:ya):Bool:=decide (0<if Ql a b≠0 then Ql a b else Xl a.sq b.sq)
def NF(key:ByteArray)(o:Option ya)(e:ya):Option ya:=if e.key=key then(match o with
 |none=>some e
 |some b=>if WV e b then some e else some b) else o
def jb(key:ByteArray)(es:List ya):Option ya:=es.foldl (NF key) none
abbrev Nk(c:V3)(e:ya):Prop:=Qb e.dc e.rg/\e.sq<=c.at e.dc.toNat
def Xy(rg:Int)(q:Qy)(es:List ya):An:=
 let col:=ic rg es
 let at_:=ug q.av rg
 if ¬jt col (ug q.Rj rg)\/q.snap=true/\ ¬jt col at_ then{An.z with code:=91}
 else if q.snap=true/\ ¬jt at_ q.mr then{An.z with code:=60}
 else
  let g:=jb q.key (es.filter λe=>decide (e.rg=rg/\(q.snap=false\/Nk at_ e)))
  ⟨0,g.isSome,g.getD ya.z,col⟩
def V3.get(v:V3)(k:Int):Int:=v.at k.toNat
namespace va
variable(n:va)
def c:CS:=n.s.ch
def ep:Int:=(Yb n.c.co).ep
def dc:Int:=n.s.c0.dc
def rg:Int:=n.s.c0.rg
def nd:Int:=n.s.c0.nd
def at_(k:Int):Bl:=⟨1,n.dc,n.rg,k⟩
def self:Bl:=n.at_ n.nd
def Cc:Bl:=⟨2,n.dc,0,0⟩
def out(kind:Int)(to:Bl):Da:={Da.z with kind:=kind,fr:=n.self,to:=to}
def Zy(to:Bl):Da:={n.out 8 to with ep:=n.ep,ct:=n.c.du,ix:=n.c.st}
def Jd:List Da:=if 0<=Ed n.c.co n.nd then[n.Zy (n.at_ (Ed n.c.co n.nd))] else[]
def Th(i:Int):ya:=if 1<=i/\i<=n.c.len then n.c.lg.getD (i.toNat - 1) ya.z else ya.z
def Cj:List Da:=if n.c.JM.2=true then[{n.out 7 (n.at_ (Wc n.c.co n.nd)) with ep:=n.ep,ix:=n.c.JM.1,en:=n.Th n.c.JM.1}] else[]
def ve:List Da:=if n.c.TX=true then[{n.out 11 n.Cc with ep:=n.ep}] else[]
def wk(w:Wt):Da:={n.out 4 w.to with op:=w.op,tr:=w.tr,has:=true,en:=n.Th w.ix}
def Ab:List ya:=n.c.lg.take n.c.st.toNat
def sure:Bool:=decide n.c.last && n.c.su
def Gh(du st ak:Int):List Da:=
 (n.ws.filter λw=>decide (w.ix<=n.c.st)).map n.wk++((if du<n.c.du\/st<n.c.st then n.Jd else[])++(if du<n.c.du\/ak<n.c.ak then n.Cj else[]))
def Ra:va:={n with ws:=n.ws.filter λw=> !decide (w.ix<=n.c.st)}
def Wb:V9:=Ej n.kn n.rg (ic n.rg n.c.lg)
def uf:va:={n with hd:=n.hd.filter λe=>decide (n.Wb.of e<e.sq)}
def ji(k:Nat):va:={n with hd:=n.hd.eraseIdx k,s:=(n.s.inj (n.hd.getD k ya.z)).2}
def Md:Nat->va->va
 |0,n=>n
 |k+1,n=>if 0<=Be n.Wb n.hd then Md k (n.ji (Be n.Wb n.hd).toNat) else n
def pull:va:=if n.c.head then Md n.uf.hd.length n.uf else n
def Qf(x:Int):List Da:=match Bw n.dc x n.rc n.Ab with
 |none=>[]
 |some e=>(List.range n.nn.toNat).map λ(i:Nat)=>{n.out 12 ⟨1,x,n.rg,(i:Int)⟩ with en:=e}
def no(kind:Int)(m:Da)(code:Int):Da:={n.out kind m.fr with op:=m.op,tr:=m.tr,code:=code}
def wait(m:Da)(i:Int):List Wt:=match n.ws.findIdx? (λw=>decide (w.to.nd=m.fr.nd/\w.op=m.op)) with
 |some k=>n.ws.set k {n.ws.getD k ⟨Bl.z,0,0,0⟩ with to:=m.fr,tr:=m.tr}
 |none=>if n.ws.length<16 then n.ws++[⟨m.fr,m.op,m.tr,i⟩] else n.ws
def put(m:Da):va×List Da:=
 if m.ep≠n.ep\/ ¬n.c.head then(n,[n.no 4 m 90])
 else
  let r:=n.s.put m.key m.val m.dead m.dp m.ct m.fr.nd m.op
  let n1:va:={n with s:=r.2}
  if r.1.2≠0 then(n1,[n.no 4 m r.1.2])
  else if r.1.1<=n1.c.st then(n1,[n1.wk ⟨m.fr,m.op,m.tr,r.1.1⟩])
  else({n1 with ws:=n.wait m r.1.1},[])
def query(m:Da):Qy:=⟨m.key,m.dp,m.snap,m.av,n.mr⟩
def get(m:Da):Da:=
 if m.ep≠n.ep\/xm n.c.co n.nd=false then n.no 6 m 90
 else if(n.c.last/\n.c.su=false)\/(¬n.c.last/\n.c.st<n.c.du) then n.no 6 m 92
 else
  let a:=Xy n.rg (n.query m) n.Ab
  {n.no 6 m a.code with has:=a.has,en:=a.en,c0:=a.col.a,c1:=a.col.b,c2:=a.col.c}
def yd(e:ya):va:=if Xc e/\e.rg=n.rg/\(n.hd.any λx=>decide (x.dc=e.dc/\x.rg=e.rg/\x.sq=e.sq))=false/\n.hd.length<16 then{n with hd:=n.hd++[e]} else n
def Qa(m:Da):(va×List Da)×Bool:=
 let node:=m.fr.k=1
 if m.kind=3 then(n.put m,false)
 else if m.kind=5 then((n,[n.get m]),false)
 else if m.kind=7/\node/\m.fr.dc=n.dc/\m.fr.rg=n.rg then
  (if m.ep=n.ep/\0<=m.fr.nd/\m.fr.nd=Ed n.c.co n.nd then
   let n1:va:={n with s:=(n.s.take m.fr.nd m.ep m.ix m.en).2}
   ((n1,[n1.Zy m.fr]),false)
  else((n,[]),false))
 else if m.kind=8/\node/\m.fr.dc=n.dc/\m.fr.rg=n.rg then
  (({n with s:=(n.s.heard m.fr.nd m.ep m.ct m.ix).2},[]),(n.s.heard m.fr.nd m.ep m.ct m.ix).1)
 else if m.kind=9/\m.fr=n.Cc then
  (let r:=n.s.enter m.cf
  (({n with s:=r.2,ws:=if r.1.2=0 then[] else n.ws},[]),false))
 else if m.kind=12/\node/\m.fr.dc≠n.dc/\m.fr.rg=n.rg/\n.c.head then(((n.pull.yd m.en).pull,[]),false)
 else if m.kind=13/\node/\m.fr.dc≠n.dc/\m.fr.rg=n.rg then
  (let k:=V3.get ⟨m.c0,m.c1,m.c2⟩ n.dc
  let n1:va:=if Xd n.dc m.fr.dc/\n.rc.get m.fr.dc<k then{n with rc:=n.rc.put m.fr.dc.toNat k} else n
  ((n1,if(Xd n.dc m.fr.dc/\n.rc.get m.fr.dc<k)/\n.sure=true then n1.Qf m.fr.dc else[]),false))
 else if m.kind=14/\node/\m.fr.dc=n.dc/\m.fr.rg≠n.rg then
  (({n with kn:=Ej n.kn m.fr.rg ⟨m.c0,m.c1,m.c2⟩}.pull,[]),false)
 else((n,[]),false)
def handle(m:Da):va×List Da:=
 if n.s.Xa=false then(n,[]) else
  let r:=n.Qa m
  let n1:=r.1.1
  (n1.Ra,r.1.2++(n1.Gh n.c.du n.c.st n.c.ak++(if r.2=true then n1.Ra.ve else[])))
def Jh(kind x r:Int)(col:V3):List Da:=(List.range n.nn.toNat).map λ(i:Nat)=>{n.out kind ⟨1,x,r,(i:Int)⟩ with c0:=col.a,c1:=col.b,c2:=col.c}
def ez:List Da:=
 {n.out 10 n.Cc with ep:=n.ep}::(n.pull.Jd++(n.pull.Cj++(n.pull.ve++(if n.pull.sure=false then[] else
  let col:=ic n.rg n.pull.Ab
  ((List.range n.fc.toNat).map λ(x:Nat)=>if(x:Int)=n.dc then[] else n.pull.Qf (x:Int)++n.pull.Jh 13 (x:Int) n.rg col).flatten++
  ((List.range n.rn.toNat).map λ(r:Nat)=>if(r:Int)=n.rg then[] else n.pull.Jh 14 n.dc (r:Int) col).flatten))))
def tick:va×List Da:=if n.s.Xa=false then(n,[]) else(n.pull,n.ez)
def flush:va×List Da:=if n.s.Xa=false then(n,[]) else
 let n1:va:={n with s:=n.s.sync}
 (n1.Ra,n1.Gh n.c.du n.c.st n.c.ak)
def collect:va:=if n.s.Xa=false then n else
 let col:=ic n.rg n.Ab
 {n with mr:=⟨mx n.mr.a col.a,mx n.mr.b col.b,mx n.mr.c col.c⟩}
def Pb(keep:Int):va:=if n.s.Xa=false then n else{n with s:=n.s.Pb keep,ws:=[],hd:=[],kn:=V9.z,rc:=V3.z,mr:=V3.z}
end va
end Go.Proofs.YthebagfahkebiaaGreat
