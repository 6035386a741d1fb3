/- Texts of one road. -/
import Derived.ChangeShapes
import Derived.Test.YthebagfahkebiaaGreatRAP
import Derived.Test.YthebagfahkebiaaGreatRAT
import Derived.Test.YthebagfahkebiaaGreatRAU
set_option linter.all false
set_option maxHeartbeats 8000000
set_option maxRecDepth 20000
namespace Go.Proofs.YthebagfahkebiaaGreat
open Go Go.Sl Go.Proofs.Tryz List
structure LI(l:List Lf)(c:CS)(N:Int):Prop where
 lg:xV l
 tl:E2 l c
 ok:Ob c
 n:va l<=N
section
variable{l:List Lf}{c:CS}{N:Int}
def LI.mono{M:Int}(h:LI l c N)(hm:N<=M):LI l c M:=⟨h.lg,h.tl,h.ok,Int.le_trans h.n hm⟩
def LI.chain{c':CS}(h:LI l c N)(ok:Ob c')(h1:c'.nd=c.nd)(h2:c'.co=c.co)(h3:c'.sn=c.sn)(h4:c'.bs=c.bs)(h5:c'.lg=c.lg)(h6:c'.du=c.du):LI l c' N:=
 ⟨h.lg,⟨by rw[h1,h2];exact h.tl.x,by rw[h1,h3];exact h.tl.sn,by rw[h1,h4];exact h.tl.bs,by rw[h1,h5];exact h.tl.es,by rw[h5,h6];exact h.tl.du⟩,ok,h.n⟩
def LI.settle(h:LI l c N):LI l c.settle N:=by
 obtain⟨-,-,h3,h4,h5,h6,h7,h8,-,-⟩:=Na c;exact h.chain h.ok.settle h3 h4 h5 h6 h7 h8
def LI.nil(dc rg nd:Int):LI [] (CS.new dc rg nd) 0:=
 ⟨⟨Ie.nil,(λr hr=>nomatch hr),(λr hr=>nomatch hr),Nat.le_refl _⟩,⟨rfl,rfl,rfl,rfl,di _⟩,Ob.new dc rg nd,Int.le_refl _⟩
def LI.push(h:LI l c N){e:ya}(he:ud e)(hl:c.lg.length<256)(hr:Ee l 1=true)(hN:N<1099511627776):LI (Db l (Km e)).1 (c.push e) (N+1):=by
 have hn:=h.n;obtain⟨-,h2,h3,h4⟩:=DF h.lg.ok (n:=1) (by decide) hr (by omega) (jF he);have G2:=h.lg.top;have MK:=h.tl.du;have hd:=h.ok.du;have hlen:c.len=(c.lg.length:Int):=rfl
 have e1:Xh (c.push e).nd (ye (Ua (Db l (Km e)).1))=⟨(Xh c.nd (ye (Ua l))).x,(Xh c.nd (ye (Ua l))).sn,(Xh c.nd (ye (Ua l))).bs,(Xh c.nd (ye (Ua l))).es++[e]⟩:=by
  rw[h2,gj,if_neg (show ¬(Km e).k=3 from(by decide: ¬(1:Int)=3)),Dz];rfl
 refine⟨⟨h.lg.ok.HE _,λr hr=>?_,?_,?_⟩,⟨?_,?_,?_,?_,?_⟩,h.ok.push hl he,by omega⟩
 .rw[h2] at hr;rcases mem_append.1 hr with hr|hr
  .exact h.lg.re r hr
  .rw[mem_singleton.1 hr];exact .inl ⟨rfl,he⟩
 .rw[h2,h3,drop_append_of_le_length G2];intro r hr;rcases mem_append.1 hr with hr|hr
  .exact h.lg.loose r hr
  .rw[mem_singleton.1 hr];rfl
 .rw[h2,h3,Eb];omega
 .rw[e1];exact h.tl.x
 .rw[e1];exact h.tl.sn
 .rw[e1];exact h.tl.bs
 .rw[e1];show _++[e]=c.lg++[e];rw[h.tl.es]
 .rw[h2,h3,Eb];show _<=(c.lg++[e]).length - c.du.toNat;rw[Eb];simp only[Ib,td];omega
def As(l:List Lf)(c c':CS)(e:ya)(h:c'.lg=c.lg++[e]):xd l c' c.len=(Db l (Km e)).1:=by
 unfold xd;have h1:c'.len=c.len+1:=by unfold CS.len;rw[h];simp
 rw[if_pos (by omega),h,show c.len.toNat=c.lg.length from rfl,getD_eq_getElem?_getD,List.getElem?_concat_length];rfl
def Nf(l:List Lf)(c:CS):xd l c c.len=l:=by unfold xd;rw[if_neg (by omega)]
def jj(c c':CS):Prop:=c'=c\/∃e,ud e/\c.lg.length<256/\(c'=c.push e\/c'=(c.push e).settle)
def LI.lY(h:LI l c N){c':CS}(hg:jj c c')(hr:Ee l 1=true)(hN:N<1099511627776):LI (xd l c' c.len) c' (N+1):=by
 rcases hg with rfl|⟨e,he,hl,rfl|rfl⟩
 .rw[Nf];exact h.mono (by omega)
 .rw[As l c _ e rfl];exact h.push he hl hr hN
 .rw[As l c _ e (Na (c.push e)).2.2.2.2.2.2.1];exact(h.push he hl hr hN).settle
def jj.take(c:CS)(f ep ix:Int)(e:ya):jj c (c.take f ep ix e).2:=by
 unfold CS.take;split
 .rename_i h;exact .inr ⟨e,h.2.2.2.2.1,by have:=h.2.2.2.2.2;simp only[CS.len] at this;omega,.inr rfl⟩
 .exact .inl rfl
def jj.zg(c:CS)(f ep ix:Int)(e:ya):jj c (c.zg f ep ix e).2:=by
 unfold CS.zg;split
 .rename_i h;exact .inr ⟨e,h.2.2.2.2.1,by have:=h.2.2.2.2.2;simp only[CS.len] at this;omega,.inl rfl⟩
 .exact .inl rfl
def jj.Xb(c:CS)(e:ya):jj c (c.Xb e).2:=by
 unfold CS.Xb;repeat' split
 all_goals first|exact .inl rfl|skip
 rename_i h1 _ _ _ h2;simp only[not_or,Classical.not_not] at h1;exact .inr ⟨e,h1.1,by simp only[CS.len] at h2;omega,.inr rfl⟩
def jj.Jc(c:CS)(e:ya):jj c (c.Jc e).2:=by
 unfold CS.Jc;repeat' split
 all_goals first|exact .inl rfl|skip
 rename_i h1 _ _ _ h2;simp only[not_or,Classical.not_not] at h1;exact .inr ⟨e,h1.1,by simp only[CS.len] at h2;omega,.inl rfl⟩
def jj.put(c:CS)(key val:ByteArray)(dead:Bool)(deps:V9)(clock cl op:Int):jj c (c.Zf key val dead deps clock cl op).2:=by
 unfold CS.Zf;repeat' split
 all_goals first|exact .inl rfl|skip
 rename_i h1 h2;exact .inr ⟨_,Classical.not_not.1 h2,by simp only[not_or,CS.len] at h1;omega,.inr rfl⟩
def jj.zk(c:CS)(key val:ByteArray)(dead:Bool)(deps:V9)(clock cl op:Int):jj c (c.zk key val dead deps clock cl op).2:=by
 unfold CS.zk;repeat' split
 all_goals first|exact .inl rfl|skip
 rename_i h1 h2;exact .inr ⟨_,Classical.not_not.1 h2,by simp only[not_or,CS.len] at h1;omega,.inl rfl⟩
def jj.ok{c c':CS}(hg:jj c c')(ok:Ob c):Ob c':=by
 rcases hg with rfl|⟨e,he,hl,rfl|rfl⟩
 .exact ok
 .exact ok.push hl he
 .exact(ok.push hl he).settle
def jj.nd{c c':CS}(hg:jj c c'):c'.dc=c.dc/\c'.rg=c.rg/\c'.nd=c.nd:=by
 rcases hg with rfl|⟨e,he,hl,rfl|rfl⟩
 .exact⟨rfl,rfl,rfl⟩
 .exact⟨rfl,rfl,rfl⟩
 .obtain⟨h1,h2,h3,-⟩:=Na (c.push e);exact⟨h1,h2,h3⟩
def LI.sync(h:LI l c N):LI (Ze l) c.sync N:=by
 have h1:LI (Ze l) {c with du:=c.len} N:=by
  refine⟨⟨h.lg.ok.sync,by rw[Xe];exact h.lg.re,?_,by rw[Xe,ij];exact Nat.le_refl _⟩,⟨by rw[Xe];exact h.tl.x,by rw[Xe];exact h.tl.sn,by rw[Xe];exact h.tl.bs,by rw[Xe];exact h.tl.es,?_⟩,⟨h.ok.co,⟨h.ok.bs.1,Int.le_trans h.ok.bs.2 h.ok.du.2⟩,⟨Int.natCast_nonneg _,Int.le_refl _⟩,h.ok.len,h.ok.es⟩,by rw[Mf];exact h.n⟩
  .rw[Xe,ij,drop_length];intro r hr;cases hr
  .rw[Xe,ij,Nat.sub_self];exact di _
 exact h1.settle
def LI.heard(h:LI l c N)(f ep du st:Int):LI l (c.heard f ep du st).2 N:=by
 have hok:=h.ok.heard f ep du st;unfold CS.heard at hok⊢;split
 .rename_i hh;rw[if_pos hh] at hok;obtain⟨-,-,h3,h4,h5,h6,h7,h8,-⟩:=Te c f (mn du c.du) (mn st c.du);obtain⟨-,-,s3,s4,s5,s6,s7,s8,-,-⟩:=Na (c.Pb f (mn du c.du) (mn st c.du));exact h.chain hok (s3.trans h3) (s4.trans h4) (s5.trans h5) (s6.trans h6) (s7.trans h7) (s8.trans h8)
 .exact h
def YI{x:Wa}(h:Md x):jc (some (ff x))=x:=h.2.1
def Hv{x:Wa}(h:Md x){b:Int}(b0:0<=b)(b1:b<=MC):(ee x b).code=0:=by
 have:=rO h.2.2 b0 b1;rwa [h.2.1] at this
def Lz{n:Int}{r:Rec}(hc:r.code=0):(Db [⟨n,[Qc],1⟩] r).1=[⟨n,[Qc,r],1⟩]:=by
 have hle:=(Rec.good hc).Jh;have Ah:=(Rec.good Yh).Jh;have hb:(bytes [Qc]).length=Qc.fr.length:=by unfold bytes;simp
 unfold Db;rw[if_neg (by simpa using hc)];simp only[List.getLast?_singleton,dropLast_singleton];rw[if_neg (by rw[hb];omega),if_neg (by rw[Se];simp only[map_cons,map_nil,sum_cons,sum_nil];rw[hb];omega)];rfl
def LI.enter(h:LI l c N)(x:Wa)(hN:N+2<1099511627776):LI (Lc l c x).2.2 (Lc l c x).2.1 (N+2):=by
 have hn:=h.n;have hlo:=(Lg h.lg.ok).1;unfold Lc
 cases hr:Ee l 2 with
 |false=>rw[if_neg (by decide)];exact h.mono (by omega)
 |true=>
  rw[if_pos rfl];by_cases hR:Md x;rotate_left
  .have e:c.enter x=((false,1),c):=if_pos hR;rw[e,if_neg (show ¬(1:Int)=0 by decide)];exact h.mono (by omega)
  by_cases EU:x.ep<=(jc c.co).ep
  .have e:c.enter x=((false,80),c):=by unfold CS.enter;rw[if_neg (λh=>h hR),if_pos EU]
   rw[e,if_neg (show ¬(80:Int)=0 by decide)];exact h.mono (by omega)
  have e:c.enter x=((c.qi x,0),(c.Tc x).settle):=by unfold CS.enter;rw[if_neg (λh=>h hR),if_neg EU]
  have hok:Ob (c.Tc x):=h.ok.Tc hR;have VA:=qI hR.2.2 c.nd;rw[e,if_pos rfl];simp only[];rw[show(c.Tc x).settle.bs=(c.Tc x).bs from(Na _).2.2.2.2.2.1];refine LI.settle ?_;by_cases hs:Zb (some (ff x)) c.nd≠0/\Zb (some (ff x)) c.nd≠c.sn
  .have e1:c.Tc x=⟨c.dc,c.rg,c.nd,some (ff x),Zb (some (ff x)) c.nd,0,[],0,0,0,0,true⟩:=if_pos hs;have e2:c.qi x=true:=Mi hs;have hc:(ee x (c.Tc x).bs).code=0:=Hv hR (by rw[e1];exact Int.le_refl 0) (by rw[e1];show(0:Int)<=MC;decide);rw[e2,if_pos rfl,Fv h.lg.ok hr (by omega) hlo,Lz hc];generalize MI:(c.Tc x).bs=bs at hc⊢;have hb0:bs=0:=by rw[<-MI,e1]
   subst hb0;rw[e1] at hok⊢;have Gt:Ze [⟨va l+1,[Qc,ee x 0],1⟩]=[⟨va l+1,[Qc,ee x 0],2⟩]:=rfl;rw[Gt];have xb:=h.lg.ok.cut;rw[Fv h.lg.ok hr (by omega) hlo] at xb;have Io:=(xb.HE (ee x 0)).sync;rw[Lz hc,Gt] at Io
   have hrb:Xh c.nd (ye (Ua [⟨va l+1,[Qc,ee x 0],2⟩]))=⟨x,Zb (some (ff x)) c.nd,0,[]⟩:=by
    have:Xh c.nd (ye (Ua [⟨va l+1,[Qc,ee x 0],2⟩]))=Th c.nd Rb.z (ee x 0):=rfl;rw[this];unfold Th;rw[if_neg (show ¬(ee x 0).k=1 from(by decide: ¬(2:Int)=1)),show(ee x 0).c=x from rfl,if_pos (by omega)];rfl
   refine⟨⟨Io,λr hr=>?_,(λr hr=>nomatch hr),Nat.le_refl 2⟩,⟨?_,?_,?_,?_,di _⟩,hok,?_⟩
   .rcases mem_cons.1 hr with rfl|hr
    .exact .inr (.inr rfl)
    .rw[mem_singleton.1 hr];exact .inr (.inl ⟨rfl,hR⟩)
   .show(Xh c.nd _).x=_;rw[hrb];exact(YI hR).symm
   .show(Xh c.nd _).sn=_;rw[hrb]
   .show(Xh c.nd _).bs=_;rw[hrb]
   .show(Xh c.nd _).es=_;rw[hrb]
   .show va l+1<=_;omega
  .have e1:c.Tc x=⟨c.dc,c.rg,c.nd,some (ff x),c.sn,c.len,c.lg,c.len,c.st,0,0,true⟩:=if_neg hs;have e2:c.qi x=false:=rj hs;have tg:=h.ok.len;have hlen:c.len=(c.lg.length:Int):=rfl;have YH:(c.Tc x).bs=c.len:=by rw[e1]
   have hc:(ee x (c.Tc x).bs).code=0:=Hv hR (by rw[YH];omega) (by rw[YH];simp only[MC];omega);rw[e2,if_neg (by decide)];obtain⟨-,g2,g3,g4⟩:=DF h.lg.ok (n:=2) (by decide) hr (by omega) hc;rw[YH] at g2 g3 g4 hc⊢;rw[e1] at hok⊢
   have hrb:Xh c.nd (ye (Ua (Ze (Db l (ee x c.len)).1)))=⟨x,c.sn,c.len,c.lg⟩:=by
    rw[Xe,g2,gj,if_neg (show ¬(ee x c.len).k=3 from(by decide: ¬(2:Int)=3)),Dz];unfold Th;rw[if_neg (show ¬(ee x c.len).k=1 from(by decide: ¬(2:Int)=1)),show(ee x c.len).c=x from rfl,h.tl.sn,h.tl.es];congr 1;split
    .rename_i hp;exact Classical.byContradiction λhne=>hs ⟨by omega,hne⟩
    .rfl
   refine⟨⟨(h.lg.ok.HE _).sync,λr hr=>?_,?_,by rw[Xe,ij];exact Nat.le_refl _⟩,⟨?_,?_,?_,?_,?_⟩,hok,?_⟩
   .rw[Xe,g2] at hr;rcases mem_append.1 hr with hr|hr
    .exact h.lg.re r hr
    .rw[mem_singleton.1 hr];exact .inr (.inl ⟨rfl,hR⟩)
   .rw[Xe,ij,drop_length];intro r hr;cases hr
   .show(Xh c.nd _).x=_;rw[hrb];exact(YI hR).symm
   .show(Xh c.nd _).sn=_;rw[hrb]
   .show(Xh c.nd _).bs=_;rw[hrb]
   .show(Xh c.nd _).es=_;rw[hrb]
   .rw[Xe,ij,Nat.sub_self];exact di _
   .rw[Mf];omega
def CS.again(c:CS)(rs:List Rec):CS:=CS.restore c.dc c.rg c.nd (Xh c.nd (ye rs)).x (Xh c.nd (ye rs)).sn (Xh c.nd (ye rs)).bs (Xh c.nd (ye rs)).es
def Iv{l:List Lf}(h:∀f∈l,f.full=f):Kg l=(Ua l).length:=by
 have e:Ze l=l:=by
  unfold Ze
  conv=>rhs;rw[<-map_id l]
  exact map_congr_left h
 rw[<-ij,e]
def YR(rs:List Rec):∀r∈ye rs,r∈rs/\r.k≠3:=by
 have key:∀(rs o:List Rec),∀r∈rs.foldl (λo r=>if r.k=3 then[] else o++[r]) o,r∈o\/(r∈rs/\r.k≠3):=by
  intro rs
  induction rs with
  |nil=>intro o r h;exact .inl h
  |cons x t ih=>
   intro o r h;rw[foldl_cons] at h;rcases ih _ r h with h|h
   .split at h
    .cases h
    .rename_i hx;rcases mem_append.1 h with h|h
     .exact .inl h
     .rw[mem_singleton.1 h];exact .inr ⟨qf ..,hx⟩
   .exact .inr ⟨Vn _ h.1,h.2⟩
 intro r h;rcases key rs [] r h with h|h
 .cases h
 .exact h
def LI.kN{l':List Lf}{m:Nat}(h:LI l c N)(Vu:Ie l')(hf:∀f∈l',f.full=f)(hk:Kg l<=m)(hm:m<=(Ua l).length)(hr:Ua l'=(Ua l).take m)(hn:va l'<=va l):
  LI l' (c.again (Ua l')) N/\c.again (Ua l')=CS.restore c.dc c.rg c.nd (jc c.co) c.sn c.bs (c.lg.take (c.lg.length - ((Ua l).length - m)))/\(c.again (Ua l')).co=c.co/\(c.again (Ua l')).sn=c.sn/\(c.again (Ua l')).bs=c.bs/\
   (c.again (Ua l')).lg=c.lg.take (c.lg.length - ((Ua l).length - m))/\(c.again (Ua l')).du=(c.again (Ua l')).len/\c.du.toNat<=c.lg.length - ((Ua l).length - m):=by
 have hn0:=h.n;have G2:=h.lg.top;have MK:=h.tl.du;have hd:=h.ok.du;have hlen:c.len=(c.lg.length:Int):=rfl;obtain⟨j,rfl⟩:∃j,m=Kg l+j:=⟨m - Kg l,by omega⟩;obtain⟨A,hA⟩:∃A,(Ua l).take (Kg l)=A:=⟨_,rfl⟩;obtain⟨B,hB⟩:∃B,(Ua l).drop (Kg l)=B:=⟨_,rfl⟩;have hAB:Ua l=A++B:=by rw[<-hA,<-hB,take_append_drop]
 have hBl:B.length=(Ua l).length - Kg l:=by rw[<-hB,length_drop]
 have J7:∀r∈B,r.k=1:=by rw[<-hB];exact h.lg.loose
 have DU:Ua l'=A++B.take j:=by rw[hr,take_add,hA,hB]
 have hBj:∀r∈B.take j,r.k=1:=λr hr=>J7 r (mem_of_mem_take hr)
 have e1:Xh c.nd (ye (Ua l))=⟨(Xh c.nd (ye A)).x,(Xh c.nd (ye A)).sn,(Xh c.nd (ye A)).bs,(Xh c.nd (ye A)).es++B.map (·.e)⟩:=by
  rw[hAB,Gr _ _ J7,KG,LG _ _ _ J7]
 have e2:Xh c.nd (ye (Ua l'))=⟨(Xh c.nd (ye A)).x,(Xh c.nd (ye A)).sn,(Xh c.nd (ye A)).bs,(Xh c.nd (ye A)).es++(B.take j).map (·.e)⟩:=by
  rw[DU,Gr _ _ hBj,KG,LG _ _ _ hBj]
 have t1:=h.tl.x;have t2:=h.tl.sn;have t3:=h.tl.bs;have t4:=h.tl.es;rw[e1] at t1 t2 t3 t4;simp only[] at t1 t2 t3 t4;have tg:c.lg.length=(Xh c.nd (ye A)).es.length+B.length:=by rw[<-t4];simp
 have hes:(Xh c.nd (ye A)).es++(B.take j).map (·.e)=c.lg.take (c.lg.length - ((Ua l).length - (Kg l+j))):=by
  rw[show c.lg.length - ((Ua l).length - (Kg l+j))=(Xh c.nd (ye A)).es.length+j by omega,<-t4,take_length_add_append,map_take]
 rw[t1,t2,t3,hes] at e2;have hag:c.again (Ua l')=CS.restore c.dc c.rg c.nd (jc c.co) c.sn c.bs (c.lg.take (c.lg.length - ((Ua l).length - (Kg l+j)))):=by unfold CS.again;rw[e2]
 have hdl:c.du.toNat<=c.lg.length - ((Ua l).length - (Kg l+j)):=by omega
 generalize hK:c.lg.length - ((Ua l).length - (Kg l+j))=K at*;have hlk:(c.lg.take K).length=K:=by rw[Oe];omega
 obtain⟨r,hres⟩:∃r,CS.restore c.dc c.rg c.nd (jc c.co) c.sn c.bs (c.lg.take K)=r:=⟨_,rfl⟩;obtain⟨-,-,s3,s4,s5,s6,s7,s8,-,-⟩:=Na (CS.pg c.dc c.rg c.nd (jc c.co) c.sn c.bs (c.lg.take K))
 have AQ:(CS.pg c.dc c.rg c.nd (jc c.co) c.sn c.bs (c.lg.take K)).co=c.co:=by
  show(if Md (jc c.co) then some (ff (jc c.co)) else none)=c.co
  cases hc:c.co with
  |none=>exact if_neg Wx
  |some d=>
   have okd:=h.ok.co d hc;show(if Md d.cfg then some (ff d.cfg) else none)=some d;rw[if_pos (Jv okd),Tt (by have:=okd.l4;omega)]
 have MI:(CS.pg c.dc c.rg c.nd (jc c.co) c.sn c.bs (c.lg.take K)).bs=c.bs:=by
  show mx 0 (mn c.bs ((c.lg.take K).length:Int))=c.bs;rw[hlk];have:=h.ok.bs;unfold mx mn;split<;>split<;>omega
 have s3:(CS.restore c.dc c.rg c.nd (jc c.co) c.sn c.bs (c.lg.take K)).nd=c.nd:=s3;have s4:(CS.restore c.dc c.rg c.nd (jc c.co) c.sn c.bs (c.lg.take K)).co=c.co:=s4.trans AQ;have s5:(CS.restore c.dc c.rg c.nd (jc c.co) c.sn c.bs (c.lg.take K)).sn=c.sn:=s5;have s6:(CS.restore c.dc c.rg c.nd (jc c.co) c.sn c.bs (c.lg.take K)).bs=c.bs:=s6.trans MI;have s7:(CS.restore c.dc c.rg c.nd (jc c.co) c.sn c.bs (c.lg.take K)).lg=c.lg.take K:=s7;have s8:(CS.restore c.dc c.rg c.nd (jc c.co) c.sn c.bs (c.lg.take K)).du=((c.lg.take K).length:Int):=s8;have hok:Ob (CS.restore c.dc c.rg c.nd (jc c.co) c.sn c.bs (c.lg.take K)):=Ob.restore (by rw[hlk];have:=h.ok.len;omega) λe he=>h.ok.es e (mem_of_mem_take he);rw[hag];refine⟨⟨⟨Vu,λx hx=>h.lg.re x (by rw[hr] at hx;exact mem_of_mem_take hx),?_,by rw[Iv hf];exact Nat.le_refl _⟩,⟨?_,?_,?_,?_,?_⟩,hok,by omega⟩,rfl,s4,s5,s6,s7,?_,hdl⟩
 .rw[Iv hf,drop_length];intro x hx;cases hx
 .rw[s3,s4,e2]
 .rw[s3,s5,e2]
 .rw[s3,s6,e2]
 .rw[s3,s7,e2]
 .rw[Iv hf,Nat.sub_self];exact di _
 .rw[s8];unfold CS.len;rw[s7]
end
inductive Ga where
 |up (l:List Lf) (c:CS) (t:Int)
 |dn (l:List Lf) (c:CS) (q:Nat)
def Ga.jb:Ga->Bool
 | .up .. =>true
 | .dn .. =>false
def Ga.c0:Ga->CS
 | .up _ c _=>c
 | .dn _ c _=>c
def Ga.l0:Ga->List Lf
 | .up l _ _=>l
 | .dn l _ _=>l
def Ga.ch:Ga->CS
 | .up _ c _=>c
 | .dn _ c _=>CS.new c.dc c.rg c.nd
def Ga.G7:Ga->Be
 | .up l _ _=>dk l
 | .dn l _ q=>⟨qe l q,[]⟩
def Ga.ok(s:Ga)(N:Int):Prop:=LI s.l0 s.c0 N
structure A2(s:Ga)(cb d w:Nat)(v:Value)(hv:Hp)(seg t:Int)(hd:Hp):Prop where
 sl:ia 49 s.ch.lg v hv
 dk:Od s.G7 d hd
 sg:s.jb=true->seg=va s.l0
 tn:∀l c t',s= .up l c t'->t=t'
 nv:s.jb=false->v= .slice none 0 0/\hv=[]
def Dg(s:Ga)(b:Nat)(h:Hp):Prop:=∃cb d w v hv seg t hd,h=Mb b cb s.c0.dc s.c0.rg s.c0.nd d w s.jb++(ja cb s.ch v++(hv++(zf w d seg t++hd)))/\A2 s cb d w v hv seg t hd
def Ga.sync:Ga->Ga
 | .up l c t=> .up (Ze l) c.sync t
 | .dn l c q=> .dn l c q
def Ga.take(s:Ga)(fr ep ix:Int)(e:ya):Bool×Ga:=match s with
 | .up l c t=>((Gd l c fr ep ix e).1,.up (Gd l c fr ep ix e).2.2 (Gd l c fr ep ix e).2.1 t)
 | .dn l c q=>(false,.dn l c q)
def Ga.inj(s:Ga)(e:ya):Int×Ga:=match s with
 | .up l c t=>((dg l c e).1,.up (dg l c e).2.2 (dg l c e).2.1 t)
 | .dn l c q=>(52,.dn l c q)
def Ga.put(s:Ga)(key val:ByteArray)(dead:Bool)(deps:V9)(clock cl op:Int):(Int×Int)×Ga:=match s with
 | .up l c t=>((jd l c key val dead deps clock cl op).1,.up (jd l c key val dead deps clock cl op).2.2 (jd l c key val dead deps clock cl op).2.1 t)
 | .dn l c q=>((0,52),.dn l c q)
def Ga.enter(s:Ga)(x:Wa):(Bool×Int)×Ga:=match s with
 | .up l c t=>((Lc l c x).1,.up (Lc l c x).2.2 (Lc l c x).2.1 t)
 | .dn l c q=>((false,52),.dn l c q)
def Ga.heard(s:Ga)(f ep du st:Int):Bool×Ga:=match s with
 | .up l c t=>((c.heard f ep du st).1,.up l (c.heard f ep du st).2 t)
 | .dn l c q=>(false,.dn l c q)
def Ga.Dc(s:Ga)(keep:Int):Ga:=match s with
 | .up l c _=> .dn l c keep.toNat
 | .dn l c q=> .dn l c q
section
variable{s:Ga}{N:Int}
def Ga.ok.mono{M:Int}(h:s.ok N)(hm:N<=M):s.ok M:=LI.mono h hm
def Ga.ok.sync(h:s.ok N):s.sync.ok N:=by
 cases s with
 |up l c t=>exact LI.sync h
 |dn l c q=>exact h
def Ga.ok.take(h:s.ok N)(hN:N<1099511627776)(fr ep ix:Int)(e:ya):(s.take fr ep ix e).2.ok (N+1):=by
 cases s with
 |up l c t=>
  have h:LI l c N:=h;show LI (Gd l c fr ep ix e).2.2 (Gd l c fr ep ix e).2.1 (N+1);unfold Gd;split
  .rename_i hr;exact h.lY (jj.take c fr ep ix e) hr hN
  .exact h.mono (by omega)
 |dn l c q=>exact LI.mono h (by omega)
def Ga.ok.inj(h:s.ok N)(hN:N<1099511627776)(e:ya):(s.inj e).2.ok (N+1):=by
 cases s with
 |up l c t=>
  have h:LI l c N:=h;show LI (dg l c e).2.2 (dg l c e).2.1 (N+1);unfold dg;split
  .rename_i hr;exact h.lY (jj.Xb c e) hr hN
  .exact h.mono (by omega)
 |dn l c q=>exact LI.mono h (by omega)
def Ga.ok.put(h:s.ok N)(hN:N<1099511627776)(key val:ByteArray)(dead:Bool)(deps:V9)(clock cl op:Int):(s.put key val dead deps clock cl op).2.ok (N+1):=by
 cases s with
 |up l c t=>
  have h:LI l c N:=h;show LI (jd l c key val dead deps clock cl op).2.2 (jd l c key val dead deps clock cl op).2.1 (N+1);unfold jd;split
  .rename_i hr;exact h.lY (jj.put c key val dead deps clock cl op) hr hN
  .exact h.mono (by omega)
 |dn l c q=>exact LI.mono h (by omega)
def Ga.ok.enter(h:s.ok N)(hN:N+2<1099511627776)(x:Wa):(s.enter x).2.ok (N+2):=by
 cases s with
 |up l c t=>exact LI.enter h x hN
 |dn l c q=>exact LI.mono h (by omega)
def Ga.ok.heard(h:s.ok N)(f ep du st:Int):(s.heard f ep du st).2.ok N:=by
 cases s with
 |up l c t=>exact LI.heard h f ep du st
 |dn l c q=>exact h
def Ga.ok.Dc(h:s.ok N)(keep:Int):(s.Dc keep).ok N:=by
 cases s with
 |up l c t=>exact h
 |dn l c q=>exact h
end
def Lb(c c':CS):Prop:=c'.dc=c.dc/\c'.rg=c.rg/\c'.nd=c.nd
def Lb.refl(c:CS):Lb c c:=⟨rfl,rfl,rfl⟩
def Lb.trans{a b c:CS}(h:Lb a b)(k:Lb b c):Lb a c:=⟨k.1.trans h.1,k.2.1.trans h.2.1,k.2.2.trans h.2.2⟩
def Kv(c:CS):Lb c c.settle:=⟨(Na c).1,(Na c).2.1,(Na c).2.2.1⟩
def Qj(c:CS):Lb c c.sync:=Kv {c with du:=c.len}
def Ih(c:CS)(x:Wa):Lb c (c.enter x).2:=by
 unfold CS.enter;split
 .exact Lb.refl c
 .split
  .exact Lb.refl c
  .refine Lb.trans ?_ (Kv (c.Tc x));unfold CS.Tc;split<;>exact⟨rfl,rfl,rfl⟩
def Ek(c:CS)(f ep du st:Int):Lb c (c.heard f ep du st).2:=by
 unfold CS.heard;split
 .exact Lb.trans ⟨(Te c f _ _).1,(Te c f _ _).2.1,(Te c f _ _).2.2.1⟩ (Kv _)
 .exact Lb.refl c
def RI(c:CS)(rs:List Rec):Lb c (c.again rs):=⟨(Na _).1,(Na _).2.1,(Na _).2.2.1⟩
def Dm(l:List Lf)(c:CS)(fr ep ix:Int)(e:ya):Lb c (Gd l c fr ep ix e).2.1:=by
 unfold Gd;split
 .exact(jj.take c fr ep ix e).nd
 .exact Lb.refl c
def gq(l:List Lf)(c:CS)(e:ya):Lb c (dg l c e).2.1:=by
 unfold dg;split
 .exact(jj.Xb c e).nd
 .exact Lb.refl c
def Fo(l:List Lf)(c:CS)(key val:ByteArray)(dead:Bool)(deps:V9)(clock cl op:Int):Lb c (jd l c key val dead deps clock cl op).2.1:=by
 unfold jd;split
 .exact(jj.put c key val dead deps clock cl op).nd
 .exact Lb.refl c
def Mz(l:List Lf)(c:CS)(x:Wa):Lb c (Lc l c x).2.1:=by
 unfold Lc;repeat' split
 all_goals first|exact Lb.refl c|exact Ih c x
def CF(dc rg nd f ep du st:Int):(CS.new dc rg nd).heard f ep du st=(false,CS.new dc rg nd):=by
 have hb:Vc (CS.new dc rg nd).co (CS.new dc rg nd).nd= -1:=by
  show Vc none nd= -1;unfold Vc;split
  .rfl
  .rfl
 unfold CS.heard;rw[hb,if_neg (by omega)]
abbrev Bb(b cb d w:Nat)(up:Bool)(tn:Int):Hp:=[(b,.cells (List.toArray [cb,d,w,.bool up,tn]) 119 (0,0))]
def Pz(b cb d w:Nat)(Ba tn:Int)(c:CS)(l:List Lf)(T:Int)(H':HH):Prop:=
 ∃v hv hd,H'=[Bb b cb d w true tn,ta cb c v,hv,uf w d (va l) Ba,hd]/\ia 49 c.lg v hv/\RD l d hd T
def PR(dc rg nd:Int):Ct prog 54 [dc,rg,nd] []
  (λr H'=>∃b cb d w hd,r= .pointer (some ⟨b,0,none⟩)/\H'=[Bb b cb d w true 0,ta cb (CS.new dc rg nd) (.slice none 0 0),uf w d (va []) 0,hd]/\RD [] d hd 0):=by
 refine ng func54 λg R=>?_;refine ck (Ut dc rg nd) ?_;rintro _ _ ⟨cb,rfl,rfl⟩;simp only[can];refine ck DV ?_;rintro _ _ ⟨d,h0,rfl,rfl,Gl⟩;have Gl:RD [] d h0 0:=⟨[],0,LR.nil,Int.le_refl 0,Gl⟩;repeat' first|refine Za ?_|refine Uc λ_=>?_|refine jf [.pointer (some ⟨cb,0,none⟩),.pointer (some ⟨d,0,none⟩),.pointer none,.bool true,.int .i64 0] ?_
 rename_i b;refine ck (Sw Ie.nil Gl) ?_;rintro _ _ ⟨w,u,h1,ho,rfl,rfl,Bo,hs1⟩;refine Za ?_;refine ei [.pointer (some ⟨cb,0,none⟩),.pointer (some ⟨d,0,none⟩),.pointer none,.bool true,.int .i64 0] [.pointer (some ⟨cb,0,none⟩),.pointer (some ⟨d,0,none⟩),.pointer (some ⟨w,0,none⟩),.bool true,.int .i64 0] ?_;try refine ga ?_
 exact Xa [Bb b cb d w true 0,ta cb (CS.new dc rg nd) (.slice none 0 0),uf w d (va []) 0,h1] rfl rfl ⟨b,cb,d,w,h1,rfl,rfl,Bo⟩
def nP{e:ya}(h:ud e):(Km e).size<=1073741824:=by
 have hk:=h.key;have hv:=h.val;show e.key.data.toList.length+e.val.data.toList.length<=1073741824;rw[show e.key.data.toList.length=e.key.size from Array.length_toList,show e.val.data.toList.length=e.val.size from Array.length_toList];omega
section
variable{l:List Lf}(ok:Ie l)(b cb:Nat){d w:Nat}{Ba tn T:Int}{hd:Hp}(hdk:RD l d hd T)(Qh:0<=T)(hT:T<=137438953472)
include ok hdk Qh hT
theorem Bs{r:Rec}(hz:r.size<=1073741824):
  Ct prog 138 [b,.agg (List.toArray r.enc)] [Bb b cb d w true tn,uf w d (va l) Ba,hd]
   (λv H'=>v= .tuple #[]/\∃hd',H'=[Bb b cb d w true tn,uf w d (va (Db l r).1) Ba,hd']/\RD (Db l r).1 d hd' (T+243)):=by
 refine ce func138 λg R=>?_;repeat' first|refine Za ?_|refine Uc λ_=>?_
 rename_i b1;refine KK (ml [6,3]) [Bb b cb d w true tn,fP b1 r] ?_;repeat' first|refine ga ?_|refine Xf (t:=140) r.enc r.enc ?_
 refine Up [r] (λv2 h2 Sa=>?_);try refine ga ?_
 refine WX.Pe ?_;refine Jt (zb:=by simp only[Ib,td];omega) (show ia 140 ([]:List Rec) (.slice none 0 0) [] from ia.nil _) Sa.rs (λv3 h3 Cc=>?_);rw[nil_append] at Cc;try refine ga ?_
 have js:=EV ok hdk Cc.rs (by simp) Qh (by omega) (λx hx=>by rw[mem_singleton.1 hx];exact hz) (w:=w) (Ba:=Ba);rw[MG] at js;refine ck js ?_;rintro _ _ ⟨hd',rfl,rfl,Hj⟩;have Hj:RD (Db l r).1 d hd' (T+243):=Hj;refine Za ?_;exact D.fc [Bb b cb d w true tn,uf w d (va (Db l r).1) Ba,hd'] _ rfl ⟨rfl,hd',rfl,Hj⟩
theorem Cs{c:CS}(xb:Ob c){v:Value}{hv:Hp}(hs:Rs c.lg v hv){was:Nat}(h1:was<=c.lg.length)(h2:c.lg.length<=was+1):
  Ct prog 181 [b,.int .i64 (was:Int)] [Bb b cb d w true tn,ta cb c v,hv,uf w d (va l) Ba,hd]
   (λr H'=>r= .tuple #[]/\∃hd',H'=[Bb b cb d w true tn,ta cb c v,hv,uf w d (va (xd l c (was:Int))) Ba,hd']/\RD (xd l c (was:Int)) d hd' (T+243)):=by
 have tg:=xb.len;have hlen:c.len=(c.lg.length:Int):=rfl;obtain⟨up,uc,rfl⟩:=hs.len;refine ce func181 λg R=>?_;simp only[can];by_cases hw:was<c.lg.length
 .obtain⟨e,he⟩:=Lh hw
  have hg:xd l c (was:Int)=(Db l (Km e)).1:=by
   unfold xd;rw[if_pos (by omega),show((was:Int)).toNat=was from rfl,getD_eq_getElem?_getD,he];rfl
  have Y5:ud e:=xb.es _ (mem_of_getElem? he);have hwr:=Bs ok b cb hdk Qh hT (w:=w) (Ba:=Ba) (tn:=tn) (nP Y5);rw[hg];obtain⟨lz,hlz⟩:∃lz,(Db l (Km e)).1=lz:=⟨_,rfl⟩;rw[hlz] at hwr⊢;try refine ga ?_
  refine W.lo (α:=Nat×List Lf×Hp) (λx=>(x.1=was/\x.2.1=l/\x.2.2=hd)\/(x.1=was+1/\x.2.1=lz/\RD lz d x.2.2 (T+243))) (λx=>[(0,b),(4,.int .i64 (x.1:Int))])
   (λx=>[Bb b cb d w true tn,ta cb c (.slice up c.lg.length uc),hv,uf w d (va x.2.1) Ba,x.2.2,R]) (λx=>was+1 - x.1) (was,l,hd) (.inl ⟨rfl,rfl,rfl⟩) ?_
  rintro⟨i,m,y⟩ (⟨rfl,rfl,rfl⟩|⟨rfl,rfl,hy⟩)
  .simp only[];repeat' first|refine ga ?_|refine Vx hs he ?_|refine jf (t:=140) (Km e).enc ?_
   refine ck hwr ?_;rintro _ _ ⟨rfl,hd',rfl,Hj⟩;refine Za ?_;exact D.rd (i+1,lz,hd') (.inr ⟨rfl,rfl,Hj⟩) (by simp only[];omega)
  .have Yy:c.lg.length=was+1:=by omega
   simp only[];try refine ga ?_
   exact D.fc [Bb b cb d w true tn,ta cb c (.slice up c.lg.length uc),hv,uf w d (va m) Ba,y] _ rfl ⟨rfl,y,rfl,hy⟩
 .have hg:xd l c (was:Int)=l:=by unfold xd;rw[if_neg (by omega)]
  rw[hg];try refine ga ?_
  refine W.lo (α:=Unit) (λ_=>True) (λ_=>[(0,b),(4,.int .i64 (was:Int))])
   (λ_=>[Bb b cb d w true tn,ta cb c (.slice up c.lg.length uc),hv,uf w d (va l) Ba,hd,R]) (λ_=>0) () trivial ?_
  rintro - -;try refine ga ?_
  exact D.fc [Bb b cb d w true tn,ta cb c (.slice up c.lg.length uc),hv,uf w d (va l) Ba,hd] _ rfl ⟨rfl,hd,rfl,hdk.mono (by omega)⟩
end
section
variable{l:List Lf}(ok:Ie l)(b cb:Nat){d w:Nat}{Ba tn T:Int}{hd:Hp}(hdk:RD l d hd T)(Qh:0<=T)(hT:T<=137438953472){c:CS}(xb:Ob c){v:Value}{hv:Hp}(hs:ia 49 c.lg v hv)
include ok hdk Qh hT xb hs
theorem oP:Ct prog 197 [b] [Bb b cb d w true tn,ta cb c v,hv,uf w d (va l) Ba,hd]
  (λr H'=>r= .tuple #[]/\Pz b cb d w Ba tn c.sync (Ze l) (T+243) H'):=by
 have _:=Qh;have _:=hT;have Gt:=Qz ok hdk (w:=w) (seg:=va l) (Ba:=Ba);have hcs:=AO xb cb hs;rw[<-Mf l] at Gt;refine ce func197 λg R=>?_;simp only[can];rw[<-Mf l];try refine ga ?_
 refine ck Gt ?_;rintro _ _ ⟨hd',rfl,Hj⟩;refine Za ?_;refine ck hcs ?_;rintro _ _ ⟨rfl,v',Rc,rfl,hs'⟩;refine Za ?_;exact D.fc [Bb b cb d w true tn,ta cb c.sync v',Rc,uf w d (va (Ze l)) Ba,hd'] _ rfl ⟨rfl,v',Rc,hd',rfl,hs',Hj.mono (by omega)⟩
def Pj(l:List Lf)(c:CS)(fr ep ix:Int)(e:ya):Bool×CS×List Lf:=
 if Ee l 1=true then((c.zg fr ep ix e).1,(c.zg fr ep ix e).2,xd l (c.zg fr ep ix e).2 c.len) else(false,c,l)
theorem Rz{c c':CS}(h:jj c c'):c.lg.length<=c'.lg.length/\c'.lg.length<=c.lg.length+1:=by
 have _:=ok;have _:=hdk;have _:=Qh;have _:=hT;have _:=xb;have _:=hs;rcases h with rfl|⟨e,_,_,rfl|rfl⟩
 .omega
 .show c.lg.length<=(c.lg++[e]).length/\_;simp[CS.push]
 .rw[(Na (c.push e)).2.2.2.2.2.2.1];show c.lg.length<=(c.lg++[e]).length/\_;simp[CS.push]
theorem pP(fr ep ix:Int)(e:ya):Ct prog 87 [b,fr,ep,ix,.agg (List.toArray e.enc)] [Bb b cb d w true tn,ta cb c v,hv,uf w d (va l) Ba,hd]
  (λr H'=>r= .bool (Pj l c fr ep ix e).1/\Pz b cb d w Ba tn (Pj l c fr ep ix e).2.1 (Pj l c fr ep ix e).2.2 (T+243) H'):=by
 have hroom:=ru ok hdk (w:=w) (seg:=va l) (Ba:=Ba) 1;have tg:=xb.len;have dL:c.len=(c.lg.length:Int):=rfl;obtain⟨up,uc,rfl⟩:=hs.rs.len
 cases hrm:Ee l 1 with
 |false=>
  have e0:Pj l c fr ep ix e=(false,c,l):=if_neg (by rw[hrm];decide);rw[e0];rw[hrm] at hroom;refine ce func87 λg R=>?_;repeat' first|refine Za ?_|refine Uc λ_=>?_|refine cq hroom ?_
  exact Xa [Bb b cb d w true tn,ta cb c (.slice up c.lg.length uc),hv,uf w d (va l) Ba,hd] rfl rfl ⟨rfl,_,hv,hd,rfl,hs,hdk.mono (by omega)⟩
 |true=>
  have e0:Pj l c fr ep ix e=((c.zg fr ep ix e).1,(c.zg fr ep ix e).2,xd l (c.zg fr ep ix e).2 c.len):=if_pos hrm;rw[e0,dL];rw[hrm] at hroom;have Fh:=CO xb cb hs fr ep ix e;have fS:=jj.zg c fr ep ix e;generalize c.zg fr ep ix e=t at Fh fS⊢;have EF:=fS.ok xb;obtain⟨g1,g2⟩:=Rz ok hdk Qh hT xb hs fS;refine ce func87 λg R=>?_;repeat' first|refine Za ?_|refine Uc λ_=>?_|refine cq hroom ?_
  rename_i b9;refine KK (ml [8,1]) [Bb b cb d w true tn,Gb b9 e] ?_;repeat' first|refine ga ?_|refine Xf (t:=49) e.enc e.enc ?_
  refine ck Fh ?_;rintro _ _ ⟨rfl,v',Rc,rfl,hs'⟩;have ou:=Cs ok b cb hdk Qh hT EF hs'.rs (w:=w) (Ba:=Ba) (tn:=tn) g1 g2;refine Za ?_;refine ck ou ?_;rintro _ _ ⟨rfl,hd',rfl,Hj⟩;refine Za ?_;exact Xa [Bb b cb d w true tn,ta cb t.2 v',Rc,uf w d (va (xd l t.2 (c.lg.length:Int))) Ba,hd'] rfl rfl ⟨rfl,v',Rc,hd',rfl,hs',Hj⟩
def Ak(l:List Lf)(c:CS)(e:ya):Int×CS×List Lf:=
 if Ee l 1=true then((c.Jc e).1,(c.Jc e).2,xd l (c.Jc e).2 c.len) else(51,c,l)
theorem zR(e:ya):Ct prog 189 [b,.agg (List.toArray e.enc)] [Bb b cb d w true tn,ta cb c v,hv,uf w d (va l) Ba,hd]
  (λr H'=>r= .int .i64 (Ak l c e).1/\Pz b cb d w Ba tn (Ak l c e).2.1 (Ak l c e).2.2 (T+243) H'):=by
 have hroom:=ru ok hdk (w:=w) (seg:=va l) (Ba:=Ba) 1;have tg:=xb.len;have dL:c.len=(c.lg.length:Int):=rfl;obtain⟨up,uc,rfl⟩:=hs.rs.len
 cases hrm:Ee l 1 with
 |false=>
  have e0:Ak l c e=(51,c,l):=if_neg (by rw[hrm];decide);rw[e0];rw[hrm] at hroom;refine ce func189 λg R=>?_;repeat' first|refine Za ?_|refine Uc λ_=>?_|refine cq hroom ?_
  exact Xa [Bb b cb d w true tn,ta cb c (.slice up c.lg.length uc),hv,uf w d (va l) Ba,hd] rfl rfl ⟨rfl,_,hv,hd,rfl,hs,hdk.mono (by omega)⟩
 |true=>
  have e0:Ak l c e=((c.Jc e).1,(c.Jc e).2,xd l (c.Jc e).2 c.len):=if_pos hrm;rw[e0,dL];rw[hrm] at hroom;have Fh:=rI xb cb hs e;have fS:=jj.Jc c e;generalize c.Jc e=t at Fh fS⊢;have EF:=fS.ok xb;obtain⟨g1,g2⟩:=Rz ok hdk Qh hT xb hs fS;refine ce func189 λg R=>?_;repeat' first|refine Za ?_|refine Uc λ_=>?_|refine cq hroom ?_
  rename_i b9;refine KK (ml [5,1]) [Bb b cb d w true tn,Gb b9 e] ?_;repeat' first|refine ga ?_|refine Xf (t:=49) e.enc e.enc ?_
  refine ck Fh ?_;rintro _ _ ⟨rfl,v',Rc,rfl,hs'⟩;have ou:=Cs ok b cb hdk Qh hT EF hs'.rs (w:=w) (Ba:=Ba) (tn:=tn) g1 g2;refine Za ?_;refine ck ou ?_;rintro _ _ ⟨rfl,hd',rfl,Hj⟩;refine Za ?_;exact Xa [Bb b cb d w true tn,ta cb t.2 v',Rc,uf w d (va (xd l t.2 (c.lg.length:Int))) Ba,hd'] rfl rfl ⟨rfl,v',Rc,hd',rfl,hs',Hj⟩
def Fj(l:List Lf)(c:CS)(key val:ByteArray)(dead:Bool)(deps:V9)(clock cl op:Int):(Int×Int)×CS×List Lf:=
 if Ee l 1=true then((c.zk key val dead deps clock cl op).1,(c.zk key val dead deps clock cl op).2,xd l (c.zk key val dead deps clock cl op).2 c.len) else((0,51),c,l)
theorem AR(key val:ByteArray)(dead:Bool)(deps:V9)(clock cl op:Int):Ct prog 175 [b,.string key,.string val,.bool dead,.agg (List.toArray deps.enc),clock,cl,op] [Bb b cb d w true tn,ta cb c v,hv,uf w d (va l) Ba,hd]
  (λr H'=>r= .tuple #[.int .i64 (Fj l c key val dead deps clock cl op).1.1,.int .i64 (Fj l c key val dead deps clock cl op).1.2]/\Pz b cb d w Ba tn (Fj l c key val dead deps clock cl op).2.1 (Fj l c key val dead deps clock cl op).2.2 (T+243) H'):=by
 have hroom:=ru ok hdk (w:=w) (seg:=va l) (Ba:=Ba) 1;have tg:=xb.len;have dL:c.len=(c.lg.length:Int):=rfl;obtain⟨up,uc,rfl⟩:=hs.rs.len
 cases hrm:Ee l 1 with
 |false=>
  have e0:Fj l c key val dead deps clock cl op=((0,51),c,l):=if_neg (by rw[hrm];decide);rw[e0];rw[hrm] at hroom;refine ce func175 λg R=>?_;repeat' first|refine Za ?_|refine Uc λ_=>?_|refine cq hroom ?_
  exact D.Vb [Bb b cb d w true tn,ta cb c (.slice up c.lg.length uc),hv,uf w d (va l) Ba,hd] _ rfl rfl rfl ⟨rfl,_,hv,hd,rfl,hs,hdk.mono (by omega)⟩
 |true=>
  have e0:Fj l c key val dead deps clock cl op=((c.zk key val dead deps clock cl op).1,(c.zk key val dead deps clock cl op).2,xd l (c.zk key val dead deps clock cl op).2 c.len):=if_pos hrm;rw[e0,dL];rw[hrm] at hroom;have Fh:=mR xb cb hs key val dead deps clock cl op;have fS:=jj.zk c key val dead deps clock cl op;generalize c.zk key val dead deps clock cl op=t at Fh fS⊢;have EF:=fS.ok xb;obtain⟨g1,g2⟩:=Rz ok hdk Qh hT xb hs fS;refine ce func175 λg R=>?_;repeat' first|refine Za ?_|refine Uc λ_=>?_|refine cq hroom ?_
  rename_i b9;refine KK (ml [11,1,5]) [Bb b cb d w true tn,Ra b9 deps] ?_;repeat' first|refine ga ?_|refine Xf (t:=47) deps.enc deps.enc ?_
  refine ck Fh ?_;rintro _ _ ⟨rfl,v',Rc,rfl,hs'⟩;have ou:=Cs ok b cb hdk Qh hT EF hs'.rs (w:=w) (Ba:=Ba) (tn:=tn) g1 g2;refine Za ?_;refine ck ou ?_;rintro _ _ ⟨rfl,hd',rfl,Hj⟩;refine Za ?_;exact D.Vb [Bb b cb d w true tn,ta cb t.2 v',Rc,uf w d (va (xd l t.2 (c.lg.length:Int))) Ba,hd'] _ rfl rfl rfl ⟨rfl,v',Rc,hd',rfl,hs',Hj⟩
end
variable{l:List Lf}{d:Nat}{hd:Hp}
def Bk(l:List Lf)(c:CS)(x:Wa):(Bool×Int)×CS×List Lf:=
 if Ee l 2=true then
  (if(c.enter x).1.2=0 then((c.enter x).1,(c.enter x).2,Ze (Db (if(c.enter x).1.1=true then(Tj l).1 else l) (ee x (c.enter x).2.bs)).1) else((false,(c.enter x).1.2),(c.enter x).2,l))
 else((false,51),c,l)
def iS(l:List Lf)(c:CS)(x:Wa):(Bk l c x).2=(Lc l c x).2:=by
 unfold Bk Lc;repeat' split
 all_goals rfl
def GF(x:Wa)(b:Int):(ee x b).size<=1073741824:=by show(0:Nat)<=1073741824;omega
def HL(ok:Ie l)(b cb:Nat){w:Nat}{Ba tn T:Int}(hdk:RD l d hd T)(Qh:0<=T)(hT:T<=68719476736){c:CS}(xb:Ob c){v:Value}{hv:Hp}(hs:ia 49 c.lg v hv)(x:Wa):
  Ct prog 57 [b,.agg (List.toArray x.enc)] [Bb b cb d w true tn,ta cb c v,hv,uf w d (va l) Ba,hd]
   (λr H'=>r= .tuple #[.bool (Bk l c x).1.1,.int .i64 (Bk l c x).1.2]/\Pz b cb d w Ba tn (Bk l c x).2.1 (Bk l c x).2.2 (T+486) H'):=by
 have hrm:=ru ok hdk (w:=w) (seg:=va l) (Ba:=Ba) 2
 cases hr:Ee l 2 with
 |false=>
  have e0:Bk l c x=((false,51),c,l):=if_neg (by rw[hr];decide);rw[e0];rw[hr] at hrm;refine ce func57 λg R=>?_;repeat' first|refine Za ?_|refine Uc λ_=>?_|refine cq hrm ?_
  exact D.Vb [Bb b cb d w true tn,ta cb c v,hv,uf w d (va l) Ba,hd] _ rfl rfl rfl ⟨rfl,v,hv,hd,rfl,hs,hdk.mono (by omega)⟩
 |true=>
  rw[hr] at hrm;have Fh:=fL xb cb hs x;have EF:=xb.enter x;have e0:Bk l c x=(if(c.enter x).1.2=0 then((c.enter x).1,(c.enter x).2,Ze (Db (if(c.enter x).1.1=true then(Tj l).1 else l) (ee x (c.enter x).2.bs)).1) else((false,(c.enter x).1.2),(c.enter x).2,l)):=if_pos hr;rw[e0];clear e0;generalize c.enter x=t at Fh EF⊢;obtain⟨⟨H7,er⟩,c'⟩:=t;simp only[] at Fh EF⊢;by_cases he:er=0
  .subst he;rw[if_pos rfl]
   cases H7 with
   |true=>
    rw[if_pos rfl];have Jo:=FV ok hdk (by omega) (w:=w) (Ba:=Ba);have SO:=ok.cut;refine ce func57 λg R=>?_;repeat' first|refine Za ?_|refine Uc λ_=>?_|refine cq hrm ?_
    rename_i b3;refine KK (ml [5,1,5]) [Bb b cb d w true tn,od b3 x] ?_;repeat' first|refine ga ?_|refine Xf (t:=40) x.enc x.enc ?_
    refine ck Fh ?_;rintro _ _ ⟨rfl,v',Rc,rfl,hs'⟩;refine Za ?_;refine ck Jo ?_;rintro _ _ ⟨Gl,rfl,rfl,XR⟩;refine Za ?_;refine KK (ml [10,1]) [Bb b cb d w true tn,od b3 x,ta cb c' v'] ?_;repeat' first|refine ga ?_|refine Xf (t:=40) x.enc x.enc ?_|refine jf (t:=140) (ee x c'.bs).enc ?_
    have js:=Bs SO b cb XR (by omega) (by omega) (GF x c'.bs) (w:=w) (Ba:=Ba) (tn:=tn);refine ck js ?_;rintro _ _ ⟨rfl,Bo,rfl,CL⟩;have Gt:=Qz (Ie.HE SO (ee x c'.bs)) CL (w:=w) (seg:=va (Db (Tj l).1 (ee x c'.bs)).1) (Ba:=Ba);refine Za ?_;refine ck Gt ?_;rintro _ _ ⟨Jd,rfl,DL⟩;refine Za ?_
    exact D.Vb [Bb b cb d w true tn,ta cb c' v',Rc,uf w d (va (Db (Tj l).1 (ee x c'.bs)).1) Ba,Jd] _ rfl rfl rfl ⟨rfl,v',Rc,Jd,by rw[Mf],hs',DL.mono (by omega)⟩
   |false=>
    rw[if_neg (by decide)];refine ce func57 λg R=>?_;repeat' first|refine Za ?_|refine Uc λ_=>?_|refine cq hrm ?_
    rename_i b3;refine KK (ml [5,1,5]) [Bb b cb d w true tn,od b3 x] ?_;repeat' first|refine ga ?_|refine Xf (t:=40) x.enc x.enc ?_
    refine ck Fh ?_;rintro _ _ ⟨rfl,v',Rc,rfl,hs'⟩;have XR:=hdk.mono (show T<=T+243 by omega);refine Za ?_;refine KK (ml [10,1]) [Bb b cb d w true tn,od b3 x,ta cb c' v'] ?_;repeat' first|refine ga ?_|refine Xf (t:=40) x.enc x.enc ?_|refine jf (t:=140) (ee x c'.bs).enc ?_
    have js:=Bs ok b cb XR (by omega) (by omega) (GF x c'.bs) (w:=w) (Ba:=Ba) (tn:=tn);refine ck js ?_;rintro _ _ ⟨rfl,Bo,rfl,CL⟩;have Gt:=Qz (Ie.HE ok (ee x c'.bs)) CL (w:=w) (seg:=va (Db l (ee x c'.bs)).1) (Ba:=Ba);refine Za ?_;refine ck Gt ?_;rintro _ _ ⟨Jd,rfl,DL⟩;refine Za ?_;exact D.Vb [Bb b cb d w true tn,ta cb c' v',Rc,uf w d (va (Db l (ee x c'.bs)).1) Ba,Jd] _ rfl rfl rfl ⟨rfl,v',Rc,Jd,by rw[Mf],hs',DL.mono (by omega)⟩
  .rw[if_neg he];refine ce func57 λg R=>?_;repeat' first|refine Za ?_|refine Uc λ_=>?_|refine cq hrm ?_
   rename_i b3;refine KK (ml [5,1,5]) [Bb b cb d w true tn,od b3 x] ?_;repeat' first|refine ga ?_|refine Xf (t:=40) x.enc x.enc ?_
   refine ck Fh ?_;rintro _ _ ⟨rfl,v',Rc,rfl,hs'⟩;refine Za ?_;exact D.Vb [Bb b cb d w true tn,ta cb c' v',Rc,uf w d (va l) Ba,hd] _ rfl rfl rfl ⟨rfl,v',Rc,hd,rfl,hs',hdk.mono (by omega)⟩
def IL(ok:Ie l)(b cb:Nat){w:Nat}{seg Ba tn T:Int}(hdk:RD l d hd T)(hT:T<=137438953472)(c:CS)(v:Value){keep:Int}(Om: -9223372036854775808<=keep)(hk2:keep<=9223372036854775807):
  Ct prog 198 [b,keep] [Bb b cb d w true tn,ta cb c v,uf w d seg Ba,hd]
   (λr H'=>r= .tuple #[]/\∃ob hd',H'=[Bb b ob d w false tn,ta ob (CS.new c.dc c.rg c.nd) (.slice none 0 0),uf w d seg Ba,hd']/\∃t,0<=t/\t<=T/\vg (((qe l keep.toNat).map fq).map Ub.pl) t d hd'):=by
 obtain⟨qs,t,lr,ht,hyq⟩:=hdk;have Wu:=lr.q ok.toXu;have cB:=qP Wu lr.t0 (by omega) (λx hx=>(lr.pos x hx).2) hyq Om hk2;have JL:=lr.t0;refine ng func198 λg R=>?_;refine ck cB ?_;rintro _ _ ⟨last,y2,rfl,rfl,hy2,hla⟩;rw[Sz (k:=keep.toNat) lr.m lr.inc (jS hla lr.inc lr.pos)] at hy2;refine Za ?_;refine ei [cb,d,w,.bool true,tn] [cb,d,w,.bool false,tn] ?_;try refine ga ?_
 refine W.h0 [y2,Bb b cb d w false tn,ta cb c v,uf w d seg Ba,R] ?_;refine KK (ml [22,1]) [Bb b cb d w false tn,ta cb c v] ?_;try refine ga ?_
 refine ck (Ut c.dc c.rg c.nd) ?_;rintro _ _ ⟨ob,rfl,rfl⟩;refine Za ?_;refine ei [cb,d,w,.bool false,tn] [.pointer (some ⟨ob,0,none⟩),d,w,.bool false,tn] ?_;try refine ga ?_
 exact D.fc [Bb b ob d w false tn,ta ob (CS.new c.dc c.rg c.nd) (.slice none 0 0),uf w d seg Ba,y2] _ rfl ⟨rfl,ob,y2,rfl,t,JL,ht,hy2⟩
def ZI(b cb d w:Nat)(tn:Int)(keep:Int):
  Ct prog 198 [b,keep] [Bb b cb d w false tn] (λr H'=>r= .tuple #[]/\H'=[Bb b cb d w false tn]):=by
 refine ng func198 λg R=>?_;exact D.ri [Bb b cb d w false tn] _ rfl ⟨rfl,rfl⟩
def aJ(b cb d w:Nat)(tn:Int)(x:Wa):
  Ct prog 57 [b,.agg (List.toArray x.enc)] [Bb b cb d w false tn] (λr H'=>r= .tuple #[.bool false,.int .i64 52]/\H'=[Bb b cb d w false tn]):=by
 refine ce func57 λg R=>?_;repeat' first|refine Za ?_|refine Uc λ_=>?_
 exact D.Vb [Bb b cb d w false tn] _ rfl rfl rfl ⟨rfl,rfl⟩
def OO(b cb d w:Nat)(tn:Int)(e:ya):
  Ct prog 189 [b,.agg (List.toArray e.enc)] [Bb b cb d w false tn] (λr H'=>r= .int .i64 52/\H'=[Bb b cb d w false tn]):=by
 refine ce func189 λg R=>?_;repeat' first|refine Za ?_|refine Uc λ_=>?_
 exact Wi [Bb b cb d w false tn]
def KL(b cb d w:Nat)(tn:Int)(fr ep ix:Int)(e:ya):
  Ct prog 87 [b,fr,ep,ix,.agg (List.toArray e.enc)] [Bb b cb d w false tn] (λr H'=>r= .bool false/\H'=[Bb b cb d w false tn]):=by
 refine ce func87 λg R=>?_;repeat' first|refine Za ?_|refine Uc λ_=>?_
 exact Wi [Bb b cb d w false tn]
def LL(b cb d w:Nat)(tn:Int):
  Ct prog 197 [b] [Bb b cb d w false tn] (λr H'=>r= .tuple #[]/\H'=[Bb b cb d w false tn]):=by
 refine ng func197 λg R=>?_;exact D.fc [Bb b cb d w false tn] _ rfl ⟨rfl,rfl⟩
def QI(b cb d w:Nat)(tn:Int):
  Ct prog 199 [b] [Bb b cb d w true tn] (λr H'=>r= .tuple #[]/\H'=[Bb b cb d w true tn]):=by
 refine ng func199 λg R=>?_;exact D.ri [Bb b cb d w true tn] _ rfl ⟨rfl,rfl⟩
def SI(b cb:Nat)(c:CS){d w:Nat}{tn:Int}{hd:Hp}{l:List Lf}{rs:List Rec}{seg Ba T:Int}
  (hop:Ct prog 134 [d] [hd] (λres H'=>∃w' u h' ho,res= .tuple #[.pointer (some ⟨w',0,none⟩),u]/\H'=[uf w' d seg Ba,h',ho]/\RD l d h' T/\ia 140 rs u ho))
  (hl:rs.length<=1000000)(Mw:∀r∈rs,r.k=1/\ud r.e\/r.k=2/\Md r.c):
  Ct prog 199 [b] [Bb b cb d w false tn,ta cb (CS.new c.dc c.rg c.nd) (.slice none 0 0),hd]
   (λr H'=>r= .tuple #[]/\∃ob w' hd' Aj,∃v hv,H'=[Bb b ob d w' true Aj,ta ob (CS.restore c.dc c.rg c.nd (Xh c.nd rs).x (Xh c.nd rs).sn (Xh c.nd rs).bs (Xh c.nd rs).es) v,hv,uf w' d seg Ba,hd']/\
    ia 49 (CS.restore c.dc c.rg c.nd (Xh c.nd rs).x (Xh c.nd rs).sn (Xh c.nd rs).bs (Xh c.nd rs).es).lg v hv/\RD l d hd' T):=by
 refine ng func199 λg R=>?_;refine ei [cb,d,w,.bool false,tn] [cb,d,w,.bool true,tn] ?_;try refine ga ?_
 refine ck hop ?_;rintro _ _ ⟨w',u,h',ho,rfl,rfl,hdk,FF⟩;have PG:=FF.rs;obtain⟨up,uc,rfl⟩:=PG.len;refine Za ?_;refine ei [cb,d,w,.bool true,tn] [cb,d,.pointer (some ⟨w',0,none⟩),.bool true,tn] ?_;try refine ga ?_
 refine ei [cb,d,.pointer (some ⟨w',0,none⟩),.bool true,tn] [cb,d,.pointer (some ⟨w',0,none⟩),.bool true,Ba] ?_;repeat' first|refine ga ?_|refine al λ_=>?_
 rename_i b4;refine W.Pe ?_;refine W.h0 [[],od b4 Rb.z.x,uf w' d seg Ba,h',ho,Bb b cb d w' true Ba,ta cb (CS.new c.dc c.rg c.nd) (.slice none 0 0),R] ?_
 refine W.sub (L':=[(0,b),(3,.slice up rs.length uc),(4,b4),(5,.slice none 0 0),(6,Rb.z.sn),(7,Rb.z.bs),(8,.int .i64 ((0:Nat):Int))])
  (H':=[[],od b4 Rb.z.x,uf w' d seg Ba,h',ho,Bb b cb d w' true Ba,ta cb (CS.new c.dc c.rg c.nd) (.slice none 0 0),R]) (by repeat(first|exact Aa.nil|refine Aa.cons rfl ?_)) (Ia.qa inferInstance) ?_
 obtain⟨f0,ey⟩:∃f,f=Rb.z:=⟨_,rfl⟩;rw[<-ey]
 refine W.lo (α:=Nat×Rb×Value×Hp) (λx=>x.1<=rs.length/\ia 49 x.2.1.es x.2.2.1 x.2.2.2/\x.2.1.es.length<=x.1/\x.2.1=CV c.nd rs x.1)
  (λx=>[(0,b),(3,.slice up rs.length uc),(4,b4),(5,x.2.2.1),(6,.int .i64 x.2.1.sn),(7,.int .i64 x.2.1.bs),(8,.int .i64 (x.1:Int))])
  (λx=>[x.2.2.2,od b4 x.2.1.x,uf w' d seg Ba,h',ho,Bb b cb d w' true Ba,ta cb (CS.new c.dc c.rg c.nd) (.slice none 0 0),R]) (λx=>rs.length - x.1) (0,f0,.slice none 0 0,[]) ⟨di _,by rw[ey];exact ia.nil _,by rw[ey];exact di _,by rw[ey];rfl⟩ ?_
 clear ey;rintro⟨i,f,v,vv⟩ ⟨hi,QG,hel,hf⟩;simp only[] at hi QG hel hf⊢;have Qp:=QG.rs;by_cases hlt:i<rs.length
 .obtain⟨r,hr⟩:=Lh hlt;have hsu:=Kz (nd:=c.nd) hr;rw[<-hf] at hsu;rcases Mw r (mem_of_getElem? hr) with⟨k1,kX⟩|⟨k2,hrc⟩
  .have hst:Th c.nd f r=⟨f.x,f.sn,f.bs,f.es++[r.e]⟩:=if_pos k1;rw[hst] at hsu;repeat' first|refine ga ?_|refine WX.fo rfl PG hr rfl (us:=r.e.enc) rfl rfl rfl ?_
   rw[k1];refine Up [r.e] (λv2 h2 Sa=>?_);refine Jt (zb:=by simp only[Ib,td];omega) QG Sa.rs (λv3 h3 Cc=>?_);try refine ga ?_
   exact D.rd (i+1,⟨f.x,f.sn,f.bs,f.es++[r.e]⟩,v3,h3) ⟨by simp only[];omega,Cc,by simp only[Eb,Ib,td];omega,hsu.symm⟩ (by simp only[];omega)
  .have hst:Th c.nd f r=⟨r.c,if 0<Zb (some (ff r.c)) c.nd then Zb (some (ff r.c)) c.nd else f.sn,r.base,f.es⟩:=if_neg (by omega);rw[hst] at hsu;obtain⟨ch,Xy,xb,hch⟩:=Yi hrc;have hsi:=oF (Ni.some xb) c.nd;rw[show jc (some ch)=r.c from Xy.symm] at hsi;rw[hch] at hsu;generalize Zb (some ch) c.nd=z at hsi hsu;try refine ga ?_
   rw[k2];repeat' first|refine ga ?_|refine WX.fo rfl PG hr rfl (us:=r.c.enc) rfl rfl rfl ?_|refine xg f.x.enc r.c.enc ?_
   refine wq ?_;by_cases hz:0<z
   .rw[if_pos hz] at hsu;repeat' first|refine ga ?_|refine Xf (t:=40) r.c.enc r.c.enc ?_|refine cq hsi ?_
    exact D.rd (i+1,⟨r.c,z,r.base,f.es⟩,v,vv) ⟨by simp only[];omega,QG,by simp only[];omega,hsu.symm⟩ (by simp only[];omega)
   .rw[if_neg hz] at hsu;repeat' first|refine ga ?_|refine Xf (t:=40) r.c.enc r.c.enc ?_|refine cq hsi ?_
    exact D.rd (i+1,⟨r.c,f.sn,r.base,f.es⟩,v,vv) ⟨by simp only[];omega,QG,by simp only[];omega,hsu.symm⟩ (by simp only[];omega)
 .obtain rfl:i=rs.length:=by omega
  have F2:f=Xh c.nd rs:=by rw[hf];unfold CV;rw[take_length]
  have kX:=FG c.dc c.rg c.nd f.x f.sn f.bs QG.rs (by omega);try refine ga ?_
  refine KK (ml [26,1]) [Bb b cb d w' true Ba,od b4 f.x,ta cb (CS.new c.dc c.rg c.nd) (.slice none 0 0)] ?_;repeat' first|refine ga ?_|refine Xf (t:=40) f.x.enc f.x.enc ?_
  refine ck kX ?_;rintro _ _ ⟨ob,v9,FQ,rfl,rfl,Bp⟩;refine Za ?_;refine ei [cb,d,.pointer (some ⟨w',0,none⟩),.bool true,Ba] [.pointer (some ⟨ob,0,none⟩),d,.pointer (some ⟨w',0,none⟩),.bool true,Ba] ?_;try refine ga ?_
  rw[<-F2];exact D.fc [Bb b ob d w' true Ba,ta ob (CS.restore c.dc c.rg c.nd f.x f.sn f.bs f.es) v9,FQ,uf w' d seg Ba,h'] _ rfl ⟨rfl,ob,w',h',Ba,v9,FQ,rfl,Bp,hdk⟩
variable{b:Nat}{s:Ga}{h:Hp}{f:FuncId}{args:List Value}{u:Value}
section
variable(b cb:Nat)(dc rg nd:Int)(d w:Nat)
def jP:Ct prog 80 [b] [Mb b cb dc rg nd d w false] (λr H'=>r= .tuple #[]/\H'=[Mb b cb dc rg nd d w false]):=by
 refine ng func80 λg R=>?_;exact D.fc [Mb b cb dc rg nd d w false] _ rfl ⟨rfl,rfl⟩
def kP(fr ep ix:Int)(e:ya):Ct prog 63 [b,fr,ep,ix,.agg (List.toArray e.enc)] [Mb b cb dc rg nd d w false] (λr H'=>r= .bool false/\H'=[Mb b cb dc rg nd d w false]):=by
 have hmay:=Ez b cb dc rg nd d w;refine ce func63 λg R=>?_;repeat' first|refine Za ?_|refine Uc λ_=>?_|refine cq hmay ?_
 exact Wi [Mb b cb dc rg nd d w false]
def ZR(e:ya):Ct prog 153 [b,.agg (List.toArray e.enc)] [Mb b cb dc rg nd d w false] (λr H'=>r= .int .i64 52/\H'=[Mb b cb dc rg nd d w false]):=by
 have hmay:=Ez b cb dc rg nd d w;refine ce func153 λg R=>?_;repeat' first|refine Za ?_|refine Uc λ_=>?_|refine cq hmay ?_
 exact Wi [Mb b cb dc rg nd d w false]
def aS(key val:ByteArray)(dead:Bool)(deps:V9)(clock cl op:Int):Ct prog 142 [b,.string key,.string val,.bool dead,.agg (List.toArray deps.enc),clock,cl,op] [Mb b cb dc rg nd d w false] (λr H'=>r= .tuple #[.int .i64 0,.int .i64 52]/\H'=[Mb b cb dc rg nd d w false]):=by
 have hmay:=Ez b cb dc rg nd d w;refine ce func142 λg R=>?_;repeat' first|refine Za ?_|refine Uc λ_=>?_|refine cq hmay ?_
 exact D.Vb [Mb b cb dc rg nd d w false] _ rfl rfl rfl ⟨rfl,rfl⟩
def bS(x:Wa):Ct prog 52 [b,.agg (List.toArray x.enc)] [Mb b cb dc rg nd d w false] (λr H'=>r= .tuple #[.bool false,.int .i64 52]/\H'=[Mb b cb dc rg nd d w false]):=by
 refine ce func52 λg R=>?_;repeat' first|refine Za ?_|refine Uc λ_=>?_
 exact D.Vb [Mb b cb dc rg nd d w false] _ rfl rfl rfl ⟨rfl,rfl⟩
end
def Fz.is{cb:Nat}{dc rg nd:Int}{d w:Nat}{Ba:Int}{c:CS}{l:List Lf}{H':HH}(h:Fz b cb dc rg nd d w Ba c l H')(hid:c.dc=dc/\c.rg=rg/\c.nd=nd):∃Vp,Vp.flatten=H'.flatten/\∃h',Vp=[h']/\Dg (.up l c Ba) b h':=by
 obtain⟨v,hv,hd,rfl,hs,hk⟩:=h;obtain⟨rfl,rfl,rfl⟩:=hid;exact⟨[Mb b cb c.dc c.rg c.nd d w true++(ja cb c v++(hv++(zf w d (va l) Ba++hd)))],by simp,_,rfl,cb,d,w,v,hv,va l,Ba,hd,rfl,⟨hs,hk,λ_=>rfl,λl' c' t' e=>(by cases e;rfl),λe=>(by cases e)⟩⟩
def Dg.still(hm:Dg s b h)
  (k:∀cb d w,Ct prog f args [Mb b cb s.c0.dc s.c0.rg s.c0.nd d w s.jb] (λr H'=>r=u/\H'=[Mb b cb s.c0.dc s.c0.rg s.c0.nd d w s.jb])):
  Ct prog f args [h] (λr H'=>r=u/\H'=[h]):=by
 obtain⟨cb,d,w,v,hv,seg,t,hd,rfl,at_⟩:=hm;exact Ct.ext (k cb d w)
def Lv(hm:Dg s b h)(hu:s.jb=false)
  (k:∀cb d w,Ct prog f args [Mb b cb s.c0.dc s.c0.rg s.c0.nd d w false] (λr H'=>r=u/\H'=[Mb b cb s.c0.dc s.c0.rg s.c0.nd d w false])):
  Ct prog f args [h] (λr H'=>r=u/\∃h',H'=[h']/\Dg s b h'):=
 (hm.still λcb d w=>by rw[hu];exact k cb d w).mono λr H' ⟨h1,h2⟩=>⟨h1,h,h2,hm⟩
section
variable{s:Ga}{N:Int}(ok:s.ok N){b:Nat}{h:Hp}(hm:Dg s b h)
include ok hm
theorem lP:Ct prog 80 [b] [h] (λr H'=>r= .tuple #[]/\∃h',H'=[h']/\Dg s.sync b h'):=by
 cases s with
 |up l c t=>
  obtain⟨cb,d,w,v,hv,seg,t',hd,rfl,at_⟩:=hm;obtain rfl:=at_.sg rfl;obtain rfl:=at_.tn l c t rfl;have mz:Ie l:=ok.lg.ok;have xb:Ob c:=ok.ok;have Ue:ia 49 c.lg v hv:=at_.sl;have hdk:Od (dk l) d hd:=at_.dk
  exact(bP (w:=w) (Ba:=t') mz b cb c.dc c.rg c.nd hdk xb Ue).pack (by simp[Ga.c0,Ga.ch,Ga.jb,Ga.l0]) λr H' ⟨h1,h2⟩=>let⟨Vp,e,p⟩:=h2.is (Qj c);⟨Vp,e,h1,p⟩
 |dn l c q=>exact Lv hm rfl λcb d w=>jP b cb c.dc c.rg c.nd d w
theorem mP(fr ep ix:Int)(e:ya):Ct prog 63 [b,fr,ep,ix,.agg (List.toArray e.enc)] [h] (λr H'=>r= .bool (s.take fr ep ix e).1/\∃h',H'=[h']/\Dg (s.take fr ep ix e).2 b h'):=by
 cases s with
 |up l c t=>
  obtain⟨cb,d,w,v,hv,seg,t',hd,rfl,at_⟩:=hm;obtain rfl:=at_.sg rfl;obtain rfl:=at_.tn l c t rfl;have mz:Ie l:=ok.lg.ok;have xb:Ob c:=ok.ok;have Ue:ia 49 c.lg v hv:=at_.sl;have hdk:Od (dk l) d hd:=at_.dk
  exact(dP (w:=w) (Ba:=t') mz b cb c.dc c.rg c.nd hdk xb Ue fr ep ix e).pack (by simp[Ga.c0,Ga.ch,Ga.jb,Ga.l0]) λr H' ⟨h1,h2⟩=>let⟨Vp,e',p⟩:=h2.is (Dm l c fr ep ix e);⟨Vp,e',h1,p⟩
 |dn l c q=>exact Lv hm rfl λcb d w=>kP b cb c.dc c.rg c.nd d w fr ep ix e
theorem cS(e:ya):Ct prog 153 [b,.agg (List.toArray e.enc)] [h] (λr H'=>r= .int .i64 (s.inj e).1/\∃h',H'=[h']/\Dg (s.inj e).2 b h'):=by
 cases s with
 |up l c t=>
  obtain⟨cb,d,w,v,hv,seg,t',hd,rfl,at_⟩:=hm;obtain rfl:=at_.sg rfl;obtain rfl:=at_.tn l c t rfl;have mz:Ie l:=ok.lg.ok;have xb:Ob c:=ok.ok;have Ue:ia 49 c.lg v hv:=at_.sl;have hdk:Od (dk l) d hd:=at_.dk
  exact(UR (w:=w) (Ba:=t') mz b cb c.dc c.rg c.nd hdk xb Ue e).pack (by simp[Ga.c0,Ga.ch,Ga.jb,Ga.l0]) λr H' ⟨h1,h2⟩=>let⟨Vp,e',p⟩:=h2.is (gq l c e);⟨Vp,e',h1,p⟩
 |dn l c q=>exact Lv hm rfl λcb d w=>ZR b cb c.dc c.rg c.nd d w e
theorem dS(key val:ByteArray)(dead:Bool)(deps:V9)(clock cl op:Int):Ct prog 142 [b,.string key,.string val,.bool dead,.agg (List.toArray deps.enc),clock,cl,op] [h]
  (λr H'=>r= .tuple #[.int .i64 (s.put key val dead deps clock cl op).1.1,.int .i64 (s.put key val dead deps clock cl op).1.2]/\∃h',H'=[h']/\Dg (s.put key val dead deps clock cl op).2 b h'):=by
 cases s with
 |up l c t=>
  obtain⟨cb,d,w,v,hv,seg,t',hd,rfl,at_⟩:=hm;obtain rfl:=at_.sg rfl;obtain rfl:=at_.tn l c t rfl;have mz:Ie l:=ok.lg.ok;have xb:Ob c:=ok.ok;have Ue:ia 49 c.lg v hv:=at_.sl;have hdk:Od (dk l) d hd:=at_.dk
  exact(VR (w:=w) (Ba:=t') mz b cb c.dc c.rg c.nd hdk xb Ue key val dead deps clock cl op).pack (by simp[Ga.c0,Ga.ch,Ga.jb,Ga.l0]) λr H' ⟨h1,h2⟩=>let⟨Vp,e',p⟩:=h2.is (Fo l c key val dead deps clock cl op);⟨Vp,e',h1,p⟩
 |dn l c q=>exact Lv hm rfl λcb d w=>aS b cb c.dc c.rg c.nd d w key val dead deps clock cl op
theorem Nz(x:Wa):Ct prog 52 [b,.agg (List.toArray x.enc)] [h] (λr H'=>r= .tuple #[.bool (s.enter x).1.1,.int .i64 (s.enter x).1.2]/\∃h',H'=[h']/\Dg (s.enter x).2 b h'):=by
 cases s with
 |up l c t=>
  obtain⟨cb,d,w,v,hv,seg,t',hd,rfl,at_⟩:=hm;obtain rfl:=at_.sg rfl;obtain rfl:=at_.tn l c t rfl;have mz:Ie l:=ok.lg.ok;have xb:Ob c:=ok.ok;have Ue:ia 49 c.lg v hv:=at_.sl;have hdk:Od (dk l) d hd:=at_.dk
  exact(WR (w:=w) (Ba:=t') mz b cb c.dc c.rg c.nd hdk xb Ue x).pack (by simp[Ga.c0,Ga.ch,Ga.jb,Ga.l0]) λr H' ⟨h1,h2⟩=>let⟨Vp,e',p⟩:=h2.is (Mz l c x);⟨Vp,e',h1,p⟩
 |dn l c q=>exact Lv hm rfl λcb d w=>bS b cb c.dc c.rg c.nd d w x
theorem GL{keep:Int}(Om: -9223372036854775808<=keep)(hk2:keep<=9223372036854775807):Ct prog 81 [b,keep] [h] (λr H'=>r= .tuple #[]/\∃h',H'=[h']/\Dg (s.Dc keep) b h'):=by
 cases s with
 |up l c t=>
  obtain⟨cb,d,w,v,hv,seg,t',hd,rfl,at_⟩:=hm;have mz:Ie l:=ok.lg.ok;have hdk:Od (dk l) d hd:=at_.dk;have h0:=(EL (seg:=seg) (Ba:=t') (w:=w) mz b cb c.dc c.rg c.nd hdk c v Om hk2).frame (F:=[hv]) (post':=λr H'=>r= .tuple #[]/\∃ob hd',H'=[Mb b ob c.dc c.rg c.nd d w false,ja ob (CS.new c.dc c.rg c.nd) (.slice none 0 0),zf w d seg t',hd']++[hv]/\Od ⟨qe l keep.toNat,[]⟩ d hd') λr H' ⟨h1,ob,hd',h2,h3⟩=>⟨h1,ob,hd',by rw[h2],h3⟩;have h1:=h0.perm (pre':=[Mb b cb c.dc c.rg c.nd d w true,ja cb c v,hv,zf w d seg t',hd]) (List.Perm.flatten (.cons _ (.cons _ (perm_append_comm (l₁:=[zf w d seg t',hd]) (l₂:=[hv])))));refine h1.yI (by simp[Ga.c0,Ga.ch,Ga.jb]) λr H' ⟨h1,ob,hd',h2,h3⟩=>?_;subst h2
  exact⟨[Mb b ob c.dc c.rg c.nd d w false++(ja ob (CS.new c.dc c.rg c.nd) (.slice none 0 0)++([]++(zf w d seg t'++hd')))],hv,by simp,h1,_,rfl,ob,d,w,.slice none 0 0,[],seg,t',hd',rfl,⟨ia.nil _,h3,λe=>(by cases e),λl' c' t'' e=>(by cases e),λ_=>⟨rfl,rfl⟩⟩⟩
 |dn l c q=>exact Lv hm rfl λcb d w=>FL b cb c.dc c.rg c.nd d w keep
end
def Sj(s s':Ga):Prop:=match s with
 | .up l c t=>s'= .up l c t
 | .dn l c q=>∃l' t',s'= .up l' (c.again (Ua l')) t'/\Ie l'/\(∀f∈l',f.full=f)/\Kg l<=qu l q/\qu l q<=(Ua l).length/\Ua l'=(Ua l).take (qu l q)/\((Mv l<=q->t'=0)/\∀K,MU l K->MU l' K)/\va l'<=va l
def Sj.ok{s s':Ga}{N:Int}(h:Sj s s')(ok:s.ok N):s'.ok N:=by
 cases s with
 |up l c t=>cases h;exact ok
 |dn l c q=>
  obtain⟨l',t',rfl,Vu,hf,h1,h2,h3,-,h4⟩:=h;exact(LI.kN ok Vu hf h1 h2 h3 h4).1
def iN(ok:Ie l):(ye (Ua l)).length<=1000000:=by
 have h1:=Oz (Ua l);have h2:=Jk ok.good;have h3:=ok.used;omega
def xV.sub{l':List Lf}{m:Nat}(h:xV l)(hr:Ua l'=(Ua l).take m):∀r∈ye (Ua l'),r.k=1/\ud r.e\/r.k=2/\Md r.c:=by
 intro r hm;obtain⟨h1,h2⟩:=YR _ r hm;rw[hr] at h1;rcases h.re r (mem_of_mem_take h1) with h|h|h
 .exact .inl h
 .exact .inr h
 .exact absurd h h2
section
variable{H:Type}{enc:TypeId×Value->H}{P:Program}{w:World}{base:Nat}{spare:Nat->Bool}{held:Bool}
def pX{t0 t1 t2 t3:TypeId}{args:Array Value}{ds:List (DataW H)}{ps:List MemPlace}(h:DataW.TrodAll enc P w base spare held [t0,t1,t2,t3] args.toList ds ps):
  ∃v0 v1 v2 v3 d0 d1 d2 d3,args= #[v0,v1,v2,v3]/\ds=[d0,d1,d2,d3]/\(∃p,DataW.Trod enc P w base spare held t0 v0 d0 p)/\(∃p,DataW.Trod enc P w base spare held t1 v1 d1 p)/\(∃p,DataW.Trod enc P w base spare held t2 v2 d2 p)/\(∃p,DataW.Trod enc P w base spare held t3 v3 d3 p):=by
 obtain⟨v0,vs0,d0,ds0,p0,q0,ha,rfl,rfl,Gl,XH⟩:=ChangeShapes.trodAll_cons h;obtain⟨v1,tM,d1,ds1,p1,q1,rfl,rfl,rfl,Bo,Qp⟩:=ChangeShapes.trodAll_cons XH;obtain⟨v2,SU,d2,ds2,p2,q2,rfl,rfl,rfl,Jd,DU⟩:=ChangeShapes.trodAll_cons Qp;obtain⟨v3,vs3,d3,ds3,p3,q3,rfl,rfl,rfl,VO,mX⟩:=ChangeShapes.trodAll_cons DU;obtain⟨rfl,rfl,rfl⟩:=ChangeShapes.trodAll_nil mX;exact⟨v0,v1,v2,v3,d0,d1,d2,d3,by cases args;simp_all,rfl,⟨_,Gl⟩,⟨_,Bo⟩,⟨_,Jd⟩,⟨_,VO⟩⟩
end
section
variable{H:Type}{enc:TypeId×Value->H}{w:World}{t e:Nat}{ag:Bool}{cs:List Value}
def YG[TU prog t (.array 3 e)][TL prog t 3 ag][TL prog e 1 false][TU prog e (.int .i64)](h:Uf enc prog w t cs):∃a b c,cs=[.int .i64 a,.int .i64 b,.int .i64 c]:=by
 have hl:=h.qZ (k:=3)
 match cs,hl with
 |[c0,c1,c2],_=>
  obtain⟨n0,e0,_⟩:=(h.elem (k:=1) 0 (by decide)).int;obtain⟨n1,e1,_⟩:=(h.elem (k:=1) 1 (by decide)).int;obtain⟨n2,e2,_⟩:=(h.elem (k:=1) 2 (by decide)).int;cases e0;cases e1;cases e2;exact⟨n0,n1,n2,rfl⟩
def VL(h:Uf enc prog w 47 cs):∃v:V9,cs=v.enc:=by
 have hl:=h.qZ (k:=9)
 match cs,hl with
 |[c0,c1,c2,c3,c4,c5,c6,c7,c8],_=>
  obtain⟨a,b,c,e0⟩:=YG (h.elem (k:=3) 0 (by decide));obtain⟨a',b',c',e1⟩:=YG (h.elem (k:=3) 1 (by decide));obtain⟨o9,b'',c'',e2⟩:=YG (h.elem (k:=3) 2 (by decide));cases e0;cases e1;cases e2;exact⟨⟨a,b,c,a',b',c',o9,b'',c''⟩,rfl⟩
def rZ(h:Uf enc prog w 42 cs):∃a b c,cs=[.int .i64 a,.int .i64 b,.int .i64 c]:=by
 have hl:=h.len (i:=0)
 match cs,hl with
 |[c0,c1,c2],_=>
  obtain⟨n0,e0,_⟩:=(h.field 0).int;obtain⟨n1,e1,_⟩:=(h.field 1).int;obtain⟨n2,e2,_⟩:=(h.field 2).int;cases e0;cases e1;cases e2;exact⟨n0,n1,n2,rfl⟩
def UT(h:Uf enc prog w 44 cs):∃a b c,cs=[.int .i64 a,.int .i64 b,.int .i64 c]:=by
 have hl:=h.len (i:=0)
 match cs,hl with
 |[c0,c1,c2],_=>
  obtain⟨n0,e0,_⟩:=(h.field 0).int;obtain⟨n1,e1,_⟩:=(h.field 1).int;obtain⟨n2,e2,_⟩:=(h.field 2).int;cases e0;cases e1;cases e2;exact⟨n0,n1,n2,rfl⟩
def DA(h:Uf enc prog w 37 cs):∃a b,cs=[.int .i64 a,.int .i64 b]:=by
 have hl:=h.len (i:=0)
 match cs,hl with
 |[c0,c1],_=>
  obtain⟨n0,e0,_⟩:=(h.field 0).int;obtain⟨n1,e1,_⟩:=(h.field 1).int;cases e0;cases e1;exact⟨n0,n1,rfl⟩
def xY(h:Uf enc prog w 49 cs):∃x:ya,cs=x.enc/\x.key.data.toList.length<=reachBytes/\x.val.data.toList.length<=reachBytes:=by
 have hl:=h.len (i:=0)
 match cs,hl with
 |[c0,c1,c2,c3,c4,c5,c6,c7,c8,c9,c10,u9,w9,c13,c14,c15,c16,c17,c18,c19],_=>
  have h0:Uf enc prog w 42 [c0,c1,c2]:=h.field 0;have h1:Uf enc prog w 44 [c3,c4,c5]:=h.field 1;obtain⟨a,b,c,e0⟩:=rZ h0;obtain⟨a',b',c',e1⟩:=UT h1;obtain⟨key,e2,hk⟩:=(h.field 2).string;obtain⟨val,e3,hv⟩:=(h.field 3).string;obtain⟨dead,e4⟩:=(h.field 4).bool;have h5:Uf enc prog w 47 [c9,c10,u9,w9,c13,c14,c15,c16,c17]:=h.field 5;obtain⟨dp,e5⟩:=VL h5;obtain⟨cl,e6,_⟩:=(h.field 6).int;obtain⟨op,e7,_⟩:=(h.field 7).int;cases e0;cases e1;cases e2;cases e3;cases e4;cases e5;cases e6;cases e7;exact⟨⟨a,b,c,a',b',c',key,val,dead,dp,cl,op⟩,rfl,hk,hv⟩
def VT[TU prog t (.array 4 37)][TL prog t 8 ag](h:Uf enc prog w t cs):∃a b c d:Mem,cs=[.int .i64 a.nd,.int .i64 a.sn,.int .i64 b.nd,.int .i64 b.sn,.int .i64 c.nd,.int .i64 c.sn,.int .i64 d.nd,.int .i64 d.sn]:=by
 have hl:=h.qZ (k:=8)
 match cs,hl with
 |[c0,c1,c2,c3,c4,c5,c6,c7],_=>
  obtain⟨a,b,e0⟩:=DA (h.elem (k:=2) 0 (by decide));obtain⟨a',b',e1⟩:=DA (h.elem (k:=2) 1 (by decide));obtain⟨o9,b'',e2⟩:=DA (h.elem (k:=2) 2 (by decide));obtain⟨a3,b3,e3⟩:=DA (h.elem (k:=2) 3 (by decide));cases e0;cases e1;cases e2;cases e3;exact⟨⟨a,b⟩,⟨a',b'⟩,⟨o9,b''⟩,⟨a3,b3⟩,rfl⟩
def wY(h:Uf enc prog w 40 cs):∃x:Wa,cs=x.enc:=by
 have hl:=h.len (i:=0)
 match cs,hl with
 |[c0,c1,c2,c3,c4,c5,c6,c7,c8,c9,c10,u9,w9],_=>
  obtain⟨ep,e0,_⟩:=(h.field 0).int;obtain⟨n,e1,_⟩:=(h.field 1).int;obtain⟨f0,f1,f2,f3,e2⟩:=VT (h.field 2);obtain⟨jo,e3⟩:=(h.field 3).bool;have h4:Uf enc prog w 37 [u9,w9]:=h.field 4;obtain⟨a,b,e4⟩:=DA h4;cases e0;cases e1;cases e2;cases e3;cases e4;exact⟨⟨ep,n,f0,f1,f2,f3,jo,⟨a,b⟩⟩,rfl⟩
end
def yf{α:Type}(cs:List α)(a b:Nat):cs.drop a=(cs.drop a).take b++cs.drop (a+b):=by rw[<-drop_drop,take_append_drop]
structure Wt where
 to:Ki
 (op tr ix:Int)
 deriving DecidableEq
def Wt.enc(w:Wt):List Value:=w.to.enc++[.int .i64 w.op,.int .i64 w.tr,.int .i64 w.ix]
instance:Qb Wt:=⟨7,Wt.enc,λ_=>rfl,λ_=>rfl,by decide⟩
structure ua where
 (Ec rn nn cl:Int)
 s:Ga
 ws:List Wt
 hd:List ya
 kn:V9
 (rc mr:V3)
def Gj(v:V9)(rg:Int)(c:V3):V9:=Fg (Fg (Fg v 0 rg c.a) 1 rg c.b) 2 rg c.c
abbrev YE(a b:V9):Prop:=∀i,i<9->b.at i<=a.at i
instance(a b:V9):Decidable (YE a b):=Nat.decidableBallLT 9 λi _=>b.at i<=a.at i
def V9.of(h:V9)(e:ya):Int:=h.at (e.dc.toNat*3+e.rg.toNat)
abbrev wu(h:V9)(e:ya):Prop:=e.sq=h.of e+1/\YE h e.dp
def fm(x y:Int):Int:=if x<y then -1 else if y<x then 1 else 0
def Vl(a b:ya):Int:=if fm a.ct b.ct≠0 then fm a.ct b.ct else if fm a.sd b.sd≠0 then fm a.sd b.sd else fm a.sr b.sr
def Ad(h:V9)(hd:List ya):Nat->Int
 |0=> -1
 |k+1=>if wu h (hd.getD k ya.z)/\(Ad h hd k<0\/Vl (hd.getD k ya.z) (hd.getD (Ad h hd k).toNat ya.z)<0) then(k:Int) else Ad h hd k
def Ce(h:V9)(hd:List ya):Int:=Ad h hd hd.length
def De(dc x:Int):Prop:=0<=x/\x<3/\x≠dc
instance(dc x:Int):Decidable (De dc x):=inferInstanceAs (Decidable (_/\_))
def Mn(dc c:Int)(e:ya):Bool:=decide (e.dc=dc/\e.sq - 1=c)
def Pw(dc x:Int)(r:V3)(es:List ya):Option ya:=if De dc x then es.find? (Mn dc (r.at x.toNat)) else none
structure Qy where
 key:ByteArray
 Uj:V9
 snap:Bool
 av:V9
 mr:V3
def Qy.enc(q:Qy):List Value:= .string q.key::(q.Uj.enc++(.bool q.snap::(q.av.enc++q.mr.enc)))
structure An where
 code:Int
 has:Bool
 en:ya
 col:V3
def An.enc(a:An):List Value:= .int .i64 a.code:: .bool a.has::(a.en.enc++a.col.enc)
def An.z:An:=⟨0,false,ya.z,V3.z⟩
def cW(a b:ya):Bool:=decide (0<if Vl a b≠0 then Vl a b else fm a.sq b.sq)
def Vw(key:ByteArray)(o:Option ya)(e:ya):Option ya:=if e.key=key then(match o with
 |none=>some e
 |some b=>if cW e b then some e else some b) else o
def Ya(key:ByteArray)(es:List ya):Option ya:=es.foldl (Vw key) none
abbrev Kj(c:V3)(e:ya):Prop:=Tb e.dc e.rg/\e.sq<=c.at e.dc.toNat
def Cr(rg:Int)(q:Qy)(es:List ya):An:=
 let col:=Bc rg es
 let at_:=og q.av rg
 if ¬Lt col (og q.Uj rg)\/q.snap=true/\ ¬Lt col at_ then{An.z with code:=91}
 else if q.snap=true/\ ¬Lt at_ q.mr then{An.z with code:=60}
 else
  let g:=Ya q.key (es.filter λe=>decide (e.rg=rg/\(q.snap=false\/Kj at_ e)))
  ⟨0,g.isSome,g.getD ya.z,col⟩
def V3.get(v:V3)(k:Int):Int:=v.at k.toNat
namespace ua
variable(n:ua)
def c:CS:=n.s.ch
def ep:Int:=(jc n.c.co).ep
def dc:Int:=n.s.c0.dc
def rg:Int:=n.s.c0.rg
def nd:Int:=n.s.c0.nd
def at_(k:Int):Ki:=⟨1,n.dc,n.rg,k⟩
def self:Ki:=n.at_ n.nd
def Fc:Ki:=⟨2,n.dc,0,0⟩
def out(kind:Int)(to:Ki):Da:={Da.z with kind:=kind,fr:=n.self,to:=to}
def Jx(to:Ki):Da:={n.out 8 to with ep:=n.ep,ct:=n.c.du,ix:=n.c.st}
def Yd:List Da:=if 0<=Nd n.c.co n.nd then[n.Jx (n.at_ (Nd n.c.co n.nd))] else[]
def Qg(i:Int):ya:=if 1<=i/\i<=n.c.len then n.c.lg.getD (i.toNat - 1) ya.z else ya.z
def Qm:List Da:=if n.c.IG.2=true then[{n.out 7 (n.at_ (Vc n.c.co n.nd)) with ep:=n.ep,ix:=n.c.IG.1,en:=n.Qg n.c.IG.1}] else[]
def Af:List Da:=if n.c.XX=true then[{n.out 11 n.Fc with ep:=n.ep}] else[]
def Jj(w:Wt):Da:={n.out 4 w.to with op:=w.op,tr:=w.tr,has:=true,en:=n.Qg w.ix}
def Kb:List ya:=n.c.lg.take n.c.st.toNat
def sure:Bool:=decide n.c.last && n.c.su
def eg(du st ak:Int):List Da:=
 (n.ws.filter λw=>decide (w.ix<=n.c.st)).map n.Jj++((if du<n.c.du\/st<n.c.st then n.Yd else[])++(if du<n.c.du\/ak<n.c.ak then n.Qm else[]))
def Qa:ua:={n with ws:=n.ws.filter λw=> !decide (w.ix<=n.c.st)}
def Wb:V9:=Gj n.kn n.rg (Bc n.rg n.c.lg)
def Bf:ua:={n with hd:=n.hd.filter λe=>decide (n.Wb.of e<e.sq)}
def Ai(k:Nat):ua:={n with hd:=n.hd.eraseIdx k,s:=(n.s.inj (n.hd.getD k ya.z)).2}
def Ld:Nat->ua->ua
 |0,n=>n
 |k+1,n=>if 0<=Ce n.Wb n.hd then Ld k (n.Ai (Ce n.Wb n.hd).toNat) else n
def pull:ua:=if n.c.head then Ld n.Bf.hd.length n.Bf else n
def Df(x:Int):List Da:=match Pw n.dc x n.rc n.Kb with
 |none=>[]
 |some e=>(List.range n.nn.toNat).map λ(i:Nat)=>{n.out 12 ⟨1,x,n.rg,(i:Int)⟩ with en:=e}
def no(kind:Int)(m:Da)(code:Int):Da:={n.out kind m.fr with op:=m.op,tr:=m.tr,code:=code}
def wait(m:Da)(i:Int):List Wt:=match n.ws.findIdx? (λw=>decide (w.to.nd=m.fr.nd/\w.op=m.op)) with
 |some k=>n.ws.set k {n.ws.getD k ⟨Ki.z,0,0,0⟩ with to:=m.fr,tr:=m.tr}
 |none=>if n.ws.length<16 then n.ws++[⟨m.fr,m.op,m.tr,i⟩] else n.ws
def put(m:Da):ua×List Da:=
 if m.ep≠n.ep\/ ¬n.c.head then(n,[n.no 4 m 90])
 else
  let r:=n.s.put m.key m.val m.dead m.dp m.ct m.fr.nd m.op
  let n1:ua:={n with s:=r.2}
  if r.1.2≠0 then(n1,[n.no 4 m r.1.2])
  else if r.1.1<=n1.c.st then(n1,[n1.Jj ⟨m.fr,m.op,m.tr,r.1.1⟩])
  else({n1 with ws:=n.wait m r.1.1},[])
def query(m:Da):Qy:=⟨m.key,m.dp,m.snap,m.av,n.mr⟩
def get(m:Da):Da:=
 if m.ep≠n.ep\/sk n.c.co n.nd=false then n.no 6 m 90
 else if(n.c.last/\n.c.su=false)\/(¬n.c.last/\n.c.st<n.c.du) then n.no 6 m 92
 else
  let a:=Cr n.rg (n.query m) n.Kb
  {n.no 6 m a.code with has:=a.has,en:=a.en,c0:=a.col.a,c1:=a.col.b,c2:=a.col.c}
def zd(e:ya):ua:=if ud e/\e.rg=n.rg/\(n.hd.any λx=>decide (x.dc=e.dc/\x.rg=e.rg/\x.sq=e.sq))=false/\n.hd.length<16 then{n with hd:=n.hd++[e]} else n
def Ka(m:Da):(ua×List Da)×Bool:=
 let node:=m.fr.k=1
 if m.kind=3 then(n.put m,false)
 else if m.kind=5 then((n,[n.get m]),false)
 else if m.kind=7/\node/\m.fr.dc=n.dc/\m.fr.rg=n.rg then
  (if m.ep=n.ep/\0<=m.fr.nd/\m.fr.nd=Nd n.c.co n.nd then
   let n1:ua:={n with s:=(n.s.take m.fr.nd m.ep m.ix m.en).2}
   ((n1,[n1.Jx m.fr]),false)
  else((n,[]),false))
 else if m.kind=8/\node/\m.fr.dc=n.dc/\m.fr.rg=n.rg then
  (({n with s:=(n.s.heard m.fr.nd m.ep m.ct m.ix).2},[]),(n.s.heard m.fr.nd m.ep m.ct m.ix).1)
 else if m.kind=9/\m.fr=n.Fc then
  (let r:=n.s.enter m.cf
  (({n with s:=r.2,ws:=if r.1.2=0 then[] else n.ws},[]),false))
 else if m.kind=12/\node/\m.fr.dc≠n.dc/\m.fr.rg=n.rg/\n.c.head then(((n.pull.zd m.en).pull,[]),false)
 else if m.kind=13/\node/\m.fr.dc≠n.dc/\m.fr.rg=n.rg then
  (let k:=V3.get ⟨m.c0,m.c1,m.c2⟩ n.dc
  let n1:ua:=if De n.dc m.fr.dc/\n.rc.get m.fr.dc<k then{n with rc:=n.rc.put m.fr.dc.toNat k} else n
  ((n1,if(De n.dc m.fr.dc/\n.rc.get m.fr.dc<k)/\n.sure=true then n1.Df m.fr.dc else[]),false))
 else if m.kind=14/\node/\m.fr.dc=n.dc/\m.fr.rg≠n.rg then
  (({n with kn:=Gj n.kn m.fr.rg ⟨m.c0,m.c1,m.c2⟩}.pull,[]),false)
 else((n,[]),false)
def handle(m:Da):ua×List Da:=
 if n.s.jb=false then(n,[]) else
  let r:=n.Ka m
  let n1:=r.1.1
  (n1.Qa,r.1.2++(n1.eg n.c.du n.c.st n.c.ak++(if r.2=true then n1.Qa.Af else[])))
def Ri(kind x r:Int)(col:V3):List Da:=(List.range n.nn.toNat).map λ(i:Nat)=>{n.out kind ⟨1,x,r,(i:Int)⟩ with c0:=col.a,c1:=col.b,c2:=col.c}
def yz:List Da:=
 {n.out 10 n.Fc with ep:=n.ep}::(n.pull.Yd++(n.pull.Qm++(n.pull.Af++(if n.pull.sure=false then[] else
  let col:=Bc n.rg n.pull.Kb
  ((List.range n.Ec.toNat).map λ(x:Nat)=>if(x:Int)=n.dc then[] else n.pull.Df (x:Int)++n.pull.Ri 13 (x:Int) n.rg col).flatten++
  ((List.range n.rn.toNat).map λ(r:Nat)=>if(r:Int)=n.rg then[] else n.pull.Ri 14 n.dc (r:Int) col).flatten))))
def tick:ua×List Da:=if n.s.jb=false then(n,[]) else(n.pull,n.yz)
def flush:ua×List Da:=if n.s.jb=false then(n,[]) else
 let n1:ua:={n with s:=n.s.sync}
 (n1.Qa,n1.eg n.c.du n.c.st n.c.ak)
def collect:ua:=if n.s.jb=false then n else
 let col:=Bc n.rg n.Kb
 {n with mr:=⟨mx n.mr.a col.a,mx n.mr.b col.b,mx n.mr.c col.c⟩}
def Dc(keep:Int):ua:=if n.s.jb=false then n else{n with s:=n.s.Dc keep,ws:=[],hd:=[],kn:=V9.z,rc:=V3.z,mr:=V3.z}
end ua
end Go.Proofs.YthebagfahkebiaaGreat
