/-
  Proved: for every input, causewaylaw20.NodeTwice returns true and its arguments read as they did. No condition.
-/
import Derived.Test.YthebagfahkebiaaGreatRBJ
set_option linter.all false
set_option maxHeartbeats 8000000
set_option maxRecDepth 20000
namespace Go.Proofs.YthebagfahkebiaaGreat
open Go Go.Sl Go.Proofs.Tryz List
variable{n:ua}{hd:List ya}{i:Nat}{N:Int}
def ua.Mg(h:∀w∈n.ws,n.c.st<w.ix):n.Qa=n:=by
 unfold ua.Qa;rw[filter_eq_self.2 λw hw=>by have:=h w hw;simp;omega]
def NF(h:V9)(hd:List ya):∀k,0<=Ad h hd k->wu h (hd.getD (Ad h hd k).toNat ya.z)
 |0,hk=>absurd hk (by show ¬(0:Int)<= -1;decide)
 |k+1,hk=>by
  have ih:=NF h hd k;unfold Ad at hk⊢;by_cases c:wu h (hd.getD k ya.z)/\(Ad h hd k<0\/Vl (hd.getD k ya.z) (hd.getD (Ad h hd k).toNat ya.z)<0)
  .rw[if_pos c,Int.toNat_natCast];exact c.1
  .rw[if_neg c] at hk⊢;exact ih hk
def Js{h:V9}{hd:List ya}:∀k,Ad h hd k<0↔∀i,i<k-> ¬wu h (hd.getD i ya.z)
 |0=>⟨λ_ i hi=>absurd hi (Nat.not_lt_zero i),λ_=>by show(-1:Int)<0;decide⟩
 |k+1=>by
  have ih:=Js (h:=h) (hd:=hd) k;unfold Ad;by_cases c:wu h (hd.getD k ya.z)/\(Ad h hd k<0\/Vl (hd.getD k ya.z) (hd.getD (Ad h hd k).toNat ya.z)<0)
  .rw[if_pos c];exact⟨λq=>absurd q (by omega),λq=>absurd c.1 (q k (by omega))⟩
  .rw[if_neg c];constructor
   .intro q i hi;by_cases e:i=k
    .rw[e];exact λd=>c ⟨d,.inl q⟩
    .exact ih.1 q i (by omega)
   .exact λq=>ih.2 λi hi=>q i (by omega)
def pN(h:i<hd.length):hd.getD i ya.z∈hd:=by
 rw[getD_eq_getElem?_getD,Wg h];exact getElem_mem h
def Lk{h:V9}:Ce h hd<0↔∀e∈hd,¬wu h e:=by
 unfold Ce;rw[Js];constructor
 .intro q e he;obtain⟨i,hi,rfl⟩:=mem_iff_getElem.1 he;have:=q i hi;rw[getD_eq_getElem?_getD,Wg hi] at this;exact this
 .exact λq i hi=>q _ (pN hi)
structure Fix(n:ua):Prop where
 pu:∀e∈n.hd,n.Wb.of e<e.sq
 du:∀e∈n.hd,¬wu n.Wb e
def ua.Xz(h:∀e∈n.hd,n.Wb.of e<e.sq):n.Bf=n:=by
 unfold ua.Bf;rw[filter_eq_self.2 λe he=>Mi (h e he)]
def Fix.pull{n:ua}(h:Fix n):n.pull=n:=by
 unfold ua.pull;split
 .rw[ua.Xz h.pu];exact ua.ej (Lk.2 h.du) _
 .rfl
def Ga.OF{s:Ga}(h:Ke s.ch)(e:ya):(s.inj e).2=s\/(s.inj e).2.ch.lg=s.ch.lg++[e]:=by
 cases s with
 |dn l c q=>exact .inl rfl
 |up l c t=>
  have h:Ke c:=h;show Ga.up (dg l c e).2.2 (dg l c e).2.1 t=Ga.up l c t\/(dg l c e).2.1.lg=c.lg++[e];unfold dg;split
  .have k:(c.Xb e).2=c\/(c.Xb e).2.lg=c.lg++[e]:=by
    unfold CS.Xb;rw[h.push];repeat' split
    all_goals first|exact .inl rfl|exact .inr rfl
   rcases k with k|k
   .left;show Ga.up (xd l (c.Xb e).2 c.len) (c.Xb e).2 t=_;rw[k,Nf]
   .exact .inr k
  .exact .inl rfl
def PL(rg:Int)(c:V3)(e:ya)(hi:i<3):c.at i<=(ef rg c e).at i:=by
 unfold ef;split
 .rename_i h;rw[V3.DG _ (by have:=h.2;omega) hi];split
  .rename_i q;rw[q];exact(Lw ..).1
  .exact Int.le_refl _
 .exact Int.le_refl _
def vP(rg:Int)(xs ys:List ya)(hi:i<3):(Bc rg xs).at i<=(Bc rg (xs++ys)).at i:=by
 unfold Bc;rw[foldl_append];generalize xs.foldl (ef rg) V3.z=c
 induction ys generalizing c with
 |nil=>exact Int.le_refl _
 |cons e t ih=>exact Int.le_trans (PL rg c e hi) (ih _)
def xS{rg:Int}{es:List ya}{e:ya}(he:e∈es)(h:ud e)(hr:e.rg=rg):e.sq<=(Bc rg es).at e.dc.toNat:=by
 obtain⟨a,b,rfl⟩:=append_of_mem he;have hc:=h.ch;rw[show a++e::b=(a++[e])++b by simp];refine Int.le_trans ?_ (vP rg (a++[e]) b (by omega));rw[uv];unfold ef;rw[if_pos ⟨hr,by rw[<-hr];exact hc⟩,V3.DG _ (by omega) (by omega),if_pos rfl];exact(Lw ..).2
def uy(h:gi n N){e:ya}(hr:ud e)(hg:e.rg=n.rg):n.Wb.of e=(Bc n.rg n.c.lg).at e.dc.toNat:=by
 obtain⟨c1,c2,c3,c4⟩:=id hr.ch;have hc:=Zi n.rg h.xb.es (k:=e.dc.toNat) (by omega);have hk:=h.kn e.dc.toNat (by omega);show n.Wb.at (e.dc.toNat*3+e.rg.toNat)=_;unfold ua.Wb;rw[hg] at c3 c4⊢;rw[yS _ _ ⟨c1,c2,c3,c4⟩,hk];unfold mx;split<;>omega
def SV(h:gi n N)(hN:N<1099511627776)(hc:Ke n.c)(hd:ML n.hd)(hp:∀e∈n.hd,n.Wb.of e<e.sq){k:Nat}(hk:k<n.hd.length)(MK:wu n.Wb (n.hd.getD k ya.z)):
  ∀e∈(n.Ai k).hd,(n.Ai k).Wb.of e<e.sq:=by
 intro e he;have h1:=h.Ai hN k;have eX:e∈n.hd:=mem_of_mem_eraseIdx he;obtain⟨r1,r2⟩:=h.hd e eX;have r3:=hp e eX;have nr:=ua.ku n k;rw[uy h1 r1 (r2.trans nr.symm),nr];rw[uy h r1 r2] at r3;obtain⟨x,hx⟩:∃x,n.hd.getD k ya.z=x:=⟨_,rfl⟩;rw[hx] at MK;have IQ:n.hd[k]'hk=x:=by rw[<-hx,getD_eq_getElem?_getD,Wg hk];rfl
 obtain⟨x1,x2⟩:=h.hd x (IQ▸getElem_mem hk);have K7:=MK.1;rw[uy h x1 x2] at K7;show(Bc n.rg (n.s.inj (n.hd.getD k ya.z)).2.ch.lg).at e.dc.toNat<e.sq;rw[hx];rcases Ga.OF hc x with q|q
 .rw[q];exact r3
 .rw[q,uv];show(ef n.rg (Bc n.rg n.c.lg) x).at e.dc.toNat<e.sq;have ec:=r1.ch;have xc:=x1.ch;unfold ef;rw[if_pos ⟨x2,by rw[<-x2];exact xc⟩,V3.DG _ (by omega) (by omega)];split
  .rename_i hq;have x6:e.dc=x.dc:=by omega
   have hne:e.sq≠x.sq:=by
    intro hs;obtain⟨i,hi,hik,lX⟩:=mem_eraseIdx_iff_getElem.1 he;have hp:=pairwise_iff_getElem.1 hd;rcases Nat.lt_or_ge i k with hl|hl
    .exact hp i k hi hk hl (by rw[lX,IQ];exact⟨x6,r2.trans x2.symm,hs⟩)
    .exact hp k i hk hi (by omega) (by rw[lX,IQ];exact⟨x6.symm,x2.trans r2.symm,hs.symm⟩)
   rw[hq] at r3;unfold mx;split<;>omega
  .exact r3
def PF:∀(k:Nat) {n:ua} {M:Int},gi n M->Ke n.c->ML n.hd->(∀e∈n.hd,n.Wb.of e<e.sq)->n.hd.length<=k->M+k<=1099511627776->Fix (ua.Ld k n)
 |0,n,M,h,hc,hd,hp,hl,hM=>by
  have e:n.hd=[]:=eq_nil_of_length_eq_zero (by omega)
  exact⟨hp,by show ∀e∈n.hd,_;rw[e];exact λe he=>nomatch he⟩
 |k+1,n,M,h,hc,hd,hp,hl,hM=>by
  unfold ua.Ld;split
  .rename_i hb;have hlt:=n.jy.2;have MK:=NF n.Wb n.hd n.hd.length hb;exact PF k (h.Ai (by omega) _) (Ga.qz h.ok hc _) (hd.sublist (eraseIdx_sublist ..)) (SV h (by omega) hc hd hp (by omega) MK) (by show(n.hd.eraseIdx _).length<=k;rw[length_eraseIdx_of_lt (by omega)];omega) (by omega)
  .rename_i hb;exact⟨hp,Lk.1 (by omega)⟩
def Yz(h:We n N)(hN:N+16<=1099511627776)(hd:ML n.hd)(hh:n.c.head):Fix n.pull:=by
 unfold ua.pull;rw[if_pos hh];have:=h.togi.Bf.hl;exact PF _ h.togi.Bf h.cs (hd.filter _) (λe he=>of_decide_eq_true (mem_filter.1 he).2) (Nat.le_refl _) (by omega)
def wP(h:We n N)(hN:N+16<=1099511627776)(hd:ML n.hd)(ws:List Wt):ua.pull {n.pull with ws:=ws}={n.pull with ws:=ws}:=by
 by_cases hh:n.c.head
 .have f:=Yz h hN hd hh;exact Fix.pull ⟨f.pu,f.du⟩
 .have e:n.pull=n:=by unfold ua.pull;rw[if_neg hh]
  rw[e];unfold ua.pull;exact if_neg hh
def qN(f:Fix n)(hh:n.c.head){e:ya}(h:e.sq<=n.Wb.of e):ua.pull {n with hd:=n.hd++[e]}=n:=by
 have e1:ua.Bf {n with hd:=n.hd++[e]}=n:=by
  show{n with hd:=(n.hd++[e]).filter λx=>decide (n.Wb.of x<x.sq)}=n;rw[filter_append,filter_eq_self.2 λx hx=>Mi (f.pu x hx),filter_cons_of_neg (by simp;omega),filter_nil,append_nil]
 unfold ua.pull;refine(if_pos hh).trans ?_;rw[e1];exact ua.ej (Lk.2 f.du) _
def rN(f:Fix n)(hh:n.c.head){e:ya}(hd:wu n.Wb e):ua.pull {n with hd:=n.hd++[e]}=ua.Ld n.hd.length {n with s:=(n.s.inj e).2}:=by
 have e1:ua.Bf {n with hd:=n.hd++[e]}={n with hd:=n.hd++[e]}:=ua.Xz λx hx=>by
  rcases mem_append.1 hx with hx|hx
  .exact f.pu x hx
  .rw[mem_singleton.1 hx];show n.Wb.of e<e.sq;have:=hd.1;omega
 have hl:(n.hd++[e]).length=n.hd.length+1:=by simp
 have hg:(n.hd++[e]).getD n.hd.length ya.z=e:=by rw[getD_eq_getElem?_getD,List.getElem?_concat_length];rfl
 have hb:Ce n.Wb (n.hd++[e])=(n.hd.length:Int):=by
  unfold Ce;rw[hl]
  have hn:Ad n.Wb (n.hd++[e]) n.hd.length<0:=(Js _).2 λi hi=>by
   rw[getD_eq_getElem?_getD,List.getElem?_append_left hi,<-getD_eq_getElem?_getD];exact f.du _ (pN hi)
  unfold Ad;rw[if_pos ⟨by rw[hg];exact hd,.inl hn⟩]
 unfold ua.pull;refine(if_pos hh).trans ?_;rw[e1];show ua.Ld (n.hd++[e]).length {n with hd:=n.hd++[e]}=_;rw[hl];show(if 0<=Ce n.Wb (n.hd++[e]) then ua.Ld n.hd.length (ua.Ai {n with hd:=n.hd++[e]} (Ce n.Wb (n.hd++[e])).toNat) else _)=_;rw[hb,if_pos (by omega),Int.toNat_natCast]
 have e2:ua.Ai {n with hd:=n.hd++[e]} n.hd.length={n with s:=(n.s.inj e).2}:=by
  show({n with hd:=(n.hd++[e]).eraseIdx n.hd.length,s:=(n.s.inj ((n.hd++[e]).getD n.hd.length ya.z)).2}:ua)=_;rw[hg,eraseIdx_append_of_length_le (Nat.le_refl _),Nat.sub_self];show({n with hd:=n.hd++[],s:=(n.s.inj e).2}:ua)=_;rw[append_nil]
 rw[e2]
def QF(h:We n N)(hN:N+16<=1099511627776)(hh:n.c.head):n.pull.c.head:=by
 obtain⟨-,-,g3,-,-,-⟩:=ua.Nv h hN;obtain⟨-,-,-,-,-,-,-,r8⟩:=n.Sd;have h1:n.pull.c.nd=n.c.nd:=(Ga.ur n.pull.s).1.trans (Eq.trans r8 (Ga.ur n.s).1.symm);show 0<=n.pull.c.nd/\jr n.pull.c.co=n.pull.c.nd;rw[h1,g3];exact hh
abbrev xy(n:ua)(e:ya):Prop:=ud e/\e.rg=n.rg/\(n.hd.any λx=>decide (x.dc=e.dc/\x.rg=e.rg/\x.sq=e.sq))=false/\n.hd.length<16
def Tw{e:ya}(c:xy n e):n.zd e={n with hd:=n.hd++[e]}:=if_pos c
def Uw{e:ya}(c: ¬xy n e):n.zd e=n:=if_neg c
def QL{q:ua}(ok:We q N)(hN:N+40<=1099511627776)(hd:ML q.hd)(f:Fix q)(hh:q.c.head)(e:ya)(ws:List Wt):
  ua.pull {(q.zd e).pull with ws:=ws}={(q.zd e).pull with ws:=ws}/\(ua.zd {(q.zd e).pull with ws:=ws} e).pull={(q.zd e).pull with ws:=ws}:=by
 have Io:=ok.zd e;have hp2:(q.zd e).c.head:=by rw[ua.Sh];exact hh
 have fx:=Yz Io (by omega) (ua.Vz hd e) hp2;have okx:=Io.pull (by omega);have hx:=QF Io (by omega) hp2;obtain⟨x,pL⟩:∃x,(q.zd e).pull=x:=⟨_,rfl⟩;rw[pL] at fx okx hx⊢;have fz:Fix {x with ws:=ws}:=⟨fx.pu,fx.du⟩;refine⟨fz.pull,?_⟩;by_cases cz:xy {x with ws:=ws} e
 .rw[Tw cz];by_cases o:e.sq<=x.Wb.of e
  .exact qN fz hx o
  .by_cases cq:xy q e
   .rw[Tw cq] at pL;by_cases o1:e.sq<=q.Wb.of e
    .rw[qN f hh o1] at pL;rw[<-pL] at o;exact absurd o1 o
    .by_cases du:wu q.Wb e
     .rw[rN f hh du] at pL;rcases Ga.OF ok.cs e with k|k
      .have L7:x=q:=by
        rw[<-pL,k];exact ua.ej (Lk.2 f.du) _
       rw[L7] at fz⊢;refine(rN fz hh du).trans ?_;show ua.Ld q.hd.length ({q with ws:=ws,s:=(q.s.inj e).2}:ua)=_;rw[k];exact ua.ej (n:={q with ws:=ws}) (Lk.2 f.du) _
      .exfalso;have h1:=Ga.gq q.s e
       have okj:gi {q with s:=(q.s.inj e).2} (N+1):=by
        refine⟨ok.ok.inj (by omega) e,ok.hl,λy hy=>?_,λi hi=>?_⟩
        .show ud y/\y.rg=(q.s.inj e).2.c0.rg;rw[h1.2.1];exact ok.hd y hy
        .show q.kn.at (i*3+(q.s.inj e).2.c0.rg.toNat)=0;rw[h1.2.1];exact ok.kn i hi
       have hl:=ok.hl;obtain⟨-,-,-,-,-,p6⟩:=ua.Ds q.hd.length okj (Ga.qz ok.ok ok.cs e) (by omega);rw[pL] at p6
       have hm:e∈x.c.lg:=p6.subset (by
        show e∈(q.s.inj e).2.ch.lg;rw[k];exact mem_append_right _ (mem_singleton_self e))
       have hr:e.rg=x.rg:=cz.2.1;have h2:=xS hm cz.1 hr;rw[<-uy okx.togi cz.1 hr] at h2;exact o h2
     .have fy:Fix {q with hd:=q.hd++[e]}:=by
       refine⟨λy hy=>?_,λy hy=>?_⟩
       .rcases mem_append.1 hy with hy|hy
        .exact f.pu y hy
        .rw[mem_singleton.1 hy];show q.Wb.of e<e.sq;omega
       .rcases mem_append.1 hy with hy|hy
        .exact f.du y hy
        .rw[mem_singleton.1 hy];exact du
      rw[fy.pull] at pL;have hn:=cz.2.2.1;rw[<-pL] at hn;have:=any_eq_false.1 hn e (mem_append_right _ (mem_singleton_self e));exact absurd (by simp) this
   .rw[Uw cq,f.pull] at pL;rw[<-pL] at cz;exact absurd cz cq
 .rw[Uw cz];exact fz.pull
variable{s:Ga}
def Ga.RL(h:Ke s.ch)(f ep ix:Int)(e:ya):((s.take f ep ix e).2.take f ep ix e).2=(s.take f ep ix e).2:=by
 cases s with
 |dn l c q=>rfl
 |up l c t=>
  have h:Ke c:=h
  have k:Gd l c f ep ix e=((Gd l c f ep ix e).1,c,l)\/((Gd l c f ep ix e).2.1=c.push e/\ix=c.len+1):=by
   unfold Gd;split
   .unfold CS.take;split
    .rename_i ht;rw[h.push];exact .inr ⟨rfl,ht.2.2.2.1⟩
    .simp only[];rw[Nf];exact .inl rfl
   .exact .inl rfl
  obtain⟨r,hr⟩:∃r,Gd l c f ep ix e=r:=⟨_,rfl⟩;show(Ga.take (.up (Gd l c f ep ix e).2.2 (Gd l c f ep ix e).2.1 t) f ep ix e).2= .up (Gd l c f ep ix e).2.2 (Gd l c f ep ix e).2.1 t;rw[hr] at k⊢;rcases k with k|⟨k1,k2⟩
  .obtain⟨a,b,d⟩:=r;injection k with _ k
   injection k with k1 k2
   subst k1 k2;show Ga.up (Gd d b f ep ix e).2.2 (Gd d b f ep ix e).2.1 t=_;rw[hr]
  .have hn: ¬CS.takes (c.push e) f ep ix e:=λht=>by
    have h1:=ht.2.2.2.1;have h2:(c.push e).len=c.len+1:=by unfold CS.push CS.len;simp
    omega
   rw[k1];show Ga.up (Gd r.2.2 (c.push e) f ep ix e).2.2 (Gd r.2.2 (c.push e) f ep ix e).2.1 t=_;unfold Gd;split
   .rw[show CS.take (c.push e) f ep ix e=(false,c.push e) from if_neg hn];simp only[];rw[Nf]
   .rfl
def xP(es:List ya)(e:ya)(cl op:Int)(h1:e.cl=cl)(h2:e.op=op):0<Re (es++[e]) cl op:=by
 unfold Re
 cases h:(es++[e]).findIdx? (λe=>decide (e.cl=cl/\e.op=op)) with
 |none=>
  have:=List.findIdx?_eq_none_iff.1 h e (mem_append_right _ (mem_singleton_self e));rw[Mi ⟨h1,h2⟩] at this
  cases this
 |some i=>simp only[];omega
def Ga.yP(ok:s.ok N)(h:Ke s.ch)(key val:ByteArray)(dead:Bool)(deps:V9)(clock cl op:Int):
  ((s.put key val dead deps clock cl op).2.put key val dead deps clock cl op).2=(s.put key val dead deps clock cl op).2/\(s.put key val dead deps clock cl op).2.ch.st=s.ch.st/\
  ((s.put key val dead deps clock cl op).2=s\/((s.put key val dead deps clock cl op).1.2=0/\s.ch.st<(s.put key val dead deps clock cl op).1.1)):=by
 cases s with
 |dn l c q=>exact⟨rfl,rfl,.inl rfl⟩
 |up l c t=>
  have h:Ke c:=h;have xb:Ob c:=LI.ok (show LI l c N from ok);have MK:=xb.du;have hst:=h.st
  have k:jd l c key val dead deps clock cl op=((jd l c key val dead deps clock cl op).1,c,l)\/((jd l c key val dead deps clock cl op).2.1=c.push (c.entry key val dead deps clock cl op)/\(jd l c key val dead deps clock cl op).1=(c.len+1,0)):=by
   unfold jd;split
   .unfold CS.Zf;rw[h.push];split
    .simp only[];rw[Nf];exact .inl rfl
    split
    .simp only[];rw[Nf];exact .inl rfl
    split
    .simp only[];rw[Nf];exact .inl rfl
    split
    .simp only[];rw[Nf];exact .inl rfl
    split
    .simp only[];rw[Nf];exact .inl rfl
    .exact .inr ⟨rfl,rfl⟩
   .exact .inl rfl
  obtain⟨r,hr⟩:∃r,jd l c key val dead deps clock cl op=r:=⟨_,rfl⟩
  show(Ga.put (.up (jd l c key val dead deps clock cl op).2.2 (jd l c key val dead deps clock cl op).2.1 t) key val dead deps clock cl op).2= .up (jd l c key val dead deps clock cl op).2.2 (jd l c key val dead deps clock cl op).2.1 t/\
   (jd l c key val dead deps clock cl op).2.1.st=c.st/\(Ga.up (jd l c key val dead deps clock cl op).2.2 (jd l c key val dead deps clock cl op).2.1 t= .up l c t\/((jd l c key val dead deps clock cl op).1.2=0/\c.st<(jd l c key val dead deps clock cl op).1.1))
  rw[hr] at k⊢;rcases k with k|⟨k1,k2⟩
  .obtain⟨a,b,d⟩:=r;injection k with _ k
   injection k with k1 k2
   subst k1 k2;refine⟨?_,rfl,.inl rfl⟩;show Ga.up (jd d b key val dead deps clock cl op).2.2 (jd d b key val dead deps clock cl op).2.1 t=_;rw[hr]
  .rw[k1,k2];refine⟨?_,rfl,.inr ⟨rfl,by show c.st<c.len+1;omega⟩⟩;obtain⟨e,he⟩:∃e,c.entry key val dead deps clock cl op=e:=⟨_,rfl⟩;have e1:e.cl=cl:=by rw[<-he];rfl
   have e2:e.op=op:=by rw[<-he];rfl
   rw[he];have hf:=xP c.lg e cl op e1 e2
   have hp:(CS.Zf (c.push e) key val dead deps clock cl op).2=c.push e:=by
    unfold CS.Zf;split
    .rfl
    .rw[if_pos (show 0<Re (c.push e).lg cl op from hf)]
   show Ga.up (jd r.2.2 (c.push e) key val dead deps clock cl op).2.2 (jd r.2.2 (c.push e) key val dead deps clock cl op).2.1 t=_;unfold jd;split
   .simp only[];rw[hp,Nf]
   .rfl
def Ga.rJ(s:Ga)(x:Wa):((s.enter x).2.enter x).2=(s.enter x).2/\((s.enter x).1.2=0->((s.enter x).2.enter x).1.2≠0)/\((s.enter x).1.2≠0->(s.enter x).2=s):=by
 cases s with
 |dn l c q=>exact⟨rfl,λh=>absurd h (by show(52:Int)≠0;decide),λ_=>rfl⟩
 |up l c t=>
  have k:((Lc l c x).1.2≠0/\(Lc l c x).2=(c,l))\/((Lc l c x).1.2=0/\Md x/\x.ep<=(jc (Lc l c x).2.1.co).ep):=by
   unfold Lc;split
   .unfold CS.enter;by_cases h1:Md x
    .rw[if_neg (not_not_intro h1)];by_cases h2:x.ep<=(jc c.co).ep
     .rw[if_pos h2];left;rw[if_neg (by show ¬(80:Int)=0;decide)];exact⟨by show(80:Int)≠0;decide,rfl⟩
     .rw[if_neg h2];right;rw[if_pos rfl];refine⟨rfl,h1,?_⟩;show x.ep<=(jc (c.Tc x).settle.co).ep;obtain⟨-,-,-,h4,-⟩:=Na (c.Tc x);rw[h4,show(c.Tc x).co=some (ff x) from by unfold CS.Tc;split<;>rfl];show x.ep<=(ff x).cfg.ep;rw[show(ff x).cfg.ep=x.ep from congrArg Wa.ep h1.2.1];exact Int.le_refl _
    .rw[if_pos h1];left;rw[if_neg (by show ¬(1:Int)=0;decide)];exact⟨by show(1:Int)≠0;decide,rfl⟩
   .exact .inl ⟨by show(51:Int)≠0;decide,rfl⟩
  have k2:∀{l:List Lf} {c:CS},Md x->x.ep<=(jc c.co).ep->(Lc l c x).1.2≠0/\(Lc l c x).2=(c,l):=by
   intro l c h1 h2;unfold Lc;split
   .rw[show c.enter x=((false,80),c) from by unfold CS.enter;rw[if_neg (not_not_intro h1),if_pos h2]];rw[if_neg (by show ¬(80:Int)=0;decide)];exact⟨by show(80:Int)≠0;decide,rfl⟩
   .exact⟨by show(51:Int)≠0;decide,rfl⟩
  obtain⟨r,hr⟩:∃r,Lc l c x=r:=⟨_,rfl⟩;show(Ga.enter (.up (Lc l c x).2.2 (Lc l c x).2.1 t) x).2= .up (Lc l c x).2.2 (Lc l c x).2.1 t/\((Lc l c x).1.2=0->(Ga.enter (.up (Lc l c x).2.2 (Lc l c x).2.1 t) x).1.2≠0)/\((Lc l c x).1.2≠0->Ga.up (Lc l c x).2.2 (Lc l c x).2.1 t= .up l c t);rw[hr] at k⊢;obtain⟨a,b,d⟩:=r;rcases k with⟨n1,n2⟩|⟨n1,n2,n3⟩
  .injection n2 with n2 n3
   subst n2 n3;refine⟨?_,λh=>absurd h n1,λ_=>rfl⟩;show Ga.up (Lc d b x).2.2 (Lc d b x).2.1 t=_;rw[hr]
  .obtain⟨g1,g2⟩:=k2 (l:=d) (c:=b) n2 n3;refine⟨?_,λ_=>g1,λh=>absurd n1 h⟩;show Ga.up (Lc d b x).2.2 (Lc d b x).2.1 t=_;rw[g2]
def zS(L J F:Prop)[Decidable L][Decidable J][Decidable F](su OU:Bool)(ow bs du st d u sN:Int)(h1:bs<=du)(h2:st<=du)(h3:d<=du)(h4:u<=du)
  (hs:OU=if L/\J then true else if F then su else if su=true\/ow<=d then true else su)
  (ht:sN=if L then(if J then du else if(if F then su else if su=true\/ow<=d then true else su)=true then mx (if F then mx st u else if su=true\/ow<=d then mx (mx st bs) d else st) bs else(if F then mx st u else if su=true\/ow<=d then mx (mx st bs) d else st)) else(if F then mx st u else if su=true\/ow<=d then mx (mx st bs) d else st)):
  (if L then(if J then du else if(if F then OU else if OU=true\/ow<=d then true else OU)=true then mx (if F then mx sN u else if OU=true\/ow<=d then mx (mx sN bs) d else sN) bs else(if F then mx sN u else if OU=true\/ow<=d then mx (mx sN bs) d else sN)) else(if F then mx sN u else if OU=true\/ow<=d then mx (mx sN bs) d else sN))=sN:=by
 unfold mx at*;by_cases a1:L<;>by_cases a2:J<;>by_cases a3:F<;>cases su<;>by_cases a5:ow<=d;all_goals simp only[a1,a2,a3,a5,if_true,if_false,and_true,true_and,and_self,and_false,false_and,or_true,true_or,or_false,false_or,Bool.false_eq_true,or_self] at hs ht⊢
 all_goals(try subst hs)
 all_goals(try simp only[if_true,if_false,or_true,true_or,or_false,false_or,Bool.false_eq_true,a5,or_self])
 all_goals(try(subst ht))
 all_goals((repeat' split)<;>omega)
def Ga.sJ(ok:s.ok N)(h:Ke s.ch)(f ep du st:Int):
  ((s.heard f ep du st).2.heard f ep du st).2.ch.lg=(s.heard f ep du st).2.ch.lg/\((s.heard f ep du st).2.heard f ep du st).2.ch.du=(s.heard f ep du st).2.ch.du/\((s.heard f ep du st).2.heard f ep du st).2.ch.st=(s.heard f ep du st).2.ch.st:=by
 cases s with
 |dn l c q=>exact⟨rfl,rfl,rfl⟩
 |up l c t=>
  have h:Ke c:=h;have xb:Ob c:=LI.ok (show LI l c N from ok);show((c.heard f ep du st).2.heard f ep du st).2.lg=(c.heard f ep du st).2.lg/\((c.heard f ep du st).2.heard f ep du st).2.du=(c.heard f ep du st).2.du/\((c.heard f ep du st).2.heard f ep du st).2.st=(c.heard f ep du st).2.st;have hb:=xb.bs;have hs:=h.st;have MK:=xb.du;obtain⟨d,hd⟩:∃d,mn du c.du=d:=⟨_,rfl⟩;obtain⟨u,hu⟩:∃u,mn st c.du=u:=⟨_,rfl⟩;have hdl:d<=c.du:=by rw[<-hd];unfold mn;split<;>omega
  have Q2:u<=c.du:=by rw[<-hu];unfold mn;split<;>omega
  by_cases k:ep=(jc c.co).ep/\0<=f/\f=Vc c.co c.nd
  .have e1:c.heard f ep du st=(true,(c.Pb f d u).settle):=by unfold CS.heard;rw[if_pos k,hd,hu]
   rw[e1];obtain⟨-,-,z3,z4,-,z6,z7,z8,z10⟩:=Te c f d u;obtain⟨-,-,s3,s4,-,s6,s7,s8,-,M7⟩:=Na (c.Pb f d u);obtain⟨y,hy⟩:∃y,(c.Pb f d u).settle=y:=⟨_,rfl⟩;have sN:y.st=(c.Pb f d u).settle.st:=by rw[hy]
   have OU:y.su=(c.Pb f d u).settle.su:=by rw[hy]
   rw[hy] at s3 s4 s6 s7 s8 M7⊢;rw[z3] at s3;rw[z4] at s4;rw[z6] at s6;rw[z7] at s7;rw[z8] at s8;rw[z10] at M7
   have e2:y.heard f ep du st=(true,(y.Pb f d u).settle):=by
    unfold CS.heard;rw[if_pos (by rw[s3,s4];exact k),s8,hd,hu]
   rw[e2];obtain⟨-,-,-,-,-,-,w7,w8,-⟩:=Te y f d u;obtain⟨-,-,-,-,-,-,v7,v8,-⟩:=Na (y.Pb f d u);refine⟨v7.trans w7,v8.trans w8,?_⟩;show(y.Pb f d u).settle.st=y.st
   have R2:∀z:CS,z.co=c.co->z.nd=c.nd->(z.last↔c.last):=λz h1 h2=>by
    show(0<=z.nd/\Xp z.co=z.nd)↔_;rw[h1,h2]
   have S2:∀z:CS,z.co=c.co->z.nd=c.nd->z.settle.st=(if c.last then(if(jc c.co).jo=false then z.du else if z.su=true then mx z.st z.bs else z.st) else z.st)/\z.settle.su=(if c.last/\(jc c.co).jo=false then true else z.su):=by
    intro z h1 h2;have hl:=R2 z h1 h2;unfold CS.settle;by_cases a:c.last
    .rw[if_pos (hl.2 a),if_pos a,h1];by_cases b:(jc c.co).jo=false
     .rw[if_pos b,if_pos b,if_pos ⟨a,b⟩];exact⟨rfl,rfl⟩
     .rw[if_neg b,if_neg b,if_neg (λq:c.last/\_=>b q.2)];split<;>exact⟨rfl,rfl⟩
    .rw[if_neg (λq=>a (hl.1 q)),if_neg a,if_neg (λq:c.last/\_=>a q.1)];exact⟨rfl,rfl⟩
   obtain⟨p1,p2⟩:=S2 (c.Pb f d u) z4 z3;obtain⟨-,-,t3,t4,-,t6,-,t8,t10⟩:=Te y f d u;obtain⟨q1,-⟩:=S2 (y.Pb f d u) (t4.trans s4) (t3.trans s3)
   have U2:∀z:CS,z.co=c.co->(z.Pb f d u).st=(if sk c.co f=true then mx z.st u else if z.su=true\/z.ow<=d then mx (mx z.st z.bs) d else z.st)/\(z.Pb f d u).su=(if sk c.co f=true then z.su else if z.su=true\/z.ow<=d then true else z.su):=by
    intro z h1;unfold CS.Pb;rw[h1];split
    .exact⟨rfl,rfl⟩
    .split<;>exact⟨rfl,rfl⟩
   obtain⟨m1,m2⟩:=U2 c rfl;obtain⟨m3,m4⟩:=U2 y s4;rw[q1,m3,m4,t8,t6,s8,s6,M7];rw[p2,m2] at OU;rw[p1,m1,m2,z8,z6] at sN;exact zS _ _ _ _ _ _ _ _ _ _ _ _ hb.2 hs.2 hdl Q2 OU sN
  .have e1:c.heard f ep du st=(false,c):=by unfold CS.heard;rw[if_neg k]
   rw[e1,e1];exact⟨rfl,rfl,rfl⟩
structure tJ(x y:ua):Prop where
 lg:x.c.lg=y.c.lg
 du:x.c.du=y.c.du
 st:x.c.st=y.c.st
 hd:x.hd.length=y.hd.length
 kn:x.kn=y.kn
 ws:x.ws.length=y.ws.length
def tJ.refl(x:ua):tJ x x:=⟨rfl,rfl,rfl,rfl,rfl,rfl⟩
def tJ.same{x:ua}(h:∀w∈x.ws,x.c.st<w.ix):tJ x.Qa x:=by rw[ua.Mg h];exact .refl _
abbrev V2(m:Da)(w:Wt):Prop:=w.to.nd=m.fr.nd/\w.op=m.op
def tN(n:ua)(m:Da)(i:Int):∀w∈n.wait m i,(∃w'∈n.ws,w.ix=w'.ix)\/w.ix=i:=by
 intro w hw;unfold ua.wait at hw;split at hw
 .rename_i k hk;obtain⟨hl,-⟩:=List.findIdx?_eq_some_iff_getElem.1 hk;rcases mem_or_eq_of_mem_set hw with hw|hw
  .exact .inl ⟨w,hw,rfl⟩
  .rw[hw,getD_eq_getElem?_getD,Wg hl];exact .inl ⟨_,getElem_mem hl,rfl⟩
 .split at hw
  .rcases mem_append.1 hw with hw|hw
   .exact .inl ⟨w,hw,rfl⟩
   .rw[mem_singleton.1 hw];exact .inr rfl
  .exact .inl ⟨w,hw,rfl⟩
def AS(n:ua)(m:Da)(i:Int):(∃w∈n.wait m i,V2 m w)\/16<=(n.wait m i).length:=by
 unfold ua.wait;split
 .rename_i k hk;obtain⟨hl,hp,-⟩:=List.findIdx?_eq_some_iff_getElem.1 hk;have hp:=of_decide_eq_true hp;left;refine⟨_,mem_iff_getElem.2 ⟨k,by rw[length_set];exact hl,getElem_set_self ..⟩,rfl,?_⟩;rw[getD_eq_getElem?_getD,Wg hl];exact hp.2
 .split
  .exact .inl ⟨_,mem_append_right _ (mem_singleton_self _),rfl,rfl⟩
  .right;omega
def BS{m:Da}(h:(∃w∈n.ws,V2 m w)\/16<=n.ws.length)(i:Int):(n.wait m i).length=n.ws.length:=by
 unfold ua.wait;split
 .rw[length_set]
 .rename_i hk;split
  .rcases h with⟨w,hw,hp⟩|h
   .have:=List.findIdx?_eq_none_iff.1 hk w hw;rw[Mi hp] at this;cases this
   .omega
  .rfl
def put_eq(n:ua)(m:Da)(r:(Int×Int)×Ga)(hr:n.s.put m.key m.val m.dead m.dp m.ct m.fr.nd m.op=r):
  (n.put m).1=if m.ep≠n.ep\/ ¬n.c.head then n else{n with s:=r.2,ws:=if r.1.2≠0\/r.1.1<=r.2.ch.st then n.ws else n.wait m r.1.1}:=by
 unfold ua.put;split
 .rfl
 .rw[hr];simp only[];by_cases c1:r.1.2≠0
  .rw[if_pos c1,if_pos (.inl c1)]
  .rw[if_neg c1];by_cases c2:r.1.1<=({n with s:=r.2}:ua).c.st
   .have c3:r.1.2≠0\/r.1.1<=r.2.ch.st:= .inr c2;rw[if_pos c2,if_pos c3]
   .have c3: ¬(r.1.2≠0\/r.1.1<=r.2.ch.st):=λq=>q.elim c1 c2;rw[if_neg c2,if_neg c3]
def zP{n1:ua}(h:gf n N)(m:Da)(e:n1=(n.put m).1.Qa)(uN:∀w∈n1.ws,n1.c.st<w.ix):tJ (n1.put m).1.Qa n1:=by
 obtain⟨r,hr⟩:∃r,n.s.put m.key m.val m.dead m.dp m.ct m.fr.nd m.op=r:=⟨_,rfl⟩;obtain⟨c1,c2,c3⟩:=Ga.yP h.ok h.cs m.key m.val m.dead m.dp m.ct m.fr.nd m.op;rw[hr] at c1 c2 c3;have e0:=put_eq n m r hr;by_cases q:m.ep≠n.ep\/ ¬n.c.head
 .rw[if_pos q] at e0;rw[e0,ua.Mg h.wt] at e;rw[e,e0];exact .same h.wt
 .rw[if_neg q] at e0;obtain⟨W,hW⟩:∃W,(if r.1.2≠0\/r.1.1<=r.2.ch.st then n.ws else n.wait m r.1.1)=W:=⟨_,rfl⟩;rw[hW] at e0
  have hWx:∀w∈W,r.2.ch.st<w.ix:=by
   intro w hw;rw[<-hW] at hw;split at hw
   .rw[c2];exact h.wt w hw
   .rename_i hc;rcases tN n m _ w hw with⟨w',Oi,hx⟩|hx
    .rw[hx,c2];exact h.wt w' Oi
    .omega
  have e1:n1={n with s:=r.2,ws:=W}:=by rw[e,e0];exact ua.Mg hWx
  obtain⟨r1,Qp⟩:∃r1,n1.s.put m.key m.val m.dead m.dp m.ct m.fr.nd m.op=r1:=⟨_,rfl⟩;have e2:=put_eq n1 m r1 Qp;have hs1:n1.s=r.2:=by rw[e1]
  have hw1:n1.ws=W:=by rw[e1]
  by_cases q1:m.ep≠n1.ep\/ ¬n1.c.head
  .rw[if_pos q1] at e2;rw[e2];exact .same uN
  .rw[if_neg q1] at e2;have Sa:r1.2=n1.s:=by rw[<-Qp,hs1];exact c1
   rw[Sa] at e2;by_cases q2:r1.1.2≠0\/r1.1.1<=n1.s.ch.st
   .rw[if_pos q2] at e2;rw[e2];exact .same uN
   .rw[if_neg q2] at e2
    have hgo: ¬(r.1.2≠0\/r.1.1<=r.2.ch.st):=by
     rcases c3 with c3|⟨c3,c4⟩
     .have:r1=r:=by rw[<-Qp,hs1,c3,hr]
      rw[this,hs1] at q2;exact q2
     .rw[c2];omega
    rw[if_neg hgo] at hW;have hl:(n1.wait m r1.1.1).length=n1.ws.length:=BS (by rw[hw1,<-hW];exact AS n m _) _
    have hx:∀w∈n1.wait m r1.1.1,n1.c.st<w.ix:=by
     intro w hw;rcases tN n1 m _ w hw with⟨w',Oi,hx⟩|hx
     .rw[hx];exact uN w' Oi
     .have:n1.c.st=n1.s.ch.st:=rfl;omega
    rw[e2,ua.Mg (n:={n1 with s:=n1.s,ws:=n1.wait m r1.1.1}) hx];exact⟨rfl,rfl,rfl,rfl,rfl,hl⟩
def ua.uJ:∀(k:Nat) (n:ua),(ua.Ld k n).kn=n.kn
 |0,n=>rfl
 |k+1,n=>by
  unfold ua.Ld;split
  .exact ua.uJ k _
  .rfl
def ua.TV(n:ua):n.pull.kn=n.kn:=by
 unfold ua.pull;split
 .exact ua.uJ _ n.Bf
 .rfl
def DS(x a:Int):mx (mx x a) a=mx x a:=by unfold mx;(repeat' split)<;>omega
def SL(v:V9)(r:Int)(c:V3):Gj (Gj v r c) r c=Gj v r c:=V9.ext λk hk=>by
 have e:∀w:V9,(Gj w r c).at k=if Tb 2 r/\k=(2:Int).toNat*3+r.toNat then mx (if Tb 1 r/\k=(1:Int).toNat*3+r.toNat then mx (if Tb 0 r/\k=(0:Int).toNat*3+r.toNat then mx (w.at k) c.a else w.at k) c.b else(if Tb 0 r/\k=(0:Int).toNat*3+r.toNat then mx (w.at k) c.a else w.at k)) c.c else(if Tb 1 r/\k=(1:Int).toNat*3+r.toNat then mx (if Tb 0 r/\k=(0:Int).toNat*3+r.toNat then mx (w.at k) c.a else w.at k) c.b else(if Tb 0 r/\k=(0:Int).toNat*3+r.toNat then mx (w.at k) c.a else w.at k)):=λw=>by
  unfold Gj;rw[Ng _ _ _ _ hk,Ng _ _ _ _ hk,Ng _ _ _ _ hk]
 by_cases h2:Tb 2 r/\k=(2:Int).toNat*3+r.toNat
 .have h1: ¬(Tb 1 r/\k=(1:Int).toNat*3+r.toNat):=λh=>by have:=h.2;have:=h2.2;omega
  have h0: ¬(Tb 0 r/\k=(0:Int).toNat*3+r.toNat):=λh=>by have:=h.2;have:=h2.2;omega
  simp only[if_pos h2,if_neg h1,if_neg h0] at e;rw[e,e,DS]
 .by_cases h1:Tb 1 r/\k=(1:Int).toNat*3+r.toNat
  .have h0: ¬(Tb 0 r/\k=(0:Int).toNat*3+r.toNat):=λh=>by have:=h.2;have:=h1.2;omega
   simp only[if_neg h2,if_pos h1,if_neg h0] at e;rw[e,e,DS]
  .by_cases h0:Tb 0 r/\k=(0:Int).toNat*3+r.toNat
   .simp only[if_neg h2,if_neg h1,if_pos h0] at e;rw[e,e,DS]
   .simp only[if_neg h2,if_neg h1,if_neg h0] at e;rw[e,e]
def VG(h:gf n N)(hN:N+100<=1099511627776)(m:Da):tJ ((n.handle m).1.handle m).1 (n.handle m).1:=by
 cases hu:n.s.jb with
 |false=>
  have e:n.handle m=(n,[]):=by unfold ua.handle;rw[if_pos hu]
  rw[e];show tJ (n.handle m).1 n
  rw[e];exact .refl _
 |true=>
  obtain⟨h1,N7⟩:=h.handle (by omega) m;have up1:(n.handle m).1.s.jb=true:=(congrArg (λx:Int×Int×Int×Int×Bool=>x.2.2.2.2) N7).trans hu;have e:(n.handle m).1=(n.Ka m).1.1.Qa:=by unfold ua.handle;rw[if_neg (by rw[hu];decide)]
  obtain⟨n1,ic⟩:∃n1,(n.handle m).1=n1:=⟨_,rfl⟩;rw[ic] at h1 up1 e⊢;have e2:(n1.handle m).1=(n1.Ka m).1.1.Qa:=by unfold ua.handle;rw[if_neg (by rw[up1];decide)]
  rw[e2];have uN:=h1.wt;have d1:n1.dc=n.dc:=h1.dc.trans h.dc.symm;have d2:n1.rg=n.rg:=h1.rg.trans h.rg.symm;have ma:n1.Bh m=n.Bh m:=by unfold ua.Bh;rw[d1,d2]
  have el:n1.Dh m=n.Dh m:=by unfold ua.Dh;rw[d1,d2]
  have be:n1.Ig m=n.Ig m:=by unfold ua.Ig;rw[d1,d2]
  have ms:n1.Fc=n.Fc:=by unfold ua.Fc;rw[d1]
  by_cases q3:m.kind=3
  .rw[ua.rL q3] at e⊢;exact zP h m e uN
  by_cases q5:m.kind=5
  .rw[ua.TO (n:=n1) q5];exact .same uN
  by_cases q7:m.kind=7/\n.Bh m=true
  .rw[ua.GR q7.1 q7.2] at e;rw[ua.GR (n:=n1) q7.1 (ma.trans q7.2)];by_cases c:m.ep=n.ep/\0<=m.fr.nd/\m.fr.nd=Nd n.c.co n.nd
   .rw[if_pos c] at e;by_cases c1:m.ep=n1.ep/\0<=m.fr.nd/\m.fr.nd=Nd n1.c.co n1.nd
    .rw[if_pos c1];have hs:n1.s=(n.s.take m.fr.nd m.ep m.ix m.en).2:=by rw[e];rfl
     have Sa:(n1.s.take m.fr.nd m.ep m.ix m.en).2=n1.s:=by rw[hs];exact Ga.RL h.cs ..
     rw[Sa];exact .same uN
    .rw[if_neg c1];exact .same uN
   .rw[if_neg c] at e;have e:n1=n:=e.trans (ua.Mg h.wt);rw[e,if_neg c];exact .same h.wt
  by_cases q8:m.kind=8/\n.Bh m=true
  .rw[ua.HR q8.1 q8.2] at e;rw[ua.HR (n:=n1) q8.1 (ma.trans q8.2)];have hs:n1.s=(n.s.heard m.fr.nd m.ep m.ct m.ix).2:=by rw[e];rfl
   obtain⟨a1,a2,a3⟩:=Ga.sJ h.ok h.cs m.fr.nd m.ep m.ct m.ix;rw[<-hs] at a1 a2 a3
   rw[show(({n1 with s:=(n1.s.heard m.fr.nd m.ep m.ct m.ix).2}:ua)).Qa=_ from ua.Mg λw hw=>by
    show(n1.s.heard m.fr.nd m.ep m.ct m.ix).2.ch.st<w.ix;rw[a3];exact uN w hw]
   exact⟨a1,a2,a3,rfl,rfl,rfl⟩
  by_cases q9:m.kind=9/\m.fr=n.Fc
  .rw[ua.KR q9.1 q9.2] at e;rw[ua.KR (n:=n1) q9.1 (q9.2.trans ms.symm)];obtain⟨a1,a2,a3⟩:=Ga.rJ n.s m.cf;have hs:n1.s=(n.s.enter m.cf).2:=by rw[e];rfl
   rw[<-hs] at a1 a2 a3
   have a4:(n1.s.enter m.cf).1.2≠0:=by
    by_cases z:(n.s.enter m.cf).1.2=0
    .exact a2 z
    .rw[a3 z];exact z
   rw[a1,if_neg a4];exact .same uN
  by_cases Kx:m.kind=12/\n.Dh m=true/\n.c.head
  .rw[ua.NI Kx.1 Kx.2.1 Kx.2.2] at e;have O7:=h.toWe.pull (by omega);have f:=Yz h.toWe (by omega) h.ds Kx.2.2;obtain⟨g1,g2⟩:=QL O7 (by omega) (ua.vu h.ds) f (QF h.toWe (by omega) Kx.2.2) m.en n1.ws
   have e:n1={(n.pull.zd m.en).pull with ws:=n1.ws}:=by
    have hw:n1.ws=(n.pull.zd m.en).pull.Qa.ws:=by rw[e]
    rw[hw];exact e
   rw[<-e] at g1 g2;by_cases hh:n1.c.head
   .rw[ua.NI Kx.1 (el.trans Kx.2.1) hh,g1,g2];exact .same uN
   .rw[ua.Ho (n:=n1) (by omega) (by omega) (by omega) (by omega) (by omega) (λk=>hh k.2.2) (by omega) (by omega)];exact .same uN
  by_cases NR:m.kind=13/\n.Dh m=true
  .rw[ua.dN (n:=n1) NR.1 (el.trans NR.2)]
   have key:∀P7,tJ (ua.Qa {n1 with rc:=P7}) n1:=λP7=>by
    rw[ua.Mg (n:={n1 with rc:=P7}) uN];exact⟨rfl,rfl,rfl,rfl,rfl,rfl⟩
   exact key _
  by_cases gN:m.kind=14/\n.Ig m=true
  .rw[ua.OI gN.1 gN.2] at e;rw[ua.OI (n:=n1) gN.1 (be.trans gN.2)];have hb:=of_decide_eq_true gN.2;obtain⟨z,hz⟩:∃z:ua,({n with kn:=Gj n.kn m.fr.rg ⟨m.c0,m.c1,m.c2⟩}:ua)=z:=⟨_,rfl⟩;rw[hz] at e;have okz:We z N:=by rw[<-hz];exact h.toWe.wz (by rw[h.rg];decide) hb.2.2 _
   have dz:ML z.hd:=by rw[<-hz];exact h.ds
   have hk:n1.kn=Gj n.kn m.fr.rg ⟨m.c0,m.c1,m.c2⟩:=by
    rw[e];show z.pull.kn=_;rw[ua.TV,<-hz]
   have ek:({n1 with kn:=Gj n1.kn m.fr.rg ⟨m.c0,m.c1,m.c2⟩}:ua)=n1:=by
    have:Gj n1.kn m.fr.rg ⟨m.c0,m.c1,m.c2⟩=n1.kn:=by rw[hk,SL]
    rw[this]
   rw[ek]
   have e:n1={z.pull with ws:=n1.ws}:=by
    have hw:n1.ws=z.pull.Qa.ws:=by rw[e]
    rw[hw];exact e
   have g:=wP okz (by omega) dz n1.ws;rw[<-e] at g;rw[g];exact .same uN
  .have z:=ua.Ho q3 q5 q7 q8 q9 Kx NR gN;rw[z] at e;have e:n1=n:=e.trans (ua.Mg h.wt);rw[e,z];exact .same h.wt
section
variable{Ec rn nn cl nd:Int}{bg:List Ir}{v:Value}{hs:Hp}(hx:Rs bg v hs)(hlen:bg.length<=1099511627776)(hz:∀a∈bg,oN a)
include hx hlen hz
theorem XG(m:Da)(BQ:m.key.size<=562949953421312/\m.val.size<=562949953421312/\m.en.key.size<=562949953421312/\m.en.val.size<=562949953421312):Ct prog 6 [.agg (List.toArray [Ec,rn,nn,cl]),nd,v,.agg (List.toArray m.enc)] [hs] (λr H'=>r= .bool true/\H'=[hs]):=by
 refine ce func6 λg R=>?_;repeat' first|refine Za ?_|refine gS (λ_=>?_) λ_=>?_|refine Uc λ_=>?_|refine al λ_=>?_|refine cq ry ?_|refine Pg [Ec,rn,nn,cl] ?_
 rename_i b3 b7;refine ck (tu hx hlen λa ha=>(hz a ha).2) ?_;rintro _ _ ⟨bm,rfl,rfl,W2⟩;simp only[can]
 cases bm with
 |true=>
  repeat' first|refine ga ?_|refine gS (λ_=>?_) λ_=>?_|refine Uc λ_=>?_|refine al λ_=>?_
  exact Wi [hs]
 |false=>
 have hle:=W2 rfl;repeat' first|refine ga ?_|refine gS (λ_=>?_) λ_=>?_|refine Uc λ_=>?_|refine al λ_=>?_|refine Pg m.enc ?_|refine jf (Ir.enc ⟨0,0,m⟩) ?_
 refine Up [(⟨0,0,m⟩:Ir)] (λv4 h4 hs4=>?_);repeat' first|refine ga ?_|refine gS (λ_=>?_) λ_=>?_|refine Uc λ_=>?_|refine al λ_=>?_
 refine ck (tu hs4.rs (by simp only[Ib,td];omega) λa ha=>by rw[mem_singleton.1 ha];exact BQ) ?_;rintro _ _ ⟨Q7,rfl,rfl,-⟩;simp only[can]
 cases Q7 with
 |true=>
  repeat' first|refine ga ?_|refine gS (λ_=>?_) λ_=>?_|refine Uc λ_=>?_|refine al λ_=>?_
  exact Wi [hs]
 |false=>
 by_cases hok:XO Ec rn nn cl nd
 case neg=>
  have kn:=Yr hok;have kd:=kq hok;repeat' first|refine ga ?_|refine gS (λ_=>?_) λ_=>?_|refine Uc λ_=>?_|refine al λ_=>?_|refine Pg [Ec,rn,nn,cl] ?_|refine cq kn ?_|refine cq kd ?_
  exact Wi [hs]
 case pos=>
 obtain⟨z1,z2,z3,z4,z5⟩:=id hok;obtain⟨nn,rfl⟩:∃k:Nat,nn=(k:Int):=⟨nn.toNat,by omega⟩;have kn:=sy (dc:=0) (rg:=0) z1 z2 (show 1<=nn/\nn<=4 by omega) z4 (by omega) (by omega) z5;have kd:=Cz (dc:=0) (rg:=0) z1 z2 (show 1<=nn/\nn<=4 by omega) z4 (by omega) (by omega) z5;have Pq:gf (ua.new Ec rn nn cl 0 0 nd) 2:=gf.new z1 z2 (by omega);have PV:=ua.TG Ec rn nn cl nd;generalize ua.new Ec rn nn cl 0 0 nd=n0 at*
 have qn:n0.nd=nd:=by
  unfold ua.lay at PV;injection PV with a1 a2
  injection a2 with a2 a3
  injection a3 with a3 a4
  injection a4 with a4 a5
 repeat' first|refine ga ?_|refine gS (λ_=>?_) λ_=>?_|refine Uc λ_=>?_|refine al λ_=>?_|refine Pg [Ec,rn,.int .i64 (nn:Int),cl] ?_
 refine ck kn ?_;rintro _ _ ⟨b,h0,rfl,hm0,rfl⟩;repeat' first|refine Za ?_|refine gS (λ_=>?_) λ_=>?_|refine Uc λ_=>?_|refine al λ_=>?_|refine Pg [Ec,rn,.int .i64 (nn:Int),cl] ?_
 refine ck kd ?_;rintro _ _ ⟨bd,g0,rfl,wS,rfl⟩;repeat' first|refine Za ?_|refine gS (λ_=>?_) λ_=>?_|refine Uc λ_=>?_|refine al λ_=>?_
 refine W.lo (α:=Nat×ua×Hp×Hp) (λy=>y.1<=bg.length/\gf y.2.1 (2+40*y.1)/\y.2.1.nd=nd/\vf y.2.1 b y.2.2.1/\Cg y.2.1 bd (486+8000*y.1) y.2.2.2)
  (λy=>[(2,v),(7,b7),(9,b),(11,bd),(13,.int .i64 (y.1:Int))]) (λy=>[y.2.2.1,y.2.2.2,hs,Yb b7 m,R]) (λy=>bg.length - y.1) (0,n0,h0,g0) ⟨di _,Pq,qn,hm0,wS⟩ ?_
 rintro⟨k,n,h,hd⟩ ⟨hk,Ko,qn,hm,Fp⟩;simp only[] at hk Ko qn hm Fp⊢;by_cases hlt:k<bg.length
 case pos=>
  obtain⟨a,ha⟩:=Lh hlt;have kc:=jJ Ko (by omega) (by omega) (by omega) hm Fp a (hz a (mem_of_getElem? ha)).1;repeat' first|refine ga ?_|refine gS (λ_=>?_) λ_=>?_|refine Uc λ_=>?_|refine al λ_=>?_|refine Vx hx ha ?_
  refine ck kc ?_;rintro _ _ ⟨rfl,n',h',hd',st,hm',tY,rfl⟩;repeat' first|refine Za ?_|refine gS (λ_=>?_) λ_=>?_|refine Uc λ_=>?_|refine al λ_=>?_
  exact D.round (k+1,n',h',hd') ⟨by simp only[];omega,st.ok.mono (by omega),st.nd.trans qn,hm',(by
   have e:(486:Int)+8000*(k:Nat)+8000=486+8000*((k+1:Nat):Int):=by omega
   simp only[];rw[<-e];exact tY)⟩ (by simp only[];omega) (by repeat(first|exact Aa.nil|refine Aa.cons rfl ?_)) (Ia.qa inferInstance)
 case neg=>
 obtain rfl:k=bg.length:=by omega
 have Ko:gf n 20000:=Ko.mono (by omega);have kh:=kj hm Ko.toWe (by decide) (by rw[Ko.rg];decide) (by rw[Ko.dc];decide) m;obtain⟨Qi,-⟩:=Ko.handle (by decide) m;have hsame:=VG Ko (by decide) m;obtain⟨n1,ic⟩:∃n1,(n.handle m).1=n1:=⟨_,rfl⟩;obtain⟨o1,UL⟩:∃o1,(n.handle m).2=o1:=⟨_,rfl⟩;rw[ic,UL] at kh;rw[ic] at Qi hsame;repeat' first|refine ga ?_|refine gS (λ_=>?_) λ_=>?_|refine Uc λ_=>?_|refine al λ_=>?_|refine Pg m.enc ?_
 refine ck kh ?_;rintro r1 _ ⟨h1,h2,hs1,xe,rfl⟩;simp only[can];have R7:=xe;obtain⟨lb,hb,sb,vw,hl,hw,v0,hh,rfl,at_⟩:=xe;obtain⟨cb,d,w,u,hv,X,rfl,Ue⟩:=ua.Qv at_.lg;obtain⟨pw,cw,rfl⟩:=at_.ws.len;have tg:=Qi.xb.len;have g1:=Fq n1.c cb Ue.rs (by omega);have g2:=Bm n1.c cb u;have g3:=Gg n1.c cb u;have g4:=Rv n1 b lb hb sb (.slice pw n1.ws.length cw) at_.hd.rs;have g5:=Hs n1 b lb hb sb (.slice pw n1.ws.length cw);have g6:=Is n1 b lb hb sb (p:=pw) (c:=cw);obtain⟨vw,hvw⟩:∃vw,Value.slice pw n1.ws.length cw=vw:=⟨_,rfl⟩;rw[hvw] at g4 g5 g6⊢;repeat' first|refine ga ?_|refine gS (λ_=>?_) λ_=>?_|refine Uc λ_=>?_|refine al λ_=>?_
 refine W.f0 [h1,za b n1 lb hb sb vw,Pa n1 lb cb d w,ja cb n1.c u,hv,X,hw,Fa hb n1.rg v0,hh,Ja sb n1.dc n1.rc,hd,hs,Yb b7 m,R] ?_
 refine W.cj (α:=Value×Hp×Nat) (λy=>ia 49 n1.c.lg y.1 y.2.1) (λy=>[(7,b7),(9,b),(14,y.1),(15,n1.c.du),(16,n1.c.st),(17,.int .i64 (n1.hd.length:Int)),(18,.pointer (some ⟨y.2.2,0,none⟩)),(19,.int .i64 (n1.ws.length:Int))])
  (λy=>[y.2.1,Ra y.2.2 n1.kn,Yb b7 m,za b n1 lb hb sb vw,Pa n1 lb cb d w,ja cb n1.c u,hv,X,hw,Fa hb n1.rg v0,hh,Ja sb n1.dc n1.rc,hs,R]) ?_ ?_
 .refine W.Pt 20 (List.replicate 7 true++[false]++List.replicate 7 true++[false]++List.replicate 7 true++[false,true,false,true,false,true,false,false]) 30 [za b n1 lb hb sb vw,Pa n1 lb cb d w] Tryz.mix (by kernel_rfl) rfl ?_;repeat' first|refine ga ?_|refine gS (λ_=>?_) λ_=>?_|refine Uc λ_=>?_|refine al λ_=>?_|(refine I.cl ?_;refine ck g1 ?_;rintro _ _ ⟨h5,hs5,rfl⟩;simp only[ca,na])|refine cq g2 ?_|refine cq g3 ?_|refine cq g4 ?_|refine cq g5 ?_|refine cq g6 ?_|refine xg V9.z.enc n1.kn.enc ?_|refine WA.un ?_|refine WA.lf ?_|refine WA.back ?_|refine WA.an ?_ ?_|refine WA.nil ?_
  all_goals first|exact D.Kw (_,_,_) ‹ia 49 n1.c.lg _ _› (by repeat(first|exact Aa.nil|refine Aa.cons rfl ?_)) (Ia.qa inferInstance)|trace_state
 rintro⟨v14,h14,G0⟩ Y2;simp only[] at Y2⊢;have kh2:=kj R7 Qi.toWe (by decide) (by rw[Qi.rg];decide) (by rw[Qi.dc];decide) m;obtain⟨Io,-⟩:=Qi.handle (by decide) m;obtain⟨n2,hn2⟩:∃n2,(n1.handle m).1=n2:=⟨_,rfl⟩;obtain⟨o2,ho2⟩:∃o2,(n1.handle m).2=o2:=⟨_,rfl⟩;rw[hn2,ho2] at kh2;rw[hn2] at Io hsame;refine W.flat (H':=[h14,Ra G0 n1.kn,Yb b7 m,Ti b n1 lb hb sb (.slice pw n1.ws.length cw) (Pa n1 lb cb d w++(ja cb n1.c u++(hv++X))) hw v0 hh,hs,R]) (by rw[hvw];simp) ?_;repeat' first|refine ga ?_|refine gS (λ_=>?_) λ_=>?_|refine Uc λ_=>?_|refine al λ_=>?_|refine Pg m.enc ?_
 refine ck kh2 ?_;rintro r2 _ ⟨h3,h4,Cc,hm2,rfl⟩;simp only[can];obtain⟨lb',hb',sb',iy,hl',Oi,v',zj,rfl,vL⟩:=hm2;obtain⟨ob,d',w',u',Rc,X',rfl,Hl⟩:=ua.Qv vL.lg;obtain⟨pw',cw',S7⟩:=vL.ws.len;have saa:=Io.xb.len;have f1:=Fq n2.c ob Hl.rs (by omega);have f2:=Bm n2.c ob u';have f3:=Gg n2.c ob u';have f4:=Rv n2 b lb' hb' sb' iy vL.hd.rs;have f5:=Hs n2 b lb' hb' sb' iy;have f6:=Is n2 b lb' hb' sb' (p:=pw') (c:=cw');rw[hsame.lg] at f1;rw[hsame.du] at f2;rw[hsame.st] at f3;rw[hsame.hd] at f4;rw[<-S7,hsame.ws] at f6;have hkn:=hsame.kn;have fe:=λ{u:Value} {h:Hp} (hu:Rs n1.c.lg u h)=>Tz hu Y2.rs (by omega);have Jn:Ab [.i,.i,.i,.i,.i,.i,.i,.i,.i] n2.kn.enc n1.kn.enc=some true:=by rw[hkn];exact Ep rfl
 repeat' first|refine ga ?_|refine gS (λ_=>?_) λ_=>?_|refine Uc λ_=>?_|refine al λ_=>?_
 refine W.f0 [h3,za b n2 lb' hb' sb' iy,Pa n2 lb' ob d' w',ja ob n2.c u',Rc,X',Oi,Fa hb' n2.rg v',zj,Ja sb' n2.dc n2.rc,h14,Ra G0 n1.kn,Yb b7 m,hs,R] ?_;refine Wp (ml [7,1,1,1,8,1,11,1,5,1,5,1,5,1,3]) [Ra G0 n1.kn,za b n2 lb' hb' sb' iy,Pa n2 lb' ob d' w'] ?_;repeat' first|refine ga ?_|refine gS (λ_=>?_) λ_=>?_|refine Uc λ_=>?_|refine al λ_=>?_|refine Pg n1.kn.enc ?_|(refine ck f1 ?_;rintro _ _ ⟨h5,hs5,rfl⟩;simp only[ca,na])|refine cq (fe (ia.rs ‹ia 49 n1.c.lg _ _›)) ?_|refine cq f2 ?_|refine cq f3 ?_|refine cq f4 ?_|refine cq f5 ?_|refine cq f6 ?_|refine WX.aq rfl rfl Jn rfl ?_
 exact Xa [hs] rfl rfl ⟨by simp,rfl⟩
end
set_option maxRecDepth 100000 in
theorem Tv(os:Os)(started:os.Started)(H:Type)(enc:TypeId×Value->H):
  ReturnsInHanded {} checked os 6 .any (Rows.nodeTwiceSpec.pre6 enc prog f6 Rows.nodeTwiceRow.domain false) (Rows.nodeTwiceSpec.post enc prog f6 false true false false):=by
 refine Ks (C:=checked) (tb:=4) Tryz.own started (by kernel_rfl) func6
  (ChangeSpec.witness6 (enc:=enc) (C:=checked) false ⟨#[], #[.agg #[.int .i64 0,.int .i64 0,.int .i64 0,.int .i64 0],.int .i64 0,.slice none 0 0,.agg (List.toArray (Da.enc Da.z))],[]⟩ 8 (by kernel_rfl) (by kernel_rfl) (by kernel_rfl) (by kernel_rfl))
  Tryz.laidOut (by kernel_rfl) rfl underlying4 rfl (λds hd=>match ds,hd with|[_,_,_,_],_=>⟨rfl,rfl,rfl⟩) ?_
 intro W base args ds p Ww oX wJ;have hval:∀(j:Nat) t v,f6.params[j]? =some t->args[j]? =some v->Value.okWide prog W .any base t v:=Ww;have hA:DataW.TrodAll enc prog W 0 (λ_=>true) true f6.params.toList args.toList ds p:=oX;have jC:∀l∈DataW.weightsEach prog f6.params.toList ds,l<=reachBytes:=wJ;clear Ww oX wJ;rw[params6] at hA hval jC;obtain⟨v0,v1,v2,v3,d0,d1,d2,d3,rfl,rfl,⟨p0,h0⟩,⟨p1,h1⟩,⟨p2,h2⟩,⟨p3,h3⟩⟩:=pX hA;obtain⟨l,rfl,_⟩:=Mk 0 WL (hval 0 23 v0 rfl rfl) h0 (ze jC (i:=0) rfl rfl);obtain⟨nd,rfl,_⟩:=ZG (hval 1 3 v1 rfl rfl) h1;obtain⟨xs,hx,hxz,zy⟩:=Uv (by kernel_rfl) XL (hval 2 24 v2 rfl rfl) h2 (ze jC (i:=2) rfl rfl);obtain⟨m,rfl,hm⟩:=Mk 0 wN (hval 3 52 v3 rfl rfl) h3 (ze jC (i:=3) rfl rfl);exact Vv (XG hx.rs (YL zy) hxz m hm)
def aH:(Rows.nodeTwiceRow.inPlace==prog.inPlace 6)=true:=by kernel_rfl
def bH:(Rows.nodeTwiceRow.unfollowed==prog.unfollowed 6)=true:=by kernel_rfl
def cH:(Rows.nodeTwiceRow.recurses==prog.recurses 6)=true:=by kernel_rfl
def dH:(Rows.nodeTwiceRow.named==prog.varsNamed 6)=true:=by kernel_rfl
def eH:laidOutB prog=true:=by kernel_rfl
def fH:mapsRowed prog=true:=by kernel_rfl
def gH:(Rows.nodeTwiceRow.plainKeys==prog.plainKeys)=true:=by kernel_rfl
def iH:(Rows.nodeTwiceRow.lifted==prog.liftsFinal)=true:=by kernel_rfl
def jH:prog.stopsHeard=true:=by kernel_rfl
def Wv:joinedFacts prog 6 f6 Rows.nodeTwiceSpec Rows.nodeTwiceRow=true:=by
 unfold joinedFacts;rw[aH,bH,cH,dH,eH,fH,gH,iH,jH]
 kernel_rfl
theorem nodeTwice_holds:Rows.NodeTwiceSaid:=
 OpenClaim.holds_of_wide 6 f6 rfl rfl rfl rfl rfl rfl rfl ⟨rfl,rfl,rfl,rfl,rfl⟩ rfl rfl rfl rfl rfl (by kernel_rfl) func6 Wv
  (of_decide_eq_true (by kernel_rfl)) (by unfold Func.isWrapper;first|(rw[if_pos (by decide+kernel)];kernel_rfl)|(rw[if_neg (by decide+kernel)];exact⟨rfl,rfl⟩))
  (λos started H enc _=>Tv os started H enc)
end Go.Proofs.YthebagfahkebiaaGreat
