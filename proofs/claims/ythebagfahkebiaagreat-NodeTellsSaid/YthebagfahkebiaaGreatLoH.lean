/-
  Proved: for every input, causewaylaw20.NodeTells returns true and its arguments read as they did. No condition.
-/
import Derived.Test.YthebagfahkebiaaGreatRBJ
set_option linter.all false
set_option maxHeartbeats 8000000
set_option maxRecDepth 20000
namespace Go.Proofs.YthebagfahkebiaaGreat
open Go Go.Sl Go.Proofs.Tryz List
variable{n:ua}
structure Kn(n:ua)(x:Da):Prop where
 fr:x.fr=n.self
 en:x.kind=4\/x.kind=6\/x.kind=12->(x.has=false/\x.kind≠12)\/x.en∈n.Kb
 fw:x.kind=7->1<=x.ix/\x.ix<=n.c.du/\n.c.lg[x.ix.toNat - 1]? =some x.en/\x.ep=n.ep
 ak:x.kind=8->x.ct=n.c.du/\x.ix=n.c.st/\x.ep=n.ep
def Kn.other{x:Da}(hf:x.fr=n.self)(hk:x.kind=10\/x.kind=11\/x.kind=13\/x.kind=14):Kn n x:=⟨hf,λk=>by omega,λk=>by omega,λk=>by omega⟩
def Kn.ack(n:ua)(to:Ki):Kn n (n.Jx to):=⟨rfl,λk=>absurd (show(8:Int)=4\/(8:Int)=6\/(8:Int)=12 from k) (by decide),λk=>absurd (show(8:Int)=7 from k) (by decide),λ_=>⟨rfl,rfl,rfl⟩⟩
def Kn.ahead(n:ua):∀x∈n.Yd,Kn n x:=by
 intro x hx;unfold ua.Yd at hx;split at hx
 .rw[mem_singleton.1 hx];exact .ack n _
 .exact nomatch hx
def Zz{i:Int}(h1:1<=i)(h2:i<=n.c.len):n.c.lg[i.toNat - 1]? =some (n.Qg i):=by
 have hl:n.c.len=(n.c.lg.length:Int):=rfl;unfold ua.Qg;rw[if_pos ⟨h1,h2⟩,getD_eq_getElem?_getD,Wg (by omega)];rfl
def vY{c:CS}(h:Ke c)(hn:c.IG.2=true):1<=c.IG.1/\c.IG.1<=c.du:=by
 have h1:=h.ak;have h2:=h.st;unfold CS.IG at hn⊢;by_cases a:Vc c.co c.nd<0\/c.du=0
 .rw[if_pos a] at hn;cases hn
 .rw[if_neg a] at hn⊢;by_cases b:c.ak<c.du
  .rw[if_pos b];show 1<=c.ak+1/\c.ak+1<=c.du;omega
  .rw[if_neg b] at hn⊢;by_cases d:c.st<c.du
   .rw[if_pos d];show 1<=c.du/\c.du<=c.du;omega
   .rw[if_neg d] at hn;cases hn
section
variable{n:ua}{N:Int}(h:We n N)
include h
theorem Kn.fwd:∀x∈n.Qm,Kn n x:=by
 intro x hx;unfold ua.Qm at hx;split at hx
 .rename_i hn;obtain⟨a,b⟩:=vY h.cs hn;have hd:=h.xb.du;rw[mem_singleton.1 hx];exact⟨rfl,λk=>absurd (show(7:Int)=4\/(7:Int)=6\/(7:Int)=12 from k) (by decide),λ_=>⟨a,b,Zz (i:=n.c.IG.1) a (by omega),rfl⟩,λk=>absurd (show(7:Int)=8 from k) (by decide)⟩
 .exact nomatch hx
theorem Kn.done{w:Wt}(h1:1<=w.ix)(h2:w.ix<=n.c.st):Kn n (n.Jj w):=by
 have hd:=h.xb.du;have hs:=h.cs.st;refine⟨rfl,λ_=> .inr ?_,λk=>absurd (show(4:Int)=7 from k) (by decide),λk=>absurd (show(4:Int)=8 from k) (by decide)⟩;have he:=Zz (n:=n) h1 (by omega);show n.Qg w.ix∈n.c.lg.take n.c.st.toNat;refine mem_of_getElem? (i:=w.ix.toNat - 1) ?_;rw[List.getElem?_take_of_lt (by omega)];exact he
theorem Kn.Qa(du st ak:Int):∀x∈n.eg du st ak,Kn n x:=by
 intro x hx;unfold ua.eg at hx;rcases mem_append.1 hx with hx|hx
 .obtain⟨w,hw,rfl⟩:=mem_map.1 hx;obtain⟨w1,w2⟩:=mem_filter.1 hw;exact .done h (h.wi w w1).1 (of_decide_eq_true w2)
 rcases mem_append.1 hx with hx|hx
 .split at hx
  .exact .ahead n x hx
  .exact nomatch hx
 .split at hx
  .exact .fwd h x hx
  .exact nomatch hx
end
def Kn.no(n:ua){k:Int}(hk:k=4\/k=6)(m:Da)(code:Int):Kn n (n.no k m code):=
 ⟨rfl,λ_=> .inl ⟨rfl,by show k≠12;omega⟩,λq=>by have:k=7:=q;omega,λq=>by have:k=8:=q;omega⟩
def WG(key:ByteArray)(es:List ya):∀e,Ya key es=some e->e∈es:=by
 have key':∀(es:List ya) (o:Option ya) (e:ya),es.foldl (Vw key) o=some e->o=some e\/e∈es:=by
  intro es
  induction es with
  |nil=>exact λo e h=> .inl h
  |cons a t ih=>
   intro o e h;rcases ih _ e h with h|h
   .unfold Vw at h;split at h
    .split at h
     .cases h;exact .inr (qf ..)
     .split at h
      .cases h;exact .inr (qf ..)
      .exact .inl h
    .exact .inl h
   .exact .inr (Vn _ h)
 intro e he;rcases key' es none e he with h|h
 .cases h
 .exact h
def AP(rg:Int)(q:Qy)(es:List ya):(Cr rg q es).has=false\/(Cr rg q es).en∈es:=by
 unfold Cr;simp only[];split
 .exact .inl rfl
 .split
  .exact .inl rfl
  .cases hg:Ya q.key (es.filter λe=>decide (e.rg=rg/\(q.snap=false\/Kj (og q.av rg) e))) with
   |none=>exact .inl rfl
   |some e=>exact .inr (mem_filter.1 (WG _ _ e hg)).1
def Kn.get(n:ua)(m:Da):Kn n (n.get m):=by
 unfold ua.get;split
 .exact .no n (.inr rfl) m _
 .split
  .exact .no n (.inr rfl) m _
  .refine⟨rfl,λ_=>?_,λk=>absurd (show(6:Int)=7 from k) (by decide),λk=>absurd (show(6:Int)=8 from k) (by decide)⟩;rcases AP n.rg (n.query m) n.Kb with h|h
   .exact .inl ⟨h,by show(6:Int)≠12;decide⟩
   .exact .inr h
def Kn.Df(n:ua)(d:Int):∀x∈n.Df d,Kn n x:=by
 intro x hx;unfold ua.Df Pw at hx;by_cases c:De n.dc d
 .rw[if_pos c] at hx;split at hx
  .exact nomatch hx
  .rename_i e he;obtain⟨i,-,rfl⟩:=mem_map.1 hx;exact⟨rfl,λ_=> .inr (mem_of_find?_eq_some he),λk=>absurd (show(12:Int)=7 from k) (by decide),λk=>absurd (show(12:Int)=8 from k) (by decide)⟩
 .rw[if_neg c] at hx;exact nomatch hx
def Kn.ES(n:ua):∀x∈n.Af,Kn n x:=by
 intro x hx;unfold ua.Af at hx;split at hx
 .rw[mem_singleton.1 hx];exact .other rfl (.inr (.inl rfl))
 .exact nomatch hx
def ua.vN{n1:ua}(h1:n1.dc=n.dc)(h2:n1.rg=n.rg)(h3:n1.nd=n.nd):n1.self=n.self:=by
 unfold ua.self ua.at_;rw[h1,h2,h3]
section
variable{n:ua}{N:Int}(h:gf n N)(hN:N+40<=1099511627776)
include h hN
theorem Kn.h0(m:Da):∀x∈(n.Ka m).1.2,Kn (n.Ka m).1.1 x:=by
 have hr:0<=n.rg/\n.rg<3:=by rw[h.rg];decide
 have Pq:=h.toWe.Ka hN hr m;by_cases q3:m.kind=3
 .have hid:=Ga.Fo n.s m.key m.val m.dead m.dp m.ct m.fr.nd m.op;rw[ua.rL q3] at Pq⊢;have Pq:We (n.put m).1 (N+40):=Pq;show ∀x∈(n.put m).2,Kn (n.put m).1 x;unfold ua.put at Pq⊢;split at Pq
  .rename_i c;rw[if_pos c];intro x hx;rw[mem_singleton.1 hx];exact .no n (.inl rfl) m _
  .rename_i c;rw[if_neg c];simp only[] at Pq⊢;obtain⟨n1,ic⟩:∃n1:ua,n1={n with s:=(n.s.put m.key m.val m.dead m.dp m.ct m.fr.nd m.op).2}:=⟨_,rfl⟩;have GS:n1.self=n.self:=by rw[ic];exact ua.vN hid.1 hid.2.1 hid.2.2
   rw[<-ic] at Pq⊢;split at Pq
   .rename_i c1;rw[if_pos c1];intro x hx;rw[mem_singleton.1 hx];have:=Kn.no n (.inl rfl) m (n.s.put m.key m.val m.dead m.dp m.ct m.fr.nd m.op).1.2;exact⟨this.fr.trans GS.symm,λ_=> .inl ⟨rfl,by show(4:Int)≠12;decide⟩,λk=>absurd (show(4:Int)=7 from k) (by decide),λk=>absurd (show(4:Int)=8 from k) (by decide)⟩
   .rename_i c1;rw[if_neg c1];split at Pq
    .rename_i c2;rw[if_pos c2];intro x hx;rw[mem_singleton.1 hx];exact .done Pq (Ga.Mq h.ok (Classical.not_not.1 c1)).1 c2
    .rename_i c2;rw[if_neg c2];exact λx hx=>nomatch hx
 by_cases q5:m.kind=5
 .rw[ua.TO q5];intro x hx;rw[mem_singleton.1 hx];exact .get n m
 by_cases q7:m.kind=7/\n.Bh m=true
 .rw[ua.GR q7.1 q7.2];split
  .intro x hx;rw[mem_singleton.1 hx];exact .ack _ _
  .exact λx hx=>nomatch hx
 by_cases q8:m.kind=8/\n.Bh m=true
 .rw[ua.HR q8.1 q8.2];exact λx hx=>nomatch hx
 by_cases q9:m.kind=9/\m.fr=n.Fc
 .rw[ua.KR q9.1 q9.2];exact λx hx=>nomatch hx
 by_cases Kx:m.kind=12/\n.Dh m=true/\n.c.head
 .rw[ua.NI Kx.1 Kx.2.1 Kx.2.2];exact λx hx=>nomatch hx
 by_cases NR:m.kind=13/\n.Dh m=true
 .rw[ua.dN NR.1 NR.2];intro x hx;simp only[] at hx;split at hx
  .have:=Kn.Df {n with rc:=n.rc.put m.fr.dc.toNat (V3.get ⟨m.c0,m.c1,m.c2⟩ n.dc)} m.fr.dc x hx;exact⟨this.fr,this.en,this.fw,this.ak⟩
  .exact nomatch hx
 by_cases gN:m.kind=14/\n.Ig m=true
 .rw[ua.OI gN.1 gN.2];exact λx hx=>nomatch hx
 .rw[ua.Ho q3 q5 q7 q8 q9 Kx NR gN];exact λx hx=>nomatch hx
theorem Kn.handle(m:Da):∀x∈(n.handle m).2,Kn (n.handle m).1 x:=by
 have hr:0<=n.rg/\n.rg<3:=by rw[h.rg];decide
 have Pq:=h.toWe.Ka hN hr m;have h0:=Kn.h0 h hN m;unfold ua.handle;split
 .exact λx hx=>nomatch hx
 .simp only[];intro x hx;rcases mem_append.1 hx with hx|hx
  .have:=h0 x hx;exact⟨this.fr,this.en,this.fw,this.ak⟩
  rcases mem_append.1 hx with hx|hx
  .have:=Kn.Qa Pq _ _ _ x hx;exact⟨this.fr,this.en,this.fw,this.ak⟩
  .split at hx
   .exact Kn.ES _ x hx
   .exact nomatch hx
theorem Kn.flush:∀x∈n.flush.2,Kn n.flush.1 x:=by
 have _:=hN;have hid:=Ga.Qj n.s
 have o2:Ke n.s.sync.ch:=by
  have:=h.cs;revert this;unfold ua.c
  cases hs:n.s with
  |up l c t=>intro k;exact k.sync (by have:=h.xb;unfold ua.c at this;rw[hs] at this;exact this)
  |dn l c q=>intro k;exact k
 have h1:=h.toWe.PI hid h.ok.sync o2;unfold ua.flush;split
 .exact λx hx=>nomatch hx
 .intro x hx;have:=Kn.Qa h1 _ _ _ x hx;exact⟨this.fr,this.en,this.fw,this.ak⟩
theorem Kn.tick:∀x∈n.tick.2,Kn n.tick.1 x:=by
 cases hu:n.s.jb with
 |false=>unfold ua.tick;rw[if_pos hu];exact λx hx=>nomatch hx
 |true=>
  rw[ua.QV hu];have O7:=h.toWe.pull (by omega);obtain⟨-,-,-,-,-,r6,r7,r8⟩:=n.Sd;have GS:n.self=n.pull.self:=(ua.vN r6 r7 r8).symm;intro x hx;rcases mem_cons.1 hx with rfl|hx
  .exact .other GS (.inl rfl)
  rcases mem_append.1 hx with hx|hx
  .exact .ahead _ x hx
  rcases mem_append.1 hx with hx|hx
  .exact .fwd O7 x hx
  rcases mem_append.1 hx with hx|hx
  .exact Kn.ES _ x hx
  .unfold ua.uY at hx;split at hx
   .exact nomatch hx
   .rcases mem_append.1 hx with hx|hx
    .obtain⟨l,hl,hx⟩:=mem_flatten.1 hx;obtain⟨d,-,rfl⟩:=mem_map.1 hl;try simp only[] at hx
     split at hx
     .exact nomatch hx
     .rcases mem_append.1 hx with hx|hx
      .exact .Df _ _ x hx
      .obtain⟨i,-,rfl⟩:=mem_map.1 hx;exact .other rfl (.inr (.inr (.inl rfl)))
    .obtain⟨l,hl,hx⟩:=mem_flatten.1 hx;obtain⟨d,-,rfl⟩:=mem_map.1 hl;try simp only[] at hx
     split at hx
     .exact nomatch hx
     .obtain⟨i,-,rfl⟩:=mem_map.1 hx;exact .other rfl (.inr (.inr (.inr rfl)))
end
section
variable{n:ua}{N:Int}(ok:gf n N)(b lb hb sb cb d w:Nat)(vw v:Value){hv:Hp}(hs:ia 49 n.c.lg v hv)
include ok hs
theorem Ln{x:Da}(s:Kn n x){nd:Int}(Ix:n.nd=nd):Ct prog 22 [b,.agg (List.toArray x.enc),nd] [za b n lb hb sb vw,Pa n lb cb d w,ja cb n.c v,hv] (λr H'=>r= .bool true/\H'=[za b n lb hb sb vw,Pa n lb cb d w,ja cb n.c v,hv]):=by
 have tg:=ok.xb.len;have MK:=ok.xb.du;have hst:=ok.cs.st;have hlen:n.c.len=(n.c.lg.length:Int):=rfl;have J0:=Fq n.c cb hs.rs (by omega);have j3:=Gg n.c cb v;have X7:=Bm n.c cb v;have kep:=Sg n.c cb v
 have hfr:x.fr=⟨1,0,0,nd⟩:=by
  rw[s.fr];unfold ua.self ua.at_;rw[ok.dc,ok.rg,Ix]
 have Jn:=sL x.fr ⟨1,0,0,nd⟩;rw[Mi hfr] at Jn;obtain⟨K,hK⟩:∃K:Nat,n.c.st=(K:Int):=⟨n.c.st.toNat,by omega⟩;have hle:K<=n.c.lg.length:=by omega
 have hsE:n.Kb=n.c.lg.take K:=by unfold ua.Kb;rw[hK];rfl
 have ji:=s.en;rw[hsE] at ji;rw[hK] at j3;refine ce func22 λg R=>?_;simp only[can];by_cases A:x.kind=4\/x.kind=6\/x.kind=12
 .have ji:=ji A;have q4:x.kind=4\/ ¬x.kind=4:=Classical.em _;have q6:x.kind=6\/ ¬x.kind=6:=Classical.em _;have Kx:x.kind=12\/ ¬x.kind=12:=Classical.em _
  cases BY:x.has with
  |true=>
   have hmem:x.en∈n.c.lg.take K:=ji.resolve_left λh=>by rw[BY] at h;cases h.1
   obtain⟨y,rfl⟩:∃y:Da,x={y with has:=true}:=⟨x,by rw[<-BY]⟩;have km:=λ{u:Value} {h:Hp} (hu:Rs (n.c.lg.take K) u h)=>bJ hu (by rw[Oe];omega) y.en hmem;rcases q4 with q4|q4<;>rcases q6 with q6|q6<;>rcases Kx with Kx|Kx;all_goals try(exfalso;omega)
   all_goals
    repeat' first|refine ga ?_|refine gS (λ_=>?_) λ_=>?_|refine Uc λ_=>?_|refine al λ_=>?_|refine WX.Ea (i:=1) (vs:=Ki.enc _) rfl rfl rfl rfl ?_|refine jf (Ki.enc ⟨1,0,0,nd⟩) ?_|refine WX.aj rfl rfl Jn rfl ?_
    rename_i b4;refine ck J0 ?_;rintro _ _ ⟨h5,hs5,rfl⟩;repeat' first|refine Za ?_|refine gS (λ_=>?_) λ_=>?_|refine Uc λ_=>?_|refine al λ_=>?_
    refine Wp (ml [17,1,3,1,1]) [Yb b4 {y with has:=true},za b n lb hb sb vw,Pa n lb cb d w] ?_;repeat' first|refine ga ?_|refine gS (λ_=>?_) λ_=>?_|refine Uc λ_=>?_|refine al λ_=>?_|refine WX.Ea (b:=b4) (i:=27) (vs:=y.en.enc) rfl rfl rfl rfl ?_|refine sl rfl rfl (ia.rs ‹ia 49 n.c.lg _ _›) ?_ hle|refine cq j3 ?_|refine cq (km ((ia.rs ‹ia 49 n.c.lg _ _›).take hle)) ?_
    exact Wi [za b n lb hb sb vw,Pa n lb cb d w,ja cb n.c v,hv]
  |false=>
   obtain⟨y,rfl⟩:∃y:Da,x={y with has:=false}:=⟨x,by rw[<-BY]⟩;by_cases B:y.kind=12
   .have hmem:y.en∈n.c.lg.take K:=ji.resolve_left λh=>h.2 B;have km:=λ{u:Value} {h:Hp} (hu:Rs (n.c.lg.take K) u h)=>bJ hu (by rw[Oe];omega) y.en hmem;have q4: ¬y.kind=4:=by omega
    have q6: ¬y.kind=6:=by omega
    have B': ¬ ¬y.kind=12:=not_not_intro B;repeat' first|refine ga ?_|refine gS (λ_=>?_) λ_=>?_|refine Uc λ_=>?_|refine al λ_=>?_|refine WX.Ea (i:=1) (vs:=Ki.enc _) rfl rfl rfl rfl ?_|refine jf (Ki.enc ⟨1,0,0,nd⟩) ?_|refine WX.aj rfl rfl Jn rfl ?_
    rename_i b4;refine ck J0 ?_;rintro _ _ ⟨h5,hs5,rfl⟩;repeat' first|refine Za ?_|refine gS (λ_=>?_) λ_=>?_|refine Uc λ_=>?_|refine al λ_=>?_
    refine Wp (ml [17,1,3,1,1]) [Yb b4 {y with has:=false},za b n lb hb sb vw,Pa n lb cb d w] ?_;repeat' first|refine ga ?_|refine gS (λ_=>?_) λ_=>?_|refine Uc λ_=>?_|refine al λ_=>?_|refine WX.Ea (b:=b4) (i:=27) (vs:=y.en.enc) rfl rfl rfl rfl ?_|refine sl rfl rfl (ia.rs ‹ia 49 n.c.lg _ _›) ?_ hle|refine cq j3 ?_|refine cq (km ((ia.rs ‹ia 49 n.c.lg _ _›).take hle)) ?_
    exact Wi [za b n lb hb sb vw,Pa n lb cb d w,ja cb n.c v,hv]
   .rcases q4 with q4|q4<;>rcases q6 with q6|q6<;>rcases Kx with Kx|Kx;all_goals try(exfalso;first|omega|exact B ‹_›)
    all_goals
     have km:=λ(u:Value) (h:Hp) (_:Rs (n.c.lg.take K) u h)=>trivial;repeat' first|refine ga ?_|refine gS (λ_=>?_) λ_=>?_|refine Uc λ_=>?_|refine al λ_=>?_|refine WX.Ea (i:=1) (vs:=Ki.enc _) rfl rfl rfl rfl ?_|refine jf (Ki.enc ⟨1,0,0,nd⟩) ?_|refine WX.aj rfl rfl Jn rfl ?_
     rename_i b4;refine ck J0 ?_;rintro _ _ ⟨h5,hs5,rfl⟩;repeat' first|refine Za ?_|refine gS (λ_=>?_) λ_=>?_|refine Uc λ_=>?_|refine al λ_=>?_
     refine Wp (ml [17,1,3,1,1]) [Yb b4 {y with has:=false},za b n lb hb sb vw,Pa n lb cb d w] ?_;repeat' first|refine ga ?_|refine gS (λ_=>?_) λ_=>?_|refine Uc λ_=>?_|refine al λ_=>?_|refine WX.Ea (b:=b4) (i:=27) (vs:=y.en.enc) rfl rfl rfl rfl ?_|refine sl rfl rfl (ia.rs ‹ia 49 n.c.lg _ _›) ?_ hle|refine cq j3 ?_|refine cq (km ((ia.rs ‹ia 49 n.c.lg _ _›).take hle)) ?_
     exact Wi [za b n lb hb sb vw,Pa n lb cb d w,ja cb n.c v,hv]
 .have q4: ¬x.kind=4:=λh=>A (.inl h);have q6: ¬x.kind=6:=λh=>A (.inr (.inl h));have Kx: ¬x.kind=12:=λh=>A (.inr (.inr h));by_cases q7:x.kind=7
  .obtain⟨f1,f2,f3,f4⟩:=s.fw q7;obtain⟨J,hJ⟩:∃J:Nat,x.ix=(J:Int)+1:=⟨(x.ix - 1).toNat,by omega⟩;have GQ:n.c.lg[J]? =some x.en:=by rw[<-f3,hJ];congr 1
   have hce:Ab rP x.en.enc x.en.enc=some true:=Ep rfl;have f4':x.ep=(jc n.c.co).ep:=f4;repeat' first|refine ga ?_|refine gS (λ_=>?_) λ_=>?_|refine Uc λ_=>?_|refine al λ_=>?_|refine WX.Ea (i:=1) (vs:=Ki.enc _) rfl rfl rfl rfl ?_|refine jf (Ki.enc ⟨1,0,0,nd⟩) ?_|refine WX.aj rfl rfl Jn rfl ?_
   rename_i b4;refine ck J0 ?_;rintro _ _ ⟨h5,hs5,rfl⟩;repeat' first|refine Za ?_|refine gS (λ_=>?_) λ_=>?_|refine Uc λ_=>?_|refine al λ_=>?_
   obtain⟨p5,c5,rfl⟩:=hs5.len;have hr5:=hs5.rs;refine Wp (ml [13,1,23,1,2]) [h5,Yb b4 x,za b n lb hb sb vw,Pa n lb cb d w] ?_;repeat' first|refine ga ?_|refine gS (λ_=>?_) λ_=>?_|refine Uc λ_=>?_|refine al λ_=>?_|refine cq X7 ?_
   refine WX.as 72 (.int .i64 (J:Int)) rfl (by rw[hJ];congr 1;omega) ?_;repeat' first|refine ga ?_|refine gS (λ_=>?_) λ_=>?_|refine Uc λ_=>?_|refine al λ_=>?_|refine Vx hr5 GQ ?_|refine bn b4 27 x.enc x.en.enc ?_|refine WX.aq rfl rfl hce rfl ?_|refine cq X7 ?_|refine cq kep ?_
   exact Xa [za b n lb hb sb vw,Pa n lb cb d w,ja cb n.c v,hv] rfl rfl ⟨by simp[f4'],rfl⟩
  .by_cases q8:x.kind=8
   .obtain⟨f1,f2,f3⟩:=s.ak q8;have f3':x.ep=(jc n.c.co).ep:=f3;rw[hK] at f2;repeat' first|refine ga ?_|refine gS (λ_=>?_) λ_=>?_|refine Uc λ_=>?_|refine al λ_=>?_|refine WX.Ea (i:=1) (vs:=Ki.enc _) rfl rfl rfl rfl ?_|refine jf (Ki.enc ⟨1,0,0,nd⟩) ?_|refine WX.aj rfl rfl Jn rfl ?_
    rename_i b4;refine ck J0 ?_;rintro _ _ ⟨h5,hs5,rfl⟩;repeat' first|refine Za ?_|refine gS (λ_=>?_) λ_=>?_|refine Uc λ_=>?_|refine al λ_=>?_
    refine Wp (ml [9,1,11,1,12,1,2]) [Yb b4 x,za b n lb hb sb vw,Pa n lb cb d w] ?_;repeat' first|refine ga ?_|refine gS (λ_=>?_) λ_=>?_|refine Uc λ_=>?_|refine al λ_=>?_|refine cq X7 ?_|refine cq kep ?_|refine cq j3 ?_
    exact Xa [za b n lb hb sb vw,Pa n lb cb d w,ja cb n.c v,hv] rfl rfl ⟨by simp[f3'],rfl⟩
   .repeat' first|refine ga ?_|refine gS (λ_=>?_) λ_=>?_|refine Uc λ_=>?_|refine al λ_=>?_|refine WX.Ea (i:=1) (vs:=Ki.enc _) rfl rfl rfl rfl ?_|refine jf (Ki.enc ⟨1,0,0,nd⟩) ?_|refine WX.aj rfl rfl Jn rfl ?_
    rename_i b4;refine ck J0 ?_;rintro _ _ ⟨h5,hs5,rfl⟩;repeat' first|refine Za ?_|refine gS (λ_=>?_) λ_=>?_|refine Uc λ_=>?_|refine al λ_=>?_
    exact Wi [za b n lb hb sb vw,Pa n lb cb d w,ja cb n.c v,hv]
end
def ua.KE(n:ua)(a:Ir)(m:Da)(s':Ga):ua×List Da:=
 if a.k=1\/a.k=7\/a.k=8\/a.k=9 then n.handle m else if a.k=2 then n.tick else if a.k=3 then n.flush else if a.k=4 then(n.Dc a.n,[]) else if a.k=5 then({n with s:=s'},[]) else(n,[])
section
variable{n:ua}{N T:Int}(ok:gf n N)(hN:N+40<=1099511627776)(Qh:0<=T)(hT:T+8000<=68719476736)
include ok hN
theorem ua.VV{a:Ir}{m:Da}{s':Ga}(Vu:s'.ok N)(hst:Sj n.s s'):gf (n.KE a m s').1 (N+40)/\(n.KE a m s').1.nd=n.nd/\(n.KE a m s').2.length<=100000/\∀x∈(n.KE a m s').2,Kn (n.KE a m s').1 x:=by
 have hl:∀{n':ua},n'.lay=n.lay->n'.nd=n.nd:=λh=>congrArg (λx:Int×Int×Int×Int×Bool=>x.2.2.2.1) h;unfold ua.KE;split
 .obtain⟨h1,h2⟩:=ok.handle hN m;exact⟨h1,hl h2,Nat.le_trans (ua.Es ok hN m) (by decide),Kn.handle ok hN m⟩
 split
 .obtain⟨h1,h2⟩:=ok.tick (by omega);exact⟨h1,hl h2,ua.gJ ok.toWe (by omega),Kn.tick ok hN⟩
 split
 .obtain⟨h1,h2⟩:=ok.flush;exact⟨h1.mono (by omega),hl h2,Nat.le_trans (ua.IF ok.toWe) (by decide),Kn.flush ok hN⟩
 split
 .obtain⟨h1,-,-,-,h5⟩:=ok.Dc a.n;exact⟨h1.mono (by omega),h5,di _,λx hx=>nomatch hx⟩
 split
 .obtain⟨h1,h2⟩:=ok.start Vu hst;exact⟨h1.mono (by omega),h2.2.2,di _,λx hx=>nomatch hx⟩
 .exact⟨ok.mono (by omega),rfl,di _,λx hx=>nomatch hx⟩
include Qh hT
theorem WV{bd:Nat}{hd:Hp}(Fp:Cg n bd T hd)(a:Ir)(m:Da)(ha: -9223372036854775808<=a.n/\a.n<=9223372036854775807)(JU: ¬a.k=1){s':Ga}(hid:Lb n.s.c0 s'.c0)
  (hst:∀{b:Nat} {h:Hp} {T:Int},Tf n.s b T h->Ct prog 199 [b] [h] (λr H'=>r= .tuple #[]/\∃h',H'=[h']/\Tf s' b T h')):
  Ct prog 21 [bd,.agg (List.toArray a.enc),.agg (List.toArray m.enc)] [hd] (λr H'=>r= .tuple #[]/\∃hd',Cg (n.KE a m s').1 bd (T+8000) hd'/\H'=[hd']):=by
 have hr:0<=n.rg/\n.rg<3:=by rw[ok.rg];decide
 have hdc:0<=n.dc/\n.dc<3:=by rw[ok.dc];decide
 have hmono:∀{n':ua} {x:Hp},Cg n' bd T x->Cg n' bd (T+8000) x:=λ⟨vo,gb,hb,sb,vw,hl,hw,v,hh,e,at_⟩=>⟨vo,gb,hb,sb,vw,hl,hw,v,hh,e,at_.mono (by omega)⟩;unfold ua.KE;by_cases x3:a.k=7\/a.k=8\/a.k=9
 .rw[if_pos (.inr x3)];have Gs:=iq Fp ok.toWe hN Qh hT hr hdc m;have q8:a.k=7\/ ¬a.k=7:=Classical.em _;have q9:a.k=8\/ ¬a.k=8:=Classical.em _;have j6:a.k=9\/ ¬a.k=9:=Classical.em _;rcases q8 with q8|q8<;>rcases q9 with q9|q9<;>rcases j6 with j6|j6;all_goals try(exfalso;omega)
  all_goals
   have r2: ¬a.k=2:=by omega
   have r3: ¬a.k=3:=by omega
   have r4: ¬a.k=4:=by omega
   have r5: ¬a.k=5:=by omega
   refine ce func21 λg R=>?_;repeat' first|refine Za ?_|refine gS (λ_=>?_) λ_=>?_|refine Uc λ_=>?_|refine al λ_=>?_|refine Pg m.enc ?_
   refine ck Gs ?_;rintro _ _ ⟨h3,h4,Cc,WB,rfl⟩;repeat' first|refine Za ?_|refine gS (λ_=>?_) λ_=>?_|refine Uc λ_=>?_|refine al λ_=>?_
   exact D.fc [h4] _ rfl ⟨rfl,_,WB,rfl⟩
 .have q7: ¬a.k=7:=λh=>x3 (.inl h);have q8: ¬a.k=8:=λh=>x3 (.inr (.inl h));have q9: ¬a.k=9:=λh=>x3 (.inr (.inr h));rw[if_neg (λh=>h.elim JU x3)];by_cases q2:a.k=2
  .rw[if_pos q2];have Gs:=zF Fp ok.toWe (by omega) Qh hT;refine ce func21 λg R=>?_;repeat' first|refine Za ?_|refine gS (λ_=>?_) λ_=>?_|refine Uc λ_=>?_|refine al λ_=>?_
   refine ck Gs ?_;rintro _ _ ⟨h3,h4,Cc,WB,rfl⟩;repeat' first|refine Za ?_|refine gS (λ_=>?_) λ_=>?_|refine Uc λ_=>?_|refine al λ_=>?_
   exact D.fc [h4] _ rfl ⟨rfl,_,WB,rfl⟩
  rw[if_neg q2];by_cases q3:a.k=3
  .rw[if_pos q3];have Gs:=xz Fp ok.toWe Qh hT;refine ce func21 λg R=>?_;repeat' first|refine Za ?_|refine gS (λ_=>?_) λ_=>?_|refine Uc λ_=>?_|refine al λ_=>?_
   refine ck Gs ?_;rintro _ _ ⟨h3,h4,Cc,WB,rfl⟩;repeat' first|refine Za ?_|refine gS (λ_=>?_) λ_=>?_|refine Uc λ_=>?_|refine al λ_=>?_
   exact D.fc [h4] _ rfl ⟨rfl,_,WB,rfl⟩
  rw[if_neg q3];by_cases q4:a.k=4
  .rw[if_pos q4];have Gs:=Az Fp ok.toWe Qh hT ha.1 ha.2;refine ce func21 λg R=>?_;repeat' first|refine Za ?_|refine gS (λ_=>?_) λ_=>?_|refine Uc λ_=>?_|refine al λ_=>?_
   refine ck Gs ?_;rintro _ _ ⟨rfl,h4,WB,rfl⟩;repeat' first|refine Za ?_|refine gS (λ_=>?_) λ_=>?_|refine Uc λ_=>?_|refine al λ_=>?_
   exact D.fc [h4] _ rfl ⟨rfl,_,hmono WB,rfl⟩
  rw[if_neg q4];by_cases q5:a.k=5
  .rw[if_pos q5];have Gs:=Bz Fp ok.toWe Qh hT hid hst;refine ce func21 λg R=>?_;repeat' first|refine Za ?_|refine gS (λ_=>?_) λ_=>?_|refine Uc λ_=>?_|refine al λ_=>?_
   refine ck Gs ?_;rintro _ _ ⟨rfl,h4,WB,rfl⟩;repeat' first|refine Za ?_|refine gS (λ_=>?_) λ_=>?_|refine Uc λ_=>?_|refine al λ_=>?_
   exact D.fc [h4] _ rfl ⟨rfl,_,hmono WB,rfl⟩
  rw[if_neg q5];refine ce func21 λg R=>?_;repeat' first|refine Za ?_|refine gS (λ_=>?_) λ_=>?_|refine Uc λ_=>?_|refine al λ_=>?_
  exact D.fc [hd] _ rfl ⟨rfl,_,hmono Fp,rfl⟩
end
def W.Vd{g:World}{P:Program}{c:Code}{Q:Exit->Act->World->Prop}{n:Nat}{L:Fm}{H:HH}(H':HH){H2 r:HH}[k:Oc H' H r](s:H'.flatten=H2.flatten)(h:W g P c Q n L H2):W g P c Q n L H:= .mk λa w ha hw=>h a w ha (s▸(Ia.qa k).on hw)
section
variable{Ec rn nn cl nd:Int}{bg:List Ir}{v:Value}{hs:Hp}(hx:Rs bg v hs)(hlen:bg.length<=1099511627776)(hz:∀a∈bg,oN a)
include hx hlen hz
theorem kH:Ct prog 3 [.agg (List.toArray [Ec,rn,nn,cl]),nd,v] [hs] (λr H'=>r= .bool true/\H'=[hs]):=by
 refine ce func3 λg R=>?_;repeat' first|refine Za ?_|refine gS (λ_=>?_) λ_=>?_|refine Uc λ_=>?_|refine al λ_=>?_|refine cq ry ?_|refine Pg [Ec,rn,nn,cl] ?_
 rename_i b3;refine ck (tu hx hlen λa ha=>(hz a ha).2) ?_;rintro _ _ ⟨bm,rfl,rfl,W2⟩;simp only[can]
 cases bm with
 |true=>
  repeat' first|refine ga ?_|refine gS (λ_=>?_) λ_=>?_|refine Uc λ_=>?_|refine al λ_=>?_
  exact Wi [hs]
 |false=>
 have hle:=W2 rfl;by_cases hok:XO Ec rn nn cl nd
 case neg=>
  have kn:=Yr hok;have kd:=kq hok;repeat' first|refine ga ?_|refine gS (λ_=>?_) λ_=>?_|refine Uc λ_=>?_|refine al λ_=>?_|refine Pg [Ec,rn,nn,cl] ?_|refine cq kn ?_|refine cq kd ?_
  exact Wi [hs]
 case pos=>
 obtain⟨z1,z2,z3,z4,z5⟩:=id hok;obtain⟨nn,rfl⟩:∃k:Nat,nn=(k:Int):=⟨nn.toNat,by omega⟩;have kn:=sy (dc:=0) (rg:=0) z1 z2 (show 1<=nn/\nn<=4 by omega) z4 (by omega) (by omega) z5;have kd:=Cz (dc:=0) (rg:=0) z1 z2 (show 1<=nn/\nn<=4 by omega) z4 (by omega) (by omega) z5;have Pq:gf (ua.new Ec rn nn cl 0 0 nd) 2:=gf.new z1 z2 (by omega);have PV:=ua.TG Ec rn nn cl nd;generalize ua.new Ec rn nn cl 0 0 nd=n0 at*
 have qn:n0.nd=nd:=by
  unfold ua.lay at PV;injection PV with a1 a2
  injection a2 with a2 a3
  injection a3 with a3 a4
  injection a4 with a4 a5
 repeat' first|refine ga ?_|refine gS (λ_=>?_) λ_=>?_|refine Uc λ_=>?_|refine al λ_=>?_|refine Pg [Ec,rn,.int .i64 (nn:Int),cl] ?_
 refine ck kn ?_;rintro _ _ ⟨b,h0,rfl,hm0,rfl⟩;repeat' first|refine Za ?_|refine gS (λ_=>?_) λ_=>?_|refine Uc λ_=>?_|refine al λ_=>?_|refine Pg [Ec,rn,.int .i64 (nn:Int),cl] ?_
 refine ck kd ?_;rintro _ _ ⟨bd,g0,rfl,wS,rfl⟩;repeat' first|refine Za ?_|refine gS (λ_=>?_) λ_=>?_|refine Uc λ_=>?_|refine al λ_=>?_
 refine W.lo (α:=Nat×ua×Hp×Hp) (λy=>y.1<=bg.length/\gf y.2.1 (2+40*y.1)/\y.2.1.nd=nd/\vf y.2.1 b y.2.2.1/\Cg y.2.1 bd (486+8000*y.1) y.2.2.2)
  (λy=>[(1,nd),(2,v),(7,b),(9,bd),(11,.int .i64 (y.1:Int))]) (λy=>[y.2.2.1,y.2.2.2,hs,R]) (λy=>bg.length - y.1) (0,n0,h0,g0) ⟨di _,Pq,qn,hm0,wS⟩ ?_
 rintro⟨k,n,h,hd⟩ ⟨hk,Ko,qn,hm,Fp⟩;simp only[] at hk Ko qn hm Fp⊢;by_cases hlt:k<bg.length
 case neg=>
  repeat' first|refine ga ?_|refine gS (λ_=>?_) λ_=>?_|refine Uc λ_=>?_|refine al λ_=>?_
  exact Wi [hs]
 case pos=>
 obtain⟨a,ha⟩:=Lh hlt;have Y7:=(hz a (mem_of_getElem? ha)).1;obtain⟨s',Vu,hst,g1,g2⟩:=zz Ko.ok;obtain⟨-,hid⟩:=Ko.start Vu hst;have PG:0<=n.rg/\n.rg<3:=by rw[Ko.rg];decide
 have hdd:0<=n.dc/\n.dc<3:=by rw[Ko.dc];decide
 have kh:=λm=>kj hm Ko.toWe (by omega) PG hdd m;have ktk:=kJ hm Ko.toWe (by omega);have kfl:=Ov hm Ko.toWe;have kcr:=JF hm Ko.toWe Ko.dn Y7.1 Y7.2;have BP:=HF Ko Fp a;have kdh:=λm=>iq Fp Ko.toWe (by omega) (by omega) (by omega) PG hdd m
 -- the message that it is, and the act
 obtain⟨m,dV⟩:∃m,(if a.k=7\/a.k=8\/a.k=9 then n.oS a else a.m)=m:=⟨_,rfl⟩;have PU:=λh1=>WV Ko (by omega) (by omega) (by omega) Fp a m Y7 h1 hid g2;obtain⟨o1,o2,o3,o4⟩:=ua.VV (a:=a) (m:=m) Ko (by omega) Vu hst;have heq:n.KE a m s'=if a.k=1\/a.k=7\/a.k=8\/a.k=9 then n.handle m else if a.k=2 then n.tick else if a.k=3 then n.flush else if a.k=4 then(n.Dc a.n,[]) else if a.k=5 then({n with s:=s'},[]) else(n,[]):=rfl
 generalize n.KE a m s'=st at PU o1 o2 o3 o4 heq;obtain⟨n1,ms⟩:=st;simp only[] at PU o1 o2 o3 o4;have hk9:(a.k=1\/a.k=2\/a.k=3\/a.k=7\/a.k=8\/a.k=9)\/a.k=4\/a.k=5\/(¬a.k=1/\ ¬a.k=2/\ ¬a.k=3/\ ¬a.k=4/\ ¬a.k=5/\ ¬a.k=7/\ ¬a.k=8/\ ¬a.k=9):=by omega
 have e7:∀i,i=7\/i=8\/i=9->a.k=i->n.oS a=m:=λi hi h=>by rw[<-dV,if_pos (by omega)]
 have e0: ¬(a.k=7\/a.k=8\/a.k=9)->a.m=m:=λh=>by rw[<-dV,if_neg h]
 rcases hk9 with hA|hB
 .rcases hA with Om|Om|Om|Om|Om|Om
  case' inl.inl=>
   have heq:(n1,ms)=n.handle m:=heq.trans (if_pos (.inl Om));have kd:=kdh m;have kh:=kh m;rw[<-heq] at kh kd;have e0:=e0 (by omega);subst e0;have g7: ¬7<=a.k:=by omega
   repeat' first|refine ga ?_|refine gS (λ_=>?_) λ_=>?_|refine Uc λ_=>?_|refine al λ_=>?_|refine Vx hx ha ?_|refine WX.Ea (i:=2) (cs:=a.enc) (vs:=a.m.enc) rfl rfl rfl rfl ?_|refine Pg a.enc ?_|refine Pg m.enc ?_|refine Pg a.m.enc ?_|refine cq BP ?_|refine xg (Ir.enc ⟨0,0,Da.z⟩) a.enc ?_|refine xg Da.z.enc a.m.enc ?_|refine xg a.m.enc m.enc ?_
   rename_i Ph XV;refine ck kh ?_;rintro v1 _ ⟨h1,h2,hs1,xe,rfl⟩;simp only[can];have hs1:ia 52 ms v1 h1:=hs1;have xe:vf n1 b h2:=xe;obtain⟨p1,c1,rfl⟩:=hs1.len;repeat' first|refine ga ?_|refine gS (λ_=>?_) λ_=>?_|refine Uc λ_=>?_|refine al λ_=>?_|refine Pg a.enc ?_|refine Pg m.enc ?_|refine Pg a.m.enc ?_
   refine ck kd ?_;rintro _ _ ⟨h3,Jd,Cc,jg,rfl⟩;have jg:Cg n1 bd _ Jd:=jg;simp only[can]
  case' inl.inr.inl=>
   have heq:(n1,ms)=n.tick:=heq.trans ((if_neg (by omega)).trans (if_pos Om));have kd:=PU (by omega);have kh:=ktk;rw[<-heq] at kh;have e0:=e0 (by omega);subst e0;have g7: ¬7<=a.k:=by omega
   have r1: ¬a.k=1:=by omega
   have r7: ¬a.k=7:=by omega
   have r8: ¬a.k=8:=by omega
   have r9: ¬a.k=9:=by omega
   repeat' first|refine ga ?_|refine gS (λ_=>?_) λ_=>?_|refine Uc λ_=>?_|refine al λ_=>?_|refine Vx hx ha ?_|refine WX.Ea (i:=2) (cs:=a.enc) (vs:=a.m.enc) rfl rfl rfl rfl ?_|refine Pg a.enc ?_|refine Pg m.enc ?_|refine Pg a.m.enc ?_|refine cq BP ?_|refine xg (Ir.enc ⟨0,0,Da.z⟩) a.enc ?_|refine xg Da.z.enc a.m.enc ?_|refine xg a.m.enc m.enc ?_
   rename_i Ph XV;refine ck kh ?_;rintro v1 _ ⟨h1,h2,hs1,xe,rfl⟩;simp only[can];have hs1:ia 52 ms v1 h1:=hs1;have xe:vf n1 b h2:=xe;obtain⟨p1,c1,rfl⟩:=hs1.len;repeat' first|refine ga ?_|refine gS (λ_=>?_) λ_=>?_|refine Uc λ_=>?_|refine al λ_=>?_|refine Pg a.enc ?_|refine Pg m.enc ?_|refine Pg a.m.enc ?_
   refine ck kd ?_;rintro _ _ ⟨rfl,Jd,jg,rfl⟩;have jg:Cg n1 bd _ Jd:=jg;simp only[can]
  case' inl.inr.inr.inl=>
   have heq:(n1,ms)=n.flush:=heq.trans ((if_neg (by omega)).trans ((if_neg (by omega)).trans (if_pos Om)));have kd:=PU (by omega);have kh:=kfl;rw[<-heq] at kh;have e0:=e0 (by omega);subst e0;have g7: ¬7<=a.k:=by omega
   have r1: ¬a.k=1:=by omega
   have r2: ¬a.k=2:=by omega
   have r7: ¬a.k=7:=by omega
   have r8: ¬a.k=8:=by omega
   have r9: ¬a.k=9:=by omega
   repeat' first|refine ga ?_|refine gS (λ_=>?_) λ_=>?_|refine Uc λ_=>?_|refine al λ_=>?_|refine Vx hx ha ?_|refine WX.Ea (i:=2) (cs:=a.enc) (vs:=a.m.enc) rfl rfl rfl rfl ?_|refine Pg a.enc ?_|refine Pg m.enc ?_|refine Pg a.m.enc ?_|refine cq BP ?_|refine xg (Ir.enc ⟨0,0,Da.z⟩) a.enc ?_|refine xg Da.z.enc a.m.enc ?_|refine xg a.m.enc m.enc ?_
   rename_i Ph XV;refine ck kh ?_;rintro v1 _ ⟨h1,h2,hs1,xe,rfl⟩;simp only[can];have hs1:ia 52 ms v1 h1:=hs1;have xe:vf n1 b h2:=xe;obtain⟨p1,c1,rfl⟩:=hs1.len;repeat' first|refine ga ?_|refine gS (λ_=>?_) λ_=>?_|refine Uc λ_=>?_|refine al λ_=>?_|refine Pg a.enc ?_|refine Pg m.enc ?_|refine Pg a.m.enc ?_
   refine ck kd ?_;rintro _ _ ⟨rfl,Jd,jg,rfl⟩;have jg:Cg n1 bd _ Jd:=jg;simp only[can]
  case' inl.inr.inr.inr.inl=>
   have heq:(n1,ms)=n.handle m:=heq.trans (if_pos (by omega));have kd:=PU (by omega);have kh:=kh m;rw[<-heq] at kh;rw[e7 7 (by decide) Om] at BP;have g7:7<=a.k:=by omega
   have g9:a.k<=9:=by omega
   have r1: ¬a.k=1:=by omega
   repeat' first|refine ga ?_|refine gS (λ_=>?_) λ_=>?_|refine Uc λ_=>?_|refine al λ_=>?_|refine Vx hx ha ?_|refine WX.Ea (i:=2) (cs:=a.enc) (vs:=a.m.enc) rfl rfl rfl rfl ?_|refine Pg a.enc ?_|refine Pg m.enc ?_|refine Pg a.m.enc ?_|refine cq BP ?_|refine xg (Ir.enc ⟨0,0,Da.z⟩) a.enc ?_|refine xg Da.z.enc a.m.enc ?_|refine xg a.m.enc m.enc ?_
   rename_i Ph XV;refine ck kh ?_;rintro v1 _ ⟨h1,h2,hs1,xe,rfl⟩;simp only[can];have hs1:ia 52 ms v1 h1:=hs1;have xe:vf n1 b h2:=xe;obtain⟨p1,c1,rfl⟩:=hs1.len;repeat' first|refine ga ?_|refine gS (λ_=>?_) λ_=>?_|refine Uc λ_=>?_|refine al λ_=>?_|refine Pg a.enc ?_|refine Pg m.enc ?_|refine Pg a.m.enc ?_
   refine ck kd ?_;rintro _ _ ⟨rfl,Jd,jg,rfl⟩;have jg:Cg n1 bd _ Jd:=jg;simp only[can]
  case' inl.inr.inr.inr.inr.inl=>
   have heq:(n1,ms)=n.handle m:=heq.trans (if_pos (by omega));have kd:=PU (by omega);have kh:=kh m;rw[<-heq] at kh;rw[e7 8 (by decide) Om] at BP;have g7:7<=a.k:=by omega
   have g9:a.k<=9:=by omega
   have r1: ¬a.k=1:=by omega
   have r7: ¬a.k=7:=by omega
   repeat' first|refine ga ?_|refine gS (λ_=>?_) λ_=>?_|refine Uc λ_=>?_|refine al λ_=>?_|refine Vx hx ha ?_|refine WX.Ea (i:=2) (cs:=a.enc) (vs:=a.m.enc) rfl rfl rfl rfl ?_|refine Pg a.enc ?_|refine Pg m.enc ?_|refine Pg a.m.enc ?_|refine cq BP ?_|refine xg (Ir.enc ⟨0,0,Da.z⟩) a.enc ?_|refine xg Da.z.enc a.m.enc ?_|refine xg a.m.enc m.enc ?_
   rename_i Ph XV;refine ck kh ?_;rintro v1 _ ⟨h1,h2,hs1,xe,rfl⟩;simp only[can];have hs1:ia 52 ms v1 h1:=hs1;have xe:vf n1 b h2:=xe;obtain⟨p1,c1,rfl⟩:=hs1.len;repeat' first|refine ga ?_|refine gS (λ_=>?_) λ_=>?_|refine Uc λ_=>?_|refine al λ_=>?_|refine Pg a.enc ?_|refine Pg m.enc ?_|refine Pg a.m.enc ?_
   refine ck kd ?_;rintro _ _ ⟨rfl,Jd,jg,rfl⟩;have jg:Cg n1 bd _ Jd:=jg;simp only[can]
  case' inl.inr.inr.inr.inr.inr=>
   have heq:(n1,ms)=n.handle m:=heq.trans (if_pos (by omega));have kd:=PU (by omega);have kh:=kh m;rw[<-heq] at kh;rw[e7 9 (by decide) Om] at BP;have g7:7<=a.k:=by omega
   have g9:a.k<=9:=by omega
   have r1: ¬a.k=1:=by omega
   have r7: ¬a.k=7:=by omega
   have r8: ¬a.k=8:=by omega
   repeat' first|refine ga ?_|refine gS (λ_=>?_) λ_=>?_|refine Uc λ_=>?_|refine al λ_=>?_|refine Vx hx ha ?_|refine WX.Ea (i:=2) (cs:=a.enc) (vs:=a.m.enc) rfl rfl rfl rfl ?_|refine Pg a.enc ?_|refine Pg m.enc ?_|refine Pg a.m.enc ?_|refine cq BP ?_|refine xg (Ir.enc ⟨0,0,Da.z⟩) a.enc ?_|refine xg Da.z.enc a.m.enc ?_|refine xg a.m.enc m.enc ?_
   rename_i Ph XV;refine ck kh ?_;rintro v1 _ ⟨h1,h2,hs1,xe,rfl⟩;simp only[can];have hs1:ia 52 ms v1 h1:=hs1;have xe:vf n1 b h2:=xe;obtain⟨p1,c1,rfl⟩:=hs1.len;repeat' first|refine ga ?_|refine gS (λ_=>?_) λ_=>?_|refine Uc λ_=>?_|refine al λ_=>?_|refine Pg a.enc ?_|refine Pg m.enc ?_|refine Pg a.m.enc ?_
   refine ck kd ?_;rintro _ _ ⟨rfl,Jd,jg,rfl⟩;have jg:Cg n1 bd _ Jd:=jg;simp only[can]
  all_goals
   repeat' first|refine ga ?_|refine gS (λ_=>?_) λ_=>?_|refine Uc λ_=>?_|refine al λ_=>?_
   obtain⟨lb,hb,sb,vw,hl,hw,v0,hh,rfl,at_⟩:=id xe;obtain⟨cb,d,w,u,hv,X,rfl,Ue⟩:=ua.Qv at_.lg;refine W.Vd [h1,Ti b n1 lb hb sb vw (Pa n1 lb cb d w++(ja cb n1.c u++(hv++X))) hw v0 hh,Jd,hs,R] (H2:=[h1,za b n1 lb hb sb vw,Pa n1 lb cb d w,ja cb n1.c u,hv,X,hw,Fa hb n1.rg v0,hh,Ja sb n1.dc n1.rc,Jd,hs,R]) (by simp) ?_
   refine W.lo (α:=Nat) (λj=>j<=ms.length) (λj=>[(1,nd),(2,v),(7,b),(9,bd),(11,.int .i64 (k:Int)),(13,.slice p1 ms.length c1),(15,.int .i64 (j:Int))])
    (λ_=>[h1,za b n1 lb hb sb vw,Pa n1 lb cb d w,ja cb n1.c u,hv,X,hw,Fa hb n1.rg v0,hh,Ja sb n1.dc n1.rc,Jd,hs,R]) (λj=>ms.length - j) 0 (di _) ?_
   intro j hj;try simp only[] at hj⊢
   by_cases hjl:j<ms.length
   .obtain⟨x,xJ⟩:=Lh hjl;have ks:=Ln o1 b lb hb sb cb d w vw u Ue (o4 x (mem_of_getElem? xJ)) (o2.trans qn);have Qp:=hs1.rs;repeat' first|refine ga ?_|refine gS (λ_=>?_) λ_=>?_|refine Uc λ_=>?_|refine al λ_=>?_|refine Vx Qp xJ ?_|refine cq ks ?_
    exact D.rd (j+1) (show j+1<=ms.length from hjl) (by first|omega|(simp only[];omega))
   .repeat' first|refine ga ?_|refine gS (λ_=>?_) λ_=>?_|refine Uc λ_=>?_|refine al λ_=>?_
    refine D.Vd [za b n1 lb hb sb vw,Pa n1 lb cb d w,ja cb n1.c u,hv,X,hw,Fa hb n1.rg v0,hh,Ja sb n1.dc n1.rc,Jd,hs,R] (H2:=[Ti b n1 lb hb sb vw (Pa n1 lb cb d w++(ja cb n1.c u++(hv++X))) hw v0 hh,Jd,hs,R]) (by simp) ?_
    exact D.round (k+1,n1,Ti b n1 lb hb sb vw (Pa n1 lb cb d w++(ja cb n1.c u++(hv++X))) hw v0 hh,Jd) ⟨by first|omega|(simp only[];omega),o1.mono (by first|omega|(simp only[];omega)),o2.trans qn,xe,(by
     have e:(486:Int)+8000*(k:Nat)+8000=486+8000*((k+1:Nat):Int):=by omega
     simp only[];rw[<-e];exact jg)⟩ (by first|omega|(simp only[];omega)) (by repeat(first|exact Aa.nil|refine Aa.cons rfl ?_)) (Ia.qa inferInstance)
 .rcases hB with Om|Om|⟨r1,r2,r3,r4,r5,r7,r8,r9⟩
  case' inr.inl=>
   have heq:(n1,ms)=(n.Dc a.n,([]:List Da)):=heq.trans ((if_neg (by omega)).trans ((if_neg (by omega)).trans ((if_neg (by omega)).trans (if_pos Om))));obtain⟨ic,vG⟩:=Prod.mk.inj heq;subst vG;have kd:=PU (by omega);have kh:=kcr;rw[<-ic] at kh;have e0:=e0 (by omega);subst e0;have g7: ¬7<=a.k:=by omega
   have r1: ¬a.k=1:=by omega
   have r2: ¬a.k=2:=by omega
   have r3: ¬a.k=3:=by omega
   have r7: ¬a.k=7:=by omega
   have r8: ¬a.k=8:=by omega
   have r9: ¬a.k=9:=by omega
   repeat' first|refine ga ?_|refine gS (λ_=>?_) λ_=>?_|refine Uc λ_=>?_|refine al λ_=>?_|refine Vx hx ha ?_|refine WX.Ea (i:=2) (cs:=a.enc) (vs:=a.m.enc) rfl rfl rfl rfl ?_|refine Pg a.enc ?_|refine Pg m.enc ?_|refine Pg a.m.enc ?_|refine cq BP ?_|refine xg (Ir.enc ⟨0,0,Da.z⟩) a.enc ?_|refine xg Da.z.enc a.m.enc ?_|refine xg a.m.enc m.enc ?_
   rename_i Ph XV;refine ck kh ?_;rintro _ _ ⟨rfl,h2,xe,rfl⟩;repeat' first|refine Za ?_|refine gS (λ_=>?_) λ_=>?_|refine Uc λ_=>?_|refine al λ_=>?_|refine Pg a.enc ?_|refine Pg m.enc ?_|refine Pg a.m.enc ?_
   refine ck kd ?_;rintro _ _ ⟨rfl,Jd,jg,rfl⟩;have jg:Cg n1 bd _ Jd:=jg;simp only[can]
  case' inr.inr.inl=>
   have heq:(n1,ms)=(({n with s:=s'}:ua),([]:List Da)):=heq.trans ((if_neg (by omega)).trans ((if_neg (by omega)).trans ((if_neg (by omega)).trans ((if_neg (by omega)).trans (if_pos Om)))));obtain⟨ic,vG⟩:=Prod.mk.inj heq;subst vG;have kd:=PU (by omega);have e0:=e0 (by omega);subst e0;have g7: ¬7<=a.k:=by omega
   have r1: ¬a.k=1:=by omega
   have r2: ¬a.k=2:=by omega
   have r3: ¬a.k=3:=by omega
   have r4: ¬a.k=4:=by omega
   have r7: ¬a.k=7:=by omega
   have r8: ¬a.k=8:=by omega
   have r9: ¬a.k=9:=by omega
   obtain⟨lb,hb,sb,vw,hl,hw,v0,hh,rfl,at_⟩:=hm;have kh:=g1 at_.lg;have e1:za b n lb hb sb vw=za b n1 lb hb sb vw:=by rw[ic];exact(n.ai hid ..).symm
   have p1:n1.hd=n.hd/\n1.rg=n.rg/\n1.dc=n.dc/\n1.rc=n.rc/\n1.ws=n.ws/\n1.s=s':=by rw[ic];exact⟨rfl,hid.2.1,hid.1,rfl,rfl,rfl⟩
   obtain⟨p1,p2,p3,p4,p5,p6⟩:=p1;rw[<-p6] at kh;refine W.f0 [za b n lb hb sb vw,hl,hw,Fa hb n.rg v0,hh,Ja sb n.dc n.rc,hd,hs,R] ?_;repeat' first|refine ga ?_|refine gS (λ_=>?_) λ_=>?_|refine Uc λ_=>?_|refine al λ_=>?_|refine Vx hx ha ?_|refine WX.Ea (i:=2) (cs:=a.enc) (vs:=a.m.enc) rfl rfl rfl rfl ?_|refine Pg a.enc ?_|refine Pg m.enc ?_|refine Pg a.m.enc ?_|refine cq BP ?_|refine xg (Ir.enc ⟨0,0,Da.z⟩) a.enc ?_|refine xg Da.z.enc a.m.enc ?_|refine xg a.m.enc m.enc ?_
   rename_i Ph XV;refine ck kh ?_;rintro _ _ ⟨rfl,B6,rfl,j8⟩;repeat' first|refine Za ?_|refine gS (λ_=>?_) λ_=>?_|refine Uc λ_=>?_|refine al λ_=>?_|refine Pg a.enc ?_|refine Pg a.m.enc ?_
   refine ck kd ?_;rintro _ _ ⟨rfl,Jd,jg,rfl⟩;have jg:Cg n1 bd _ Jd:=jg;repeat' first|refine Za ?_|refine gS (λ_=>?_) λ_=>?_|refine Uc λ_=>?_|refine al λ_=>?_
   rw[e1];have xe:vf n1 b (za b n1 lb hb sb vw++(B6++(hw++(Fa hb n.rg v0++(hh++Ja sb n.dc n.rc))))):=vf.of p1 p2 p3 p4 j8 (by rw[p5];exact at_.ws) at_.hd;refine W.Vd [za b n1 lb hb sb vw,B6,hw,Fa hb n.rg v0,hh,Ja sb n.dc n.rc,Jd,hs,R] (H2:=[za b n1 lb hb sb vw++(B6++(hw++(Fa hb n.rg v0++(hh++Ja sb n.dc n.rc)))),Jd,hs,R]) (by simp) ?_;generalize za b n1 lb hb sb vw++(B6++(hw++(Fa hb n.rg v0++(hh++Ja sb n.dc n.rc))))=h2 at xe⊢
  case' inr.inr.inr=>
   have heq:(n1,ms)=(n,([]:List Da)):=heq.trans ((if_neg (by omega)).trans ((if_neg r2).trans ((if_neg r3).trans ((if_neg r4).trans (if_neg r5)))));obtain⟨ic,vG⟩:=Prod.mk.inj heq;subst vG;subst ic;have kd:=PU r1;have e0:=e0 (by omega);subst e0;have xe:=hm;by_cases g7:7<=a.k;all_goals try have g9: ¬a.k<=9:=by omega
   all_goals
    repeat' first|refine ga ?_|refine gS (λ_=>?_) λ_=>?_|refine Uc λ_=>?_|refine al λ_=>?_|refine Vx hx ha ?_|refine WX.Ea (i:=2) (cs:=a.enc) (vs:=a.m.enc) rfl rfl rfl rfl ?_|refine Pg a.enc ?_|refine Pg m.enc ?_|refine Pg a.m.enc ?_|refine cq BP ?_|refine xg (Ir.enc ⟨0,0,Da.z⟩) a.enc ?_|refine xg Da.z.enc a.m.enc ?_|refine xg a.m.enc m.enc ?_
    rename_i Ph XV;refine ck kd ?_;rintro _ _ ⟨rfl,Jd,jg,rfl⟩;have jg:Cg n1 bd _ Jd:=jg;simp only[can]
  all_goals
   repeat' first|refine ga ?_|refine gS (λ_=>?_) λ_=>?_|refine Uc λ_=>?_|refine al λ_=>?_
   obtain⟨lb,hb,sb,vw,hl,hw,v0,hh,rfl,at_⟩:=id xe;obtain⟨cb,d,w,u,hv,X,rfl,Ue⟩:=ua.Qv at_.lg;refine W.Vd [Ti b n1 lb hb sb vw (Pa n1 lb cb d w++(ja cb n1.c u++(hv++X))) hw v0 hh,Jd,hs,R] (H2:=[za b n1 lb hb sb vw,Pa n1 lb cb d w,ja cb n1.c u,hv,X,hw,Fa hb n1.rg v0,hh,Ja sb n1.dc n1.rc,Jd,hs,R]) (by simp) ?_
   refine W.lo (α:=Unit) (λ_=>True) (λ_=>[(1,nd),(2,v),(7,b),(9,bd),(11,.int .i64 (k:Int)),(13,.slice none ([]:List Da).length 0),(15,.int .i64 0)])
    (λ_=>[za b n1 lb hb sb vw,Pa n1 lb cb d w,ja cb n1.c u,hv,X,hw,Fa hb n1.rg v0,hh,Ja sb n1.dc n1.rc,Jd,hs,R]) (λ_=>0) () trivial ?_
   intro _ _;have hs1:ia 52 ([]:List Da) (.slice none ([]:List Da).length 0) []:=ia.nil _;have Z7:([]:List Da).length<=100000:=di _;repeat' first|refine ga ?_|refine gS (λ_=>?_) λ_=>?_|refine Uc λ_=>?_|refine al λ_=>?_
   refine D.Vd [za b n1 lb hb sb vw,Pa n1 lb cb d w,ja cb n1.c u,hv,X,hw,Fa hb n1.rg v0,hh,Ja sb n1.dc n1.rc,Jd,hs,R] (H2:=[Ti b n1 lb hb sb vw (Pa n1 lb cb d w++(ja cb n1.c u++(hv++X))) hw v0 hh,Jd,hs,R]) (by simp) ?_
   exact D.round (k+1,n1,Ti b n1 lb hb sb vw (Pa n1 lb cb d w++(ja cb n1.c u++(hv++X))) hw v0 hh,Jd) ⟨by first|omega|(simp only[];omega),o1.mono (by first|omega|(simp only[];omega)),o2.trans qn,xe,(by
    have e:(486:Int)+8000*(k:Nat)+8000=486+8000*((k+1:Nat):Int):=by omega
    simp only[];rw[<-e];exact jg)⟩ (by first|omega|(simp only[];omega)) (by repeat(first|exact Aa.nil|refine Aa.cons rfl ?_)) (Ia.qa inferInstance)
end
set_option maxRecDepth 100000 in
theorem Zv(os:Os)(started:os.Started)(H:Type)(enc:TypeId×Value->H):
  ReturnsInHanded {} checked os 3 .any (Rows.nodeTellsSpec.pre6 enc prog f3 Rows.nodeTellsRow.domain false) (Rows.nodeTellsSpec.post enc prog f3 false true false false):=by
 refine Ks (C:=checked) (tb:=4) Tryz.own started (by kernel_rfl) func3
  (ChangeSpec.witness6 (enc:=enc) (C:=checked) false ⟨#[], #[.agg #[.int .i64 0,.int .i64 0,.int .i64 0,.int .i64 0],.int .i64 0,.slice none 0 0],[]⟩ 8 (by kernel_rfl) (by kernel_rfl) (by kernel_rfl) (by kernel_rfl))
  Tryz.laidOut (by kernel_rfl) rfl underlying4 rfl (λds hd=>match ds,hd with|[_,_,_],_=>⟨rfl,rfl,rfl⟩) ?_
 intro W base args ds p Ww oX wJ;have hval:∀(j:Nat) t v,f3.params[j]? =some t->args[j]? =some v->Value.okWide prog W .any base t v:=Ww;have hA:DataW.TrodAll enc prog W 0 (λ_=>true) true f3.params.toList args.toList ds p:=oX;have jC:∀l∈DataW.weightsEach prog f3.params.toList ds,l<=reachBytes:=wJ;clear Ww oX wJ;rw[params3] at hA hval jC;obtain⟨v0,v1,v2,d0,d1,d2,p0,p1,p2,rfl,rfl,rfl,h0,h1,h2⟩:=ChangeShapes.trodAll_three hA;obtain⟨l,rfl,_⟩:=Mk 0 WL (hval 0 23 v0 rfl rfl) h0 (ze jC (i:=0) rfl rfl);obtain⟨nd,rfl,_⟩:=ZG (hval 1 3 v1 rfl rfl) h1;obtain⟨xs,hx,hxz,zy⟩:=Uv (by kernel_rfl) XL (hval 2 24 v2 rfl rfl) h2 (ze jC (i:=2) rfl rfl);exact Vv (kH hx.rs (YL zy) hxz)
def mH:(Rows.nodeTellsRow.inPlace==prog.inPlace 3)=true:=by kernel_rfl
def nH:(Rows.nodeTellsRow.unfollowed==prog.unfollowed 3)=true:=by kernel_rfl
def oH:(Rows.nodeTellsRow.recurses==prog.recurses 3)=true:=by kernel_rfl
def pH:(Rows.nodeTellsRow.named==prog.varsNamed 3)=true:=by kernel_rfl
def qH:laidOutB prog=true:=by kernel_rfl
def rH:mapsRowed prog=true:=by kernel_rfl
def sH:(Rows.nodeTellsRow.plainKeys==prog.plainKeys)=true:=by kernel_rfl
def tH:(Rows.nodeTellsRow.lifted==prog.liftsFinal)=true:=by kernel_rfl
def uH:prog.stopsHeard=true:=by kernel_rfl
def dw:joinedFacts prog 3 f3 Rows.nodeTellsSpec Rows.nodeTellsRow=true:=by
 unfold joinedFacts;rw[mH,nH,oH,pH,qH,rH,sH,tH,uH]
 kernel_rfl
theorem nodeTells_holds:Rows.NodeTellsSaid:=
 OpenClaim.holds_of_wide 3 f3 rfl rfl rfl rfl rfl rfl rfl ⟨rfl,rfl,rfl,rfl,rfl⟩ rfl rfl rfl rfl rfl (by kernel_rfl) func3 dw
  (of_decide_eq_true (by kernel_rfl)) (by unfold Func.isWrapper;first|(rw[if_pos (by decide+kernel)];kernel_rfl)|(rw[if_neg (by decide+kernel)];exact⟨rfl,rfl⟩))
  (λos started H enc _=>Zv os started H enc)
end Go.Proofs.YthebagfahkebiaaGreat
