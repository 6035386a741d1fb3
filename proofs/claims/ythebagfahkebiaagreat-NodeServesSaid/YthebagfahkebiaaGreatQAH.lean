/- Texts of one road. -/
import Derived.Test.YthebagfahkebiaaGreatQAF
import Derived.Test.YthebagfahkebiaaGreatQAG
set_option linter.all false
set_option maxHeartbeats 8000000
set_option maxRecDepth 20000
namespace Go.Proofs.YthebagfahkebiaaGreat
open Go Go.Sl Go.Proofs.Tryz List
variable{p:Pc}{k:Int}{fs vis:List Fl}
def tO(keep:Int)(p:Pc):Int:=if(if p.n<keep then p.n else keep)>0 then(if p.n<keep then p.n else keep) else 0
def gR{keep:Int}(h:0<=p.n):0<=tO keep p/\tO keep p<=p.n/\(tO keep p=0\/tO keep p<=keep):=by
 unfold tO;by_cases h1:p.n<keep
 .simp only[h1,if_true];split<;>omega
 .simp only[h1,if_false];split<;>omega
def Lm(s:List xd×Int×Int)(p:Pc):List xd×Int×Int:=
 (s.1.map λf=>if f.n=p.f then{f with s:=f.s+(tO s.2.1 p).toNat} else f,s.2.1 - tO s.2.1 p,s.2.2+(p.n - tO s.2.1 p))
namespace ze
def Oy(S:ze)(keep:Int)(ps:List Pc):List xd×Int×Int:=ps.foldl Lm (S.fs,keep,0)
def Pb(S:ze)(keep:Int):ze:={fs:=(S.Oy keep S.loose).1.map λf=>{f with b:=f.b.take f.s},loose:=[]}
def lost(S:ze)(keep:Int):Int:=(S.Oy keep S.loose).2.2
def iR(S:ze)(keep:Int){j:Nat}(h:S.loose[j]? =some p):S.Oy keep (S.loose.take (j+1))=Lm (S.Oy keep (S.loose.take j)) p:=by
 obtain⟨h1,h2⟩:=List.getElem?_eq_some_iff.1 h;unfold Oy;rw[take_succ_eq_append_getElem h1,h2,foldl_append];rfl
end ze
def pn(k:Int)(ps:List Pc):Int:=((ps.filter λp=>decide (p.f=k)).map (·.n)).sum
def ZZ(fs:List xd)(ps:List Pc):Prop:=(∀p∈ps,0<=p.n/\∃f∈fs,f.n=p.f)/\∀f∈fs,(f.s:Int)+pn f.n ps<=f.b.length
def uO{ps:List Pc}(h:∀p∈ps,0<=p.n):0<=pn k ps:=by
 unfold pn
 induction ps with
 |nil=>simp
 |cons p r ih=>
  have h1:=h p (zf ..);have h2:=ih λq hq=>h q (Rn _ hq);rw[filter_cons];split
  .simp only[map_cons,sum_cons];omega
  .exact h2
def HM{ps:List Pc}:pn k (p::ps)=(if p.f=k then p.n else 0)+pn k ps:=by
 unfold pn;rw[filter_cons];by_cases h:p.f=k
 .simp[h]
 .simp[h]
def ZZ.step{fs:List xd}{keep lost:Int}{ps:List Pc}(h:ZZ fs (p::ps)):ZZ (Lm (fs,keep,lost) p).1 ps:=by
 obtain⟨h1,h2⟩:=h;refine⟨λq hq=>?_,λf hf=>?_⟩
 .obtain⟨h3,f,hf,hn⟩:=h1 q (Rn _ hq);refine⟨h3,_,mem_map.2 ⟨f,hf,rfl⟩,?_⟩;split<;>exact hn
 .obtain⟨f0,Ox,rfl⟩:=mem_map.1 hf;have h3:=h2 f0 Ox;rw[HM] at h3;have h4:=gR (keep:=keep) (h1 p (zf ..)).1;by_cases hp:f0.n=p.f
  .rw[if_pos hp];rw[if_pos hp.symm] at h3;simp only[];omega
  .rw[if_neg hp];rw[if_neg (λe=>hp e.symm)] at h3;omega
def sI{S:ze}{c:Nat}{lv:Value}{lh:Hp}(hd:VU S c lv fs lh)(h:∃f∈S.fs,f.n=k):∃x,S.find k=some x:=by
 obtain⟨f,hf,hn⟩:=h
 cases hk:S.find k with
 |some x=>exact⟨x,rfl⟩
 |none=>
  unfold ze.find at hk;have:=List.find?_eq_none.1 hk f hf;simp[hn] at this
def Fl.cut(f:Fl):Fl:={f with b:=f.b.take f.s,l:=f.s}
def Bj(vis:List Fl)(fs:List Fl):List Fl:=fs.map λf=>if f.n∈vis.map (·.n) then f.cut else f
def jR(fs:List Fl):Bj [] fs=fs:=by
 unfold Bj;simp
def kR(h:∀f∈fs,f∈vis):Bj vis fs=fs.map Fl.cut:=by
 unfold Bj;apply map_congr_left;intro f hf;rw[if_pos (mem_map.2 ⟨f,h f hf,rfl⟩)]
def vO{pre post:List Fl}{f:Fl}(h1:∀x∈pre,x.n≠f.n)(h2:∀x∈post,x.n≠f.n)(hv:f.n∉vis.map (·.n)):
  Bj vis (pre++f::post)=Bj vis pre++f::Bj vis post/\Bj (vis++[f]) (pre++f::post)=Bj vis pre++f.cut::Bj vis post:=by
 have he:∀l:List Fl,(∀x∈l,x.n≠f.n)->Bj (vis++[f]) l=Bj vis l:=by
  intro l hl;unfold Bj;apply map_congr_left;intro x hx;have:=hl x hx;simp[this]
 constructor
 .unfold Bj;rw[Ae,map_cons,if_neg hv]
 .rw[<-he pre h1,<-he post h2];unfold Bj;rw[Ae,map_cons,if_pos (by simp)]
variable{fs:List Fl}{f:Fl}
def aX{pre post:List Fl}{c:Nat}(h:Er (fs.map Fl.me) c)(e:fs=pre++f::post):(∀x∈pre,x.n≠f.n)/\(∀x∈post,x.n≠f.n):=by
 have hks:=h.ks;rw[e] at hks;simp only[Ae,map_cons] at hks;rw[nodup_append] at hks;obtain⟨_,h2,h3⟩:=hks;rw[nodup_cons] at h2;exact⟨λx hx he=>h3 _ (mem_map.2 ⟨x.me,mem_map.2 ⟨x,hx,rfl⟩,rfl⟩) _ (zf ..) he,λx hx he=>h2.1 (mem_map.2 ⟨x.me,mem_map.2 ⟨x,hx,rfl⟩,he⟩)⟩
def kF.nn{vis:List Fl}{c:Nat}(h:kF fs vis)(hm:Er (fs.map Fl.me) c)(hf:f∈fs)(hv:f.me∉vis.map Fl.me):f.n∉vis.map (·.n):=by
 intro hc;obtain⟨x,hx,hn⟩:=mem_map.1 hc;obtain⟨rest,hp⟩:=h;have bX:x∈fs:=hp.mem_iff.1 (mem_append_left _ hx);obtain⟨pre,post,e⟩:=append_of_mem hf;obtain⟨h1,h2⟩:=aX hm e;rw[e] at bX;rcases mem_append.1 bX with bX|bX
 .exact h1 x bX hn
 .rcases mem_cons.1 bX with rfl|bX
  .exact hv (mem_map.2 ⟨x,hx,rfl⟩)
  .exact h2 x bX hn
def lR{S:ze}{d:Nat}{h:Hp}(hd:Od S d h){keep:Int}(Lt: -9223372036854775808<=keep)(hk2:keep<=9223372036854775807)(hw:ZZ S.fs S.loose)(hu:S.used<=1099511627776)(jg:S.loose.length<=1099511627776)(PK:(S.loose.map (·.n)).sum<=1099511627776):
  Ct prog 165 [d,keep] [h] (λr H'=>∃h',r= .int .i64 (S.lost keep)/\H'=[h']/\Od (S.Pb keep) d h'):=by
 obtain⟨m,c,lv,fs,lh,hd,rfl⟩:=hd;have hr:=hd.sl.rs;refine Ct.pack (pre:=[Ie d m lv,ke m fs c,lh,Bd fs]) (post:=λr H'=>∃Pt:List Fl,r= .int .i64 (S.lost keep)/\H'=[Ie d m (.slice none 0 0),ke m fs c,Bd (Pt.map Fl.cut)]/\Pt.map Fl.file=(S.Oy keep S.loose).1/\Pt.map Fl.me=fs.map Fl.me/\(∀f∈Pt,f.cut.ok)) ?_ (by simp) ?_
 .refine cr func165 λg R=>?_
  refine W.lo (α:=Nat×List Fl) (λx=>x.1<=S.loose.length/\VU {S with fs:=(S.Oy keep (S.loose.take x.1)).1} c lv x.2 lh/\x.2.map Fl.me=fs.map Fl.me/\ZZ (S.Oy keep (S.loose.take x.1)).1 (S.loose.drop x.1)/\
    (∀f∈x.2,f.b.length<=1099511627776)/\0<=(S.Oy keep (S.loose.take x.1)).2.2/\(S.Oy keep (S.loose.take x.1)).2.2+((S.loose.drop x.1).map (·.n)).sum<=1099511627776/\ -9223372036854775808<=(S.Oy keep (S.loose.take x.1)).2.1/\(S.Oy keep (S.loose.take x.1)).2.1<=9223372036854775807)
   (λx=>[(0,d),(1,.int .i64 (S.Oy keep (S.loose.take x.1)).2.1),(4,.int .i64 0),(5,.int .i64 (S.Oy keep (S.loose.take x.1)).2.2),(14,lv),(15,.int .i64 (S.loose.length:Int)),(16,.int .i64 (x.1:Int))]) (λx=>[Ie d m lv,ke m fs c,lh,Bd x.2,R]) (λx=>S.loose.length - x.1)
   (0,fs) ⟨Gi _,hd,rfl,hw,λf hf=>?_,by simp[ze.Oy],by simpa[ze.Oy] using PK,Lt,hk2⟩ ?_
  .have:f.file∈S.fs:=by rw[<-hd.fs];exact mem_map.2 ⟨f,hf,rfl⟩
   have:=Nt this;have e:f.file.b=f.b:=rfl;rw[e] at this;omega
  rintro⟨j,Pt⟩ ⟨hj,Bn,hme,hw1,QH,hl0,Pf,o6,hq1⟩;simp only[] at hj Bn hme hw1 QH hl0 Pf o6 hq1⊢;by_cases hlt:j<S.loose.length
  .obtain⟨p,hp⟩:=Sh hlt;have hs:=S.iR keep hp;obtain⟨h1,h2⟩:=List.getElem?_eq_some_iff.1 hp;have rQ:S.loose.drop j=p::S.loose.drop (j+1):=by rw[drop_eq_getElem_cons h1,h2]
   rw[rQ] at hw1 Pf;generalize cB:S.Oy keep (S.loose.take j)=s at*;obtain⟨F,K,Lo⟩:=s;simp only[] at hl0 Pf o6 hq1 hw1 Bn⊢;obtain⟨hpn,hpf⟩:=hw1.1 p (zf ..);have hQ:=gR (keep:=K) hpn;obtain⟨x,hx⟩:=sI Bn hpf;obtain⟨f,pre,post,rfl,rfl,hfn,hok,hp1,hp2,hv⟩:=Bn.has hx;rw[hme] at hv;have hfm:f.file∈F:=qI hx;have BU:=hw1.2 _ hfm;rw[HM,if_pos (show p.f=f.file.n from hfn.symm)] at BU;have hfp:0<=pn f.file.n (S.loose.drop (j+1)):=uO λq hq=>(hw1.1 q (Rn _ hq)).1;have BU:(f.s:Int)+(p.n+pn f.file.n (S.loose.drop (j+1)))<=f.b.length:=BU;have hfl:=QH f (by simp);obtain⟨q,hq⟩:∃q,q=tO K p:=⟨_,rfl⟩;have hqd:(if(if p.n<K then p.n else K)>0 then(if p.n<K then p.n else K) else 0)=q:=hq.symm
   have hps:0<=((S.loose.drop (j+1)).map (·.n)).sum:=by
    have:∀l:List Pc,(∀p∈l,0<=p.n)->0<=(l.map (·.n)).sum:=by
     intro l hl
     induction l with
     |nil=>simp
     |cons y r ih=>simp only[map_cons,sum_cons];have:=hl y (zf ..);have:=ih λz hz=>hl z (Rn _ hz);omega
    exact this _ λq hq=>(hw1.1 q (Rn _ hq)).1
   rw[map_cons,sum_cons] at Pf;rw[<-hq] at hQ;repeat' first|refine run ?_|refine al λ_=>?_
   rename_i b7;rw[hqd];refine W.flat (H':=[[(b7,.cells (List.toArray (Nb.enc p)) 245 (0,0))],Ie d m lv,ke m fs c,lh,Bd pre,Kq f.blk (.slice f.p f.l f.c) f.s,f.h,Bd post,R]) (by simp[Qd]) ?_;refine cX (ml [12]) [[(b7,.cells (List.toArray (Nb.enc p)) 245 (0,0))],Ie d m lv,ke m fs c,Kq f.blk (.slice f.p f.l f.c) f.s] ?_;try refine run ?_
   refine WX.lookup rfl rfl rfl ?_;rw[hv];try refine run ?_
   rw[show(f.s:Int)+q=((f.s+q.toNat:Nat):Int) from by omega];refine D.as 1 (.int .i64 (S.Oy keep (S.loose.take (j+1))).2.1) rfl (by rw[hs,hq];rfl) ?_;refine D.as 5 (.int .i64 (S.Oy keep (S.loose.take (j+1))).2.2) rfl (by rw[hs,hq];rfl) ?_;obtain⟨f',hf'⟩:∃f':Fl,f'={f with s:=f.s+q.toNat}:=⟨_,rfl⟩;have Q1:(pre++f'::post).map Fl.me=(pre++f::post).map Fl.me:=by rw[hf'];simp[Fl.me]
   have hon:(Lm (F,K,Lo) p).1=(pre++f'::post).map Fl.file:=by
    unfold Lm;simp only[];rw[<-hq,<-show(pre++f::post).map Fl.file=F from Bn.fs];exact DG hp1 hp2 hfn (by rw[hf'];rfl)
   refine D.flat (H':=[[(b7,.cells (List.toArray (Nb.enc p)) 245 (0,0))],Ie d m lv,ke m fs c,lh,Bd (pre++f'::post),R]) (by rw[Qd,hf'];simp only[flatten_cons,Oc,cons_append,nil_append]) ?_;refine D.rd (j+1,pre++f'::post) ⟨by omega,⟨by rw[Q1];exact Bn.mp,λx hx=>?_,by rw[hs,hon],Bn.sl⟩,by rw[Q1];exact hme,by rw[hs];exact hw1.step,λx hx=>?_,?_,?_,?_,?_⟩ (by simp only[];omega)
   .rcases mem_append.1 hx with hx|hx
    .exact Bn.ok x (mem_append_left _ hx)
    .rcases mem_cons.1 hx with rfl|hx
     .rw[hf'];exact hok
     .exact Bn.ok x (mem_append_right _ (Rn _ hx))
   .rcases mem_append.1 hx with hx|hx
    .exact QH x (mem_append_left _ hx)
    .rcases mem_cons.1 hx with rfl|hx
     .rw[hf'];exact hfl
     .exact QH x (mem_append_right _ (Rn _ hx))
   all_goals(rw[hs];simp only[Lm];rw[<-hq];omega)
  .obtain rfl:j=S.loose.length:=by omega
   have bV:ke m fs c=ke m Pt c:=by unfold ke;rw[hme]
   rw[take_length] at Bn hw1 hl0 Pf⊢;rw[drop_length] at hw1;rw[bV]
   have nI:∀f∈Pt,f.s<=f.b.length:=by
    intro f hf;have hm:f.file∈(S.Oy keep S.loose).1:=by rw[<-show Pt.map Fl.file=(S.Oy keep S.loose).1 from Bn.fs];exact mem_map.2 ⟨f,hf,rfl⟩
    have:=hw1.2 _ hm;have e:pn f.file.n []=0:=rfl;rw[e] at this;have h3:(f.s:Int)+0<=f.b.length:=this;omega
   try refine run ?_
   refine WX.range rfl rfl (λr=>?_);try refine run ?_
   refine W.loop (α:=List Fl) (λvis=>kF Pt vis) (λvis=>[(0,d),(4,.int .i64 0),(5,.int .i64 (S.Oy keep S.loose).2.2),(53,r)]) (λvis=>[[(r,Aj m c (vis.map Fl.me))],Ie d m lv,ke m Pt c,Bd (Bj vis Pt),R]) (λvis=>Pt.length - vis.length) [] (kF.start Pt) (by repeat(first|exact Ca.nil|refine Ca.cons rfl ?_)) (by rw[jR];show Ga _ [[(r,Aj m c [])],Ie d m lv,ke m Pt c,Bd Pt,R];exact(Ga.qa inferInstance)) ?_;intro vis hv;try refine run ?_
   refine WX.next rfl Bn.mp hv.mem rfl (λha=>?_) (λz hz YZ=>?_)
   .have hp:=hv.done Bn.mp ha;try refine run ?_
    rw[kR λf hf=>hp.mem_iff.2 hf];exact Wa [Ie d m (.slice none 0 0),ke m Pt c,Bd (Pt.map Fl.cut)] rfl rfl ⟨Pt,rfl,rfl,Bn.fs,hme,λf hf=>ia.to (Bn.ok f hf) (nI f hf)⟩
   .obtain⟨f,hf,rfl⟩:=mem_map.1 hz;obtain⟨IQ,hlt⟩:=hv.step hf YZ;have hnv:=hv.nn Bn.mp hf YZ;obtain⟨pre,post,QX⟩:=append_of_mem hf;obtain⟨hp1,hp2⟩:=aX Bn.mp QX;obtain⟨hc1,hc2⟩:=vO hp1 hp2 hnv;have m6:Bd (Bj vis Pt)=Bd (Bj vis pre)++(Kq f.blk (.slice f.p f.l f.c) f.s++(f.h++Bd (Bj vis post))):=by rw[QX,hc1,Qd]
    have y7:Bd (Bj (vis++[f]) Pt)=Bd (Bj vis pre)++(Kq f.blk (.slice f.p f.s f.c) f.s++(f.h++Bd (Bj vis post))):=by rw[QX,hc2,Qd];rfl
    have hrf:Rs f.b (.slice f.p f.l f.c) f.h:=(Bn.ok f hf).rs;have R1:=nI f hf;refine WX.flat (H':=[[(r,Aj m c (vis.map Fl.me++[f.me]))],Ie d m lv,ke m Pt c,Bd (Bj vis pre),Kq f.blk (.slice f.p f.l f.c) f.s,f.h,Bd (Bj vis post),R]) (by simp[m6]) ?_;try refine run ?_
    refine WX.entry (vis:=vis.map Fl.me) (z:=f.me) rfl Bn.mp (mem_map.2 ⟨f,hf,rfl⟩) rfl ?_;try refine run ?_
    refine cX (ml [10]) [Kq f.blk (.slice f.p f.l f.c) f.s] ?_;try refine run ?_
    rw[show qo (.slice f.p f.l f.c) f.s= .slice f.p f.s f.c from rfl];refine D.flat (H':=[[(r,Aj m c ((vis++[f]).map Fl.me))],Ie d m lv,ke m Pt c,Bd (Bj (vis++[f]) Pt),R]) (by simp[y7]) ?_;exact D.rd (vis++[f]) IQ (by simp only[Cb,Gb,jd];omega)
 .rintro r _ ⟨Pt,e1,rfl,e2,e3,e4⟩;have hme:(Pt.map Fl.cut).map Fl.me=fs.map Fl.me:=by rw[<-e3,map_map];rfl
  have bV:ke m (Pt.map Fl.cut) c=ke m fs c:=by unfold ke;rw[hme]
  refine⟨[Ie d m (.slice none 0 0)++(ke m (Pt.map Fl.cut) c++([]++Bd (Pt.map Fl.cut)))],by rw[bV];simp,_,e1,rfl,m,c,_,Pt.map Fl.cut,[],⟨by rw[hme];exact hd.mp,λx hx=>?_,?_,ia.nil _⟩,rfl⟩
  .obtain⟨f,hf,rfl⟩:=mem_map.1 hx;exact e4 f hf
  .unfold ze.Pb;simp only[];rw[<-e2,map_map,map_map];rfl
end Go.Proofs.YthebagfahkebiaaGreat
namespace Go.Sl
open Go List
variable{g:World}{P:Program}{Q:Exit->Act->World->Prop}{n:Nat}{L:Fm}{H H':HH}{ops:Array Oper}{rest:List Oper}
def W.hp{c:Code}(e:H=H')(k:W g P c Q n L H'):W g P c Q n L H:=e▸k
def WX.hp{q:Bool}(e:H=H')(k:WX q g P ops Q n rest L H'):WX q g P ops Q n rest L H:=e▸k
def W.h0{c:Code}(H':HH)(k:W g P c Q n L H')(e:H=H':=by exact rfl):W g P c Q n L H:=e▸k
def WX.h0{q:Bool}(H':HH)(k:WX q g P ops Q n rest L H')(e:H=H':=by exact rfl):WX q g P ops Q n rest L H:=e▸k
end Go.Sl
namespace Go.Proofs.YthebagfahkebiaaGreat
open Go Go.Sl Go.Proofs.Tryz List
def Rec.known(r:Rec):Bool:=decide (r.k=1\/r.k=2\/r.k=3)
def Cd.seen(C:Cd)(r:Rec):Cd:={C with arg:=(C.arg|| !r.known)|| !decide (r.bare=r)}
def Jp.seen{C:Cd}{r:Rec}{v:Value}{h:Hp}(k:Jp C v h):Jp (C.seen r) v h:=⟨k.r,k.w,k.l⟩
def Gx.get{C C':Cd}{vs vs':List Value}{it:It}(h:Gx C vs it C' vs'){j:Nat}(hj:j≠it.o):vs'[j]? =vs[j]? :=by
 cases h with
 |w hr hv ok=>rfl
 |r hr hv OE ok he hd=>exact List.getElem?_set_ne (λe=>hj e.symm)
def ej.get{C C':Cd}{vs vs':List Value}{Uc:List It}(h:ej C vs Uc C' vs'){j:Nat}(hj:∀it∈Uc,j≠it.o):vs'[j]? =vs[j]? :=by
 induction h with
 |nil=>rfl
 |cons h t ih=>exact(ih λx hx=>hj x (Rn _ hx)).trans (h.get (hj _ (zf ..)))
def ahead{Uc:List It}{j:Nat}(h:Uc.all (λit=>decide (j≠it.o))=true):∀it∈Uc,j≠it.o:=λit hit=>of_decide_eq_true (all_eq_true.1 h it hit)
theorem Rec.oA(k:Int)(e:ya)(c:Va)(b:Int):((Rec.enc ⟨k,e,c,b⟩).drop 1).take 20=e.enc:=rfl
theorem Rec.iT(k:Int)(e:ya)(c:Va)(b:Int):((Rec.enc ⟨k,e,c,b⟩).drop 21).take 13=c.enc:=rfl
def Rec.Lw(k:Int)(e e':ya)(c:Va)(b:Int):setAt (Rec.enc ⟨k,e,c,b⟩) 1 e'.enc=Rec.enc ⟨k,e',c,b⟩:=by
 have h1:Rec.enc ⟨k,e,c,b⟩=([.int .i64 k]++e.enc)++(c.enc++[.int .i64 b]):=rfl;rw[h1,tc _ _ _ _ (Nat.le_refl 21),Sf e'.enc e.enc 1 [.int .i64 k] rfl rfl];rfl
def Rec.tJ(k:Int)(e:ya)(c c':Va)(b:Int):setAt (Rec.enc ⟨k,e,c,b⟩) 21 c'.enc=Rec.enc ⟨k,e,c',b⟩:=by
 have h1:Rec.enc ⟨k,e,c,b⟩=(([.int .i64 k]++e.enc)++c.enc)++[.int .i64 b]:=rfl;rw[h1,tc _ _ _ _ (Nat.le_refl 34),Sf c'.enc c.enc 21 ([Value.int .i64 k]++e.enc) rfl rfl];rfl
theorem Rec.SN(k:Int)(e:ya)(c:Va)(b k':Int):(Rec.enc ⟨k,e,c,b⟩).set 0 (k')=Rec.enc ⟨k',e,c,b⟩:=rfl
theorem Rec.jT(k:Int)(e:ya)(c:Va)(b b':Int):(Rec.enc ⟨k,e,c,b⟩).set 34 (b')=Rec.enc ⟨k,e,c,b'⟩:=rfl
theorem Rec.taa(r:Rec):r.enc[0]? =some (.int .i64 r.k):=rfl
theorem Rec.uaa(r:Rec):r.enc[34]? =some (.int .i64 r.base):=rfl
theorem Rec.vaa(r:Rec):r.enc.length=35:=rfl
theorem ya.Xo(e:ya):e.enc.length=20:=rfl
theorem Va.BJ(e:Va):e.enc.length=13:=rfl
theorem ya.one(e:ya):Pd e.enc=true:=rfl
theorem Va.one(e:Va):Pd e.enc=true:=rfl
theorem Rec.one(e:Rec):Pd e.enc=true:=rfl
def oG{C C1:Cd}{r0 r:Rec}(hrun:ej C r0.enc (Rec.Uc r.k) C1 r.enc){v:Value}{h:Hp}(hok:Jp C v h)(hl:C1.b.length<=1099511627776){c b:Nat}:
  Ct prog 233 [c,b] [nr c C v,[(b,.cells r0.enc.toArray 140 (0,0))],h] (dx c b 140 C (C1.seen r) v h r.enc []):=by
 obtain⟨B1,p1,MH,Ro,arg1,Ei⟩:=C1;obtain⟨k,e,cf,bs⟩:=r;simp only[] at hrun hl;have hb0:Rec.bare ⟨k,e,cf,bs⟩=if k=1 then⟨1,e,Va.z,0⟩ else if k=2 then⟨2,ya.z,cf,bs⟩ else⟨k,ya.z,Va.z,0⟩:=rfl
 by_cases h1:k=1
 .subst h1
  have hs:Cd.seen ⟨B1,p1,MH,Ro,arg1,Ei⟩ ⟨1,e,cf,bs⟩=⟨B1,p1,MH,Ro,arg1|| !decide (Rec.mk 1 e Va.z 0=⟨1,e,cf,bs⟩),Ei⟩:=by
   unfold Cd.seen;rw[hb0,if_pos rfl];simp[Rec.known]
  have hcmp:=rec_eq ⟨1,e,Va.z,0⟩ ⟨1,e,cf,bs⟩;unfold Rec.Uc at hrun;rw[if_pos rfl] at hrun;obtain⟨C0,AK,q1,q2⟩:=hrun.split;have Lt:AK[0]? =some (.int .i64 1):=by rw[<-q2.get (ahead rfl)];rfl
  have hl0:=Nat.le_trans q2.facts.2.1 hl;have dQ:=q1.facts.1;refine ce func233 λg R=>?_;repeat' first|refine rn ?_|refine al λ_=>?_
  rename_i nb;refine WX.h0 [[(nb,.cells (Rec.enc ⟨r0.k,ya.z,Va.z,0⟩).toArray 140 (0,0))],nr c C v,[(b,.cells r0.enc.toArray 140 (0,0))],h,R] ?_;refine ck (Tm (c:=c) (b:=b) (T:=140) (o:=0) q1.one hok hl0) ?_;rintro _ _ ⟨v1,m1,rfl,Bh,Bp⟩;repeat' first|refine rn ?_|refine WX.load rfl Lt rfl ?_
  refine ck (qU (c:=c) (b:=b) (T:=140) (o:=1) q2 Bh hl) ?_;rintro _ _ ⟨v2,m2,rfl,Oj,Kj⟩;simp only[can];repeat' first|apply go|refine mv ?_|refine nc ?_|refine fa ?_
  refine WX.Fa (b:=b) (i:=1) (cs:=Rec.enc ⟨1,e,cf,bs⟩) (vs:=e.enc) rfl (Rec.oA _ _ _ _) rfl rfl ?_;refine fa ?_;refine WX.Yc (vs:=e.enc) (b:=nb) (i:=1) (cs:=Rec.enc ⟨r0.k,ya.z,Va.z,0⟩) rfl rfl rfl (ya.Xo _) (ya.one _) rfl ?_;rw[Rec.Lw];refine WX.nil ?_;repeat' first|apply go|refine mv ?_|refine nc ?_|refine fa ?_
  refine WX.load (v:= .int .i64 1) (b:=b) (i:=0) (cs:=Rec.enc ⟨1,e,cf,bs⟩) rfl rfl rfl ?_;refine fa ?_;refine WX.store (b:=nb) (i:=0) (cs:=Rec.enc ⟨r0.k,e,Va.z,0⟩) rfl rfl rfl rfl ?_;rw[Rec.SN];refine WX.nil ?_;repeat' apply go
  refine cX (ml [12]) [Qq c v2 p1 MH Ro arg1 Ei,[(nb,.cells (Rec.enc ⟨1,e,Va.z,0⟩).toArray 140 (0,0))],[(b,.cells (Rec.enc ⟨1,e,cf,bs⟩).toArray 140 (0,0))]] ?_
  cases arg1 with
  |true=>
   try refine run ?_
   exact D.Bc [Qq c v2 p1 MH Ro true Ei,[(b,.cells (Rec.enc ⟨1,e,cf,bs⟩).toArray 140 (0,0))],m2] _ rfl ⟨v2,m2,by rw[hs]<;>rfl,Oj.seen,Wd dQ Bp Kj⟩
  |false=>
   repeat' first|refine Xm nb 0 (Rec.enc ⟨1,e,Va.z,0⟩) (Rec.enc ⟨1,e,Va.z,0⟩) ?_|refine Xm b 0 (Rec.enc ⟨1,e,cf,bs⟩) (Rec.enc ⟨1,e,cf,bs⟩) ?_|refine WX.xl rfl rfl hcmp rfl ?_|refine om ?_|fail
   exact D.Bc [Qq c v2 p1 MH Ro (!decide ((⟨1,e,Va.z,0⟩:Rec)=⟨1,e,cf,bs⟩)) Ei,[(b,.cells (Rec.enc ⟨1,e,cf,bs⟩).toArray 140 (0,0))],m2] _ rfl ⟨v2,m2,by rw[hs];rfl,Oj.seen,Wd dQ Bp Kj⟩
 by_cases h2:k=2
 .subst h2
  have hs:Cd.seen ⟨B1,p1,MH,Ro,arg1,Ei⟩ ⟨2,e,cf,bs⟩=⟨B1,p1,MH,Ro,arg1|| !decide (Rec.mk 2 ya.z cf bs=⟨2,e,cf,bs⟩),Ei⟩:=by
   unfold Cd.seen;rw[hb0,if_neg h1,if_pos rfl];simp[Rec.known]
  have hcmp:=rec_eq ⟨2,ya.z,cf,bs⟩ ⟨2,e,cf,bs⟩;unfold Rec.Uc at hrun;rw[if_neg h1,if_pos rfl] at hrun;obtain⟨C0,AK,q1,hrun⟩:=hrun.split;obtain⟨C2,MT,q2,q3⟩:=hrun.split;have Lt:AK[0]? =some (.int .i64 2):=by rw[<-q2.get (ahead rfl),<-q3.get (ahead rfl)];rfl
  have Vy:=Nat.le_trans q3.facts.2.1 hl;have hl0:=Nat.le_trans q2.facts.2.1 Vy;have dQ:=q1.facts.1;have R5:=q2.facts.1.trans dQ;refine ce func233 λg R=>?_;repeat' first|refine rn ?_|refine al λ_=>?_
  rename_i nb;refine WX.h0 [[(nb,.cells (Rec.enc ⟨r0.k,ya.z,Va.z,0⟩).toArray 140 (0,0))],nr c C v,[(b,.cells r0.enc.toArray 140 (0,0))],h,R] ?_;refine ck (Tm (c:=c) (b:=b) (T:=140) (o:=0) q1.one hok hl0) ?_;rintro _ _ ⟨v1,m1,rfl,Bh,Bp⟩;repeat' first|refine rn ?_|refine WX.load rfl Lt rfl ?_
  refine ck (oU (c:=c) (b:=b) (T:=140) (o:=21) q2 Bh Vy) ?_;rintro _ _ ⟨v3,m3,rfl,kX,nG⟩;refine rn ?_;refine ck (Tm (c:=c) (b:=b) (T:=140) (o:=34) q3.one kX hl) ?_;rintro _ _ ⟨v2,m2,rfl,Oj,Kj⟩;simp only[can];repeat' apply go
  refine cX (ml [9,1]) [[(b,.cells (Rec.enc ⟨2,e,cf,bs⟩).toArray 140 (0,0))]] ?_;repeat' first|refine WX.Fa (b:=b) (i:=21) (cs:=Rec.enc ⟨2,e,cf,bs⟩) (vs:=cf.enc) rfl (Rec.iT _ _ _ _) rfl rfl ?_|refine WX.load (v:= .int .i64 bs) (b:=b) (i:=34) (cs:=Rec.enc ⟨2,e,cf,bs⟩) rfl rfl rfl ?_|(refine I.st ?_;refine WX.Yc (vs:=cf.enc) (b:=nb) (i:=21) (cs:=Rec.enc ⟨r0.k,ya.z,Va.z,0⟩) rfl rfl rfl (Va.BJ _) (Va.one _) rfl ?_;rw[Rec.tJ])|(refine I.st ?_;refine WX.store (v:= .int .i64 bs) (b:=nb) (i:=34) (cs:=Rec.enc ⟨r0.k,ya.z,cf,0⟩) rfl rfl rfl rfl ?_;rw[Rec.jT];refine WX.nil ?_)|refine om ?_|fail
  rw[Rec.SN];refine cX (ml [12]) [Qq c v2 p1 MH Ro arg1 Ei,[(nb,.cells (Rec.enc ⟨2,ya.z,cf,bs⟩).toArray 140 (0,0))],[(b,.cells (Rec.enc ⟨2,e,cf,bs⟩).toArray 140 (0,0))]] ?_
  cases arg1 with
  |true=>
   try refine run ?_
   exact D.Bc [Qq c v2 p1 MH Ro true Ei,[(b,.cells (Rec.enc ⟨2,e,cf,bs⟩).toArray 140 (0,0))],m2] _ rfl ⟨v2,m2,by rw[hs]<;>rfl,Oj.seen,Wd R5 (Wd dQ Bp nG) Kj⟩
  |false=>
   repeat' first|refine Xm nb 0 (Rec.enc ⟨2,ya.z,cf,bs⟩) (Rec.enc ⟨2,ya.z,cf,bs⟩) ?_|refine Xm b 0 (Rec.enc ⟨2,e,cf,bs⟩) (Rec.enc ⟨2,e,cf,bs⟩) ?_|refine WX.xl rfl rfl hcmp rfl ?_|refine om ?_|fail
   exact D.Bc [Qq c v2 p1 MH Ro (!decide ((⟨2,ya.z,cf,bs⟩:Rec)=⟨2,e,cf,bs⟩)) Ei,[(b,.cells (Rec.enc ⟨2,e,cf,bs⟩).toArray 140 (0,0))],m2] _ rfl ⟨v2,m2,by rw[hs];rfl,Oj.seen,Wd R5 (Wd dQ Bp nG) Kj⟩
 have hi:Rec.Uc k=[.num 0]:=by unfold Rec.Uc;rw[if_neg h1,if_neg h2]
 have QH:Rec.bare ⟨k,e,cf,bs⟩=⟨k,ya.z,Va.z,0⟩:=by rw[hb0,if_neg h1,if_neg h2]
 rw[hi] at hrun;by_cases h3:k=3
 .subst h3
  have hs:Cd.seen ⟨B1,p1,MH,Ro,arg1,Ei⟩ ⟨3,e,cf,bs⟩=⟨B1,p1,MH,Ro,arg1|| !decide (Rec.mk 3 ya.z Va.z 0=⟨3,e,cf,bs⟩),Ei⟩:=by
   unfold Cd.seen;rw[QH];simp[Rec.known]
  have hcmp:=rec_eq ⟨3,ya.z,Va.z,0⟩ ⟨3,e,cf,bs⟩;refine ce func233 λg R=>?_;repeat' first|refine rn ?_|refine al λ_=>?_
  rename_i nb;refine WX.h0 [[(nb,.cells (Rec.enc ⟨r0.k,ya.z,Va.z,0⟩).toArray 140 (0,0))],nr c C v,[(b,.cells r0.enc.toArray 140 (0,0))],h,R] ?_;refine ck (Tm (c:=c) (b:=b) (T:=140) (o:=0) hrun.one hok hl) ?_;rintro _ _ ⟨v2,m2,rfl,Oj,Kj⟩;simp only[can];repeat' first|refine WX.load (v:= .int .i64 3) (b:=b) (i:=0) (cs:=Rec.enc ⟨3,e,cf,bs⟩) rfl rfl rfl ?_|refine om ?_|fail
  rw[Rec.SN];refine cX (ml [12]) [Qq c v2 p1 MH Ro arg1 Ei,[(nb,.cells (Rec.enc ⟨3,ya.z,Va.z,0⟩).toArray 140 (0,0))],[(b,.cells (Rec.enc ⟨3,e,cf,bs⟩).toArray 140 (0,0))]] ?_
  cases arg1 with
  |true=>
   try refine run ?_
   exact D.Bc [Qq c v2 p1 MH Ro true Ei,[(b,.cells (Rec.enc ⟨3,e,cf,bs⟩).toArray 140 (0,0))],m2] _ rfl ⟨v2,m2,by rw[hs]<;>rfl,Oj.seen,Kj⟩
  |false=>
   repeat' first|refine Xm nb 0 (Rec.enc ⟨3,ya.z,Va.z,0⟩) (Rec.enc ⟨3,ya.z,Va.z,0⟩) ?_|refine Xm b 0 (Rec.enc ⟨3,e,cf,bs⟩) (Rec.enc ⟨3,e,cf,bs⟩) ?_|refine WX.xl rfl rfl hcmp rfl ?_|refine om ?_|fail
   exact D.Bc [Qq c v2 p1 MH Ro (!decide ((⟨3,ya.z,Va.z,0⟩:Rec)=⟨3,e,cf,bs⟩)) Ei,[(b,.cells (Rec.enc ⟨3,e,cf,bs⟩).toArray 140 (0,0))],m2] _ rfl ⟨v2,m2,by rw[hs];rfl,Oj.seen,Kj⟩
 .have hs:Cd.seen ⟨B1,p1,MH,Ro,arg1,Ei⟩ ⟨k,e,cf,bs⟩=⟨B1,p1,MH,Ro,true,Ei⟩:=by
   unfold Cd.seen;simp[Rec.known,h1,h2,h3]
  refine ce func233 λg R=>?_;repeat' first|refine rn ?_|refine al λ_=>?_
  rename_i nb;refine WX.h0 [[(nb,.cells (Rec.enc ⟨r0.k,ya.z,Va.z,0⟩).toArray 140 (0,0))],nr c C v,[(b,.cells r0.enc.toArray 140 (0,0))],h,R] ?_;refine ck (Tm (c:=c) (b:=b) (T:=140) (o:=0) hrun.one hok hl) ?_;rintro _ _ ⟨v2,m2,rfl,Oj,Kj⟩;simp only[can];repeat' first|refine WX.load (v:= .int .i64 k) (b:=b) (i:=0) (cs:=Rec.enc ⟨k,e,cf,bs⟩) rfl rfl rfl ?_|refine om ?_|fail
  rw[Rec.SN];refine cX (ml [12]) [Qq c v2 p1 MH Ro true Ei,[(nb,.cells (Rec.enc ⟨k,ya.z,Va.z,0⟩).toArray 140 (0,0))],[(b,.cells (Rec.enc ⟨k,e,cf,bs⟩).toArray 140 (0,0))]] ?_;try refine run ?_
  exact D.Bc [Qq c v2 p1 MH Ro true Ei,[(b,.cells (Rec.enc ⟨k,e,cf,bs⟩).toArray 140 (0,0))],m2] _ rfl ⟨v2,m2,by rw[hs]<;>rfl,Oj.seen,Kj⟩
variable{vs:List Value}{r:Rec}
def Rec.w(r:Rec):Cd:=((Rec.Uc r.k).foldl (Sd r.enc) {}).seen r
def Rec.code(r:Rec):Int:=(Yh r.w).2
def Rec.fr(r:Rec):List UInt8:=(Yh r.w).1
def Rec.body(r:Rec):List UInt8:=sj r.enc (Rec.Uc r.k)
def Om:Value->Nat
 | .string s=>s.data.toList.length
 |_=>0
def wt(vs:List Value):It->Nat
 | .xj o _=>((vs[o]?).map Om).getD 0
 |_=>0
def tl(u:Value):It->Nat
 | .xj _ _=>Om u
 |_=>0
def jA{it:It}{u:Value}(hs:Om u<=1073741824):((encI it u).getD []).length<=9+tl u it:=by
 cases it<;>cases u<;>simp only[tl,encI,Option.getD_none,jd,Gi]
 case num.int o kd n=>
  cases kd<;>simp only[encI,Option.getD_none,jd,Gi];split
  .simp
  .have:=kA (n:=n.toNat) (by omega);simp only[Option.getD_some];omega
 case xj.string o m s=>
  have:=kA (n:=s.data.toList.length) (by simp only[Om] at hs;omega);simp only[Om,Option.getD_some,Cb];omega
 case Sn.bool o t=>
  have:=kA (n:=if t=true then 1 else 0) (by split<;>omega);simp only[Option.getD_some];omega
def pG:∀{Uc:List It} {C:Cd},(∀it∈Uc,Hq vs it)->(∀it∈Uc,wt vs it<=1073741824)->(Uc.foldl (Sd vs) C).b.length<=C.b.length+9*Uc.length+(Uc.map (wt vs)).sum:=by
 intro Uc
 induction Uc with
 |nil=>intro C _ _;simp
 |cons it r ih=>
  intro C ht hw;obtain⟨u,hu,ok⟩:=ht it (zf ..);have h1:=hw it (zf ..);have h2:=ih (C:=Sd vs C it) (λx hx=>ht x (Rn _ hx)) (λx hx=>hw x (Rn _ hx))
  have h3:(Sd vs C it).b.length<=C.b.length+9+wt vs it:=by
   have hs:Om u<=1073741824:=by
    cases it with
    |num o=>obtain⟨n,rfl⟩:=ok;simp[Om]
    |Sn o=>obtain⟨n,rfl⟩:=ok;simp[Om]
    |xj o m=>simp only[wt,It.o] at h1 hu;rw[hu] at h1;exact h1
   have h4:=jA (it:=it) hs
   have h5:tl u it=wt vs it:=by
    cases it with
    |num o=>rfl
    |Sn o=>rfl
    |xj o m=>simp only[It.o] at hu;simp only[wt,hu];rfl
   rw[h5] at h4;unfold Sd;rw[hu];simp only[Cb];omega
  simp only[foldl_cons,Gb,map_cons,sum_cons];omega
def sU:∀{Uc:List It} {C:Cd},(∀it∈Uc,Hq vs it)->(Uc.foldl (Sd vs) C).arg=false->(Uc.foldl (Sd vs) C).Ad=false->
  C.arg=false/\C.Ad=false/\∀it∈Uc,∃u e,vs[it.o]? =some u/\EX it u/\encI it u=some e/\Gj it u=false:=by
 intro Uc
 induction Uc with
 |nil=>intro C _ h1 h2;exact⟨h1,h2,by simp⟩
 |cons it r ih=>
  intro C ht h1 h2;obtain⟨u,hu,ok⟩:=ht it (zf ..);obtain⟨h3,h4,h5⟩:=ih (C:=Sd vs C it) (λx hx=>ht x (Rn _ hx)) h1 h2;unfold Sd at h3 h4;rw[hu] at h3 h4;simp only[Bool.or_eq_false_iff] at h3 h4;refine⟨h3.1,h4.1,λx hx=>?_⟩;rcases mem_cons.1 hx with rfl|hx
  .cases he:encI x u with
   |none=>simp[he] at h3
   |some e=>exact⟨u,e,hu,ok,he,h4.2⟩
  .exact h5 x hx
def Rec.size(r:Rec):Nat:=r.e.key.data.toList.length+r.e.val.data.toList.length
def Rec.tU(r:Rec):((Rec.Uc r.k).map (wt r.enc)).sum<=r.size:=by
 obtain⟨k,e,c,b⟩:=r;unfold Rec.Uc Rec.size;by_cases h1:k=1
 .simp only[h1,if_true];have:([It.num 0]++Bx 1).map (wt (Rec.enc ⟨1,e,c,b⟩))=[0,0,0,0,0,0,0,e.key.data.toList.length,e.val.data.toList.length,0,0,0,0,0,0,0,0,0,0,0,0]:=rfl;rw[this];simp
 .by_cases h2:k=2
  .simp only[h2,if_true,show ¬((2:Int)=1) from by decide,if_false];have:([It.num 0]++(vH 21++[It.num 34])).map (wt (Rec.enc ⟨2,e,c,b⟩))=[0,0,0,0,0,0,0,0,0,0,0,0,0,0,0]:=rfl;rw[this];simp
  .simp only[h1,h2,if_false];have:[It.num 0].map (wt (Rec.enc ⟨k,e,c,b⟩))=[0]:=rfl;rw[this];simp
def Mo{l:List Nat}{x:Nat}(h:x∈l):x<=l.sum:=by
 induction l with
 |nil=>cases h
 |cons y r ih=>
  rw[sum_cons];rcases mem_cons.1 h with rfl|h
  .omega
  .have:=ih h;omega
def Rec.TN(k:Int):(Rec.Uc k).length<=21:=by
 unfold Rec.Uc;split
 .exact Nat.le_refl _
 .split
  .decide
  .decide
def Rec.S5(r:Rec)(h:r.size<=1073741824):r.w.b.length<=189+r.size:=by
 have h1:=pG (vs:=r.enc) (Uc:=Rec.Uc r.k) (C:={}) (r.typed r.k) (λit hit=>by
  have:=Mo (mem_map.2 ⟨it,hit,rfl⟩:wt r.enc it∈(Rec.Uc r.k).map (wt r.enc));have:=r.tU;omega)
 have h2:=r.tU;have h3:=Rec.TN r.k;have h4:r.w.b.length=((Rec.Uc r.k).foldl (Sd r.enc) {}).b.length:=rfl;have h5:({}:Cd).b.length=0:=rfl;omega
def Rec.TW(r:Rec):ej {} r.enc (Rec.Uc r.k) ((Rec.Uc r.k).foldl (Sd r.enc) {}) r.enc:=Go.Proofs.YthebagfahkebiaaGreat.TW rfl (r.typed r.k)
structure Rec.Good(r:Rec):Prop where
 Uc:∀it∈Rec.Uc r.k,∃u e,r.enc[it.o]? =some u/\EX it u/\encI it u=some e/\Gj it u=false
 bare:r.bare=r
 known:r.known=true
 w:r.w={b:=r.body}
 fr:r.fr=frame r.body
def Rec.good(h:r.code=0):r.Good:=by
 have h1:r.w.arg=false:=by
  cases ha:r.w.arg with
  |false=>rfl
  |true=>unfold Rec.code Yh at h;rw[if_pos ha] at h;exact absurd h (by decide)
 have h2:r.w.Ad=false:=by
  cases ha:r.w.Ad with
  |false=>rfl
  |true=>unfold Rec.code Yh at h;rw[if_neg (by rw[h1];decide),if_pos ha] at h;exact absurd h (by decide)
 have h3:r.w.arg=((((Rec.Uc r.k).foldl (Sd r.enc) {}).arg|| !r.known)|| !decide (r.bare=r)):=rfl;have h4:r.w.Ad=((Rec.Uc r.k).foldl (Sd r.enc) {}).Ad:=rfl;rw[h3] at h1;simp only[Bool.or_eq_false_iff,Bool.not_eq_false',decide_eq_true_eq] at h1;rw[h4] at h2;obtain⟨-,-,h5⟩:=sU (r.typed r.k) h1.1.1 h2;have h6:=P5 (vs:=r.enc) (Uc:=Rec.Uc r.k) (C:={}) (λit hit=>by obtain⟨u,e,a,b,c,d⟩:=h5 it hit;exact⟨u,e,a,c,d⟩)
 have h7:r.w={b:=r.body}:=by
  unfold Rec.w Cd.seen;rw[h6,h1.1.2,h1.2];simp[Rec.body]
 exact⟨h5,h1.2,h1.1.2,h7,by unfold Rec.fr Yh;rw[h7];rfl⟩
def Rec.Good.sz(g:r.Good):r.size<=48:=by
 obtain⟨k,e,c,b⟩:=r;have hb:=g.bare;have hi:=g.Uc;unfold Rec.size;by_cases h1:k=1
 .subst h1;unfold Rec.Uc at hi;simp only[if_true] at hi;obtain⟨u,w,a1,a2,a3,a4⟩:=hi (.xj 7 16) (by simp[Bx]);obtain⟨u',w',b1,b2,b3,b4⟩:=hi (.xj 8 32) (by simp[Bx]);cases(Option.some.inj a1:Value.string e.key=u);cases(Option.some.inj b1:Value.string e.val=u');simp only[Gj,decide_eq_false_iff_not,Nat.not_lt] at a4 b4;simp only[];omega
 .have:e=ya.z:=by
   unfold Rec.bare at hb;simp only[h1,if_false] at hb;by_cases h2:k=2
   .simp only[h2,if_true,Rec.mk.injEq] at hb;exact hb.2.1.symm
   .simp only[h2,if_false,Rec.mk.injEq] at hb;exact hb.2.1.symm
  subst this;show(0:Nat)<=48;omega
def Rec.Good.len(g:r.Good):r.body.length<=237:=by
 have hs:((Rec.Uc r.k).map (wt r.enc)).sum<=48/\(∀it∈Rec.Uc r.k,wt r.enc it<=1073741824):=by
  have hx:∀it∈Rec.Uc r.k,wt r.enc it<=(match it with| .xj _ m=>m|_=>0):=by
   intro it hit;obtain⟨u,e,h1,h2,h3,h4⟩:=g.Uc it hit
   cases it with
   |num o=>exact Gi _
   |Sn o=>exact Gi _
   |xj o m=>
    obtain⟨s,rfl⟩:=h2;simp only[Gj,decide_eq_false_iff_not,Nat.not_lt] at h4;simp only[It.o] at h1;simp only[wt,h1];exact h4
  have hm:((Rec.Uc r.k).map (λit=>match it with|It.xj _ m=>m|_=>0)).sum<=48:=by
   unfold Rec.Uc;split
   .decide
   .split
    .decide
    .decide
  have naa:∀l:List It,(∀it∈l,wt r.enc it<=(match it with| .xj _ m=>m|_=>0))->(l.map (wt r.enc)).sum<=(l.map (λit=>match it with|It.xj _ m=>m|_=>0)).sum:=by
   intro l
   induction l with
   |nil=>intro _;simp
   |cons y t ih=>
    intro hl;have h1:=hl y (zf ..);have h2:=ih λx hx=>hl x (Rn _ hx);simp only[map_cons,sum_cons];omega
  have h1:=naa _ hx;refine⟨by omega,λit hit=>?_⟩;have:=Mo (mem_map.2 ⟨it,hit,rfl⟩:wt r.enc it∈(Rec.Uc r.k).map (wt r.enc));omega
 have h1:=pG (vs:=r.enc) (Uc:=Rec.Uc r.k) (C:={}) (r.typed r.k) hs.2;have h3:=Rec.TN r.k;have h4:r.w.b.length=((Rec.Uc r.k).foldl (Sd r.enc) {}).b.length:=rfl;have h5:({}:Cd).b.length=0:=rfl;have h6:r.w.b=r.body:=by rw[g.w]
 rw[h6] at h4;omega
def Rec.Good.eM(g:r.Good):r.fr.length=r.body.length+6:=by rw[g.fr,Jn]
def Rec.Good.yh(g:r.Good):6<=r.fr.length/\r.fr.length<=243:=by
 have:=g.eM;have:=g.len;omega
def Rec.Good.NZ{r:Rec}(g:r.Good):ej {b:=r.body,rd:=true} Rec.z.enc (Rec.Uc r.k) {b:=r.body,p:=r.body.length,rd:=true} r.enc:=by
 have h:=Go.Proofs.YthebagfahkebiaaGreat.NZ (vs:=r.enc) (Uc:=Rec.Uc r.k) (C:={b:=r.body,rd:=true}) (ws:=Rec.z.enc) (rest:=[]) rfl (λit hit=>by obtain⟨u,e,a,b,c,d⟩:=g.Uc it hit;exact⟨u,e,a,b,c⟩) (Rec.nodup r.k) (Rec.typed Rec.z r.k) (by simp[Rec.body]);rw[Rec.reset,g.bare] at h;have h2:(0:Nat)+(sj r.enc (Rec.Uc r.k)).length=r.body.length:=by rw[Nat.zero_add];rfl
 simp only[h2] at h;exact h
variable{xs:List UInt8}{h:Hp}
def Ls(r:Rec)(hz:r.size<=1073741824):
  Ct prog 204 [.agg r.enc.toArray] [] (λres H'=>∃u hb,res= .tuple #[u,r.code]/\H'=[hb]/\ia 5 r.fr u hb):=by
 have hlen:=r.S5 hz;refine ce func204 λg R=>?_;repeat' first|refine rn ?_|refine Ud λ_=>?_
 rename_i b c;refine WX.h0 [nr c {} (.slice none 0 0),[(b,.cells r.enc.toArray 140 (0,0))],R] ?_;refine WX.Ke ?_;refine ck (oG (c:=c) (b:=b) r.TW ⟨λe=>(by cases e),λ_=>ia.nil _,by decide⟩ (by show r.w.b.length<=_;omega)) ?_;rintro _ _ ⟨v1,h1,rfl,Bh,-⟩;simp only[can];rw[show(List.foldl (Sd r.enc) {} (Rec.Uc r.k)).seen r=r.w from rfl] at Bh⊢;try refine run ?_
 refine ck (bQ (c:=c) (C:=r.w) (Bh.w r.TW.facts.1) (by omega)) ?_;rintro _ _ ⟨u,hb,rfl,rfl,hs⟩;refine rn ?_;exact D.Vb [hb] _ rfl rfl rfl ⟨_,_,rfl,rfl,hs⟩
def VW(gd:r.Good)(hc:r.code=0){rest:List UInt8}(hx:xs=r.fr++rest){v:Value}(hr:Rs xs v h)(hl:xs.length<=1099511627776):
  Ct prog 168 [v] [h] (λres H'=>res= .tuple #[.agg r.enc.toArray,.int .i64 (r.fr.length:Int),.int .i64 0]/\H'=[h]):=by
 have hfl:=gd.eM;have hle:=gd.yh;have Wx:xs.length=r.fr.length+rest.length:=by rw[hx,Cb]
 have hB:=gd.len;rw[gd.fr] at hx;have hne:xs≠[]:=by intro e;rw[e] at Wx;simp at Wx;omega
 refine ce func168 λg R=>?_;repeat' first|refine rn ?_|refine al λ_=>?_|refine W.Vp 0 rfl ?_
 refine ck (SW (B:=r.body) (by omega) hx hr hl) ?_;rintro _ _ ⟨u,rfl,rfl,hu⟩;simp only[can];obtain⟨q1,c1,rfl⟩:=hu.len;repeat' first|refine run ?_|refine Ud λ_=>?_|refine al λ_=>?_
 rename_i a2 b c;refine WX.h0 [nr c {b:=r.body,rd:=true} (.slice q1 r.body.length c1),[(b,.cells Rec.z.enc.toArray 140 (0,0))],h,[(a2,.cells Rec.z.enc.toArray 140 (0,0))],R] ?_;refine ck (oG (c:=c) (b:=b) (r0:=Rec.z) gd.NZ ⟨λ_=>hu,λe=>(by cases e),by simp only[];omega⟩ (by simp only[];omega)) ?_;rintro _ _ ⟨v1,h1,rfl,Bh,Bp⟩;obtain⟨rfl,rfl⟩:=Bp rfl
 have T5:Cd.seen {b:=r.body,p:=r.body.length,rd:=true} r={b:=r.body,p:=r.body.length,rd:=true}:=by
  unfold Cd.seen;rw[gd.bare,gd.known];simp
 rw[T5] at Bh⊢;simp only[can];have zK:=Ls r (by have:=gd.sz;omega);rw[hc] at zK;repeat' first|refine om ?_|fail
 refine W.as 46 (.bool (decide ((r.body.length:Int)<(r.body.length:Int)))) rfl rfl ?_;repeat' first|refine Xm b 0 (Rec.enc r) (Rec.enc r) ?_|refine om ?_|fail
 refine ck zK ?_;rintro _ _ ⟨u2,h2,rfl,rfl,Oa⟩;simp only[can];have nQ:=Oa.rs;try refine run ?_
 refine WX.as 59 (.int .i64 ((r.fr.length:Nat):Int)) rfl (by rw[hfl];rfl) ?_;have hxt:r.fr=xs.take r.fr.length:=by rw[hx,<-gd.fr,take_left]
 have heq:=pK nQ (hr.take (m:=r.fr.length) (by omega));rw[Fi hxt] at heq;refine WX.qo rfl rfl hr (by omega) rfl ?_;try refine run ?_
 refine cq heq ?_;repeat' first|refine Xm b 0 (Rec.enc r) (Rec.enc r) ?_|refine om ?_|fail
 exact D.yg [h1] _ rfl (.Ua rfl rfl (.tmp rfl (.tmp rfl .nil))) rfl ⟨rfl,rfl⟩
def vM(gd:r.Good){k:Nat}(hk:k<r.fr.length)(hx:xs=r.fr.take k)(h0:xs≠[]){v:Value}(hr:Rs xs v h):
  Ct prog 168 [v] [h] (λres H'=>res= .tuple #[.agg Rec.z.enc.toArray,.int .i64 0,.int .i64 40]/\H'=[h]):=by
 have hB:=gd.len;rw[gd.fr] at hx hk;have Wx:0<xs.length:=length_pos_iff.2 h0;refine ce func168 λg R=>?_;repeat' first|refine rn ?_|refine al λ_=>?_|refine W.Vp 0 rfl ?_
 refine ck (tM (B:=r.body) (by omega) hk hx hr) ?_;rintro _ _ ⟨rfl,rfl⟩;refine rn ?_;rename_i a2;exact D.yg [h] _ rfl (.Ua rfl rfl (.tmp rfl (.tmp rfl .nil))) rfl ⟨rfl,rfl⟩
structure Lf where
 n:Int
 rs:List Rec
 k:Nat
def bytes(rs:List Rec):List UInt8:=(rs.map Rec.fr).flatten
def Lf.file(f:Lf):xd:=⟨f.n,bytes f.rs,(bytes (f.rs.take f.k)).length⟩
def Lf.ps(f:Lf):List Pc:=(f.rs.drop f.k).map λr=>⟨f.n,(r.fr.length:Int)⟩
def dk(l:List Lf):ze:=⟨l.map Lf.file,(l.map Lf.ps).flatten⟩
def ua(l:List Lf):Int:=match l.getLast? with
 |some f=>f.n
 |none=>0
structure Ku(l:List Lf):Prop where
 up:l.Pairwise λa b=>a.n<b.n
 good:∀f∈l,∀r∈f.rs,r.code=0
 k:∀f∈l,f.k<=f.rs.length
 lo:∀f∈l,0<=f.n
 hi:∀f∈l,f.n<=1099511627776
 used:(dk l).used<=1048576
 len:l.length<=64
structure Ge(l:List Lf):Prop extends Ku l where
 tail:l.Pairwise λa b=>a.k<a.rs.length->b.k=0
instance{l:List Lf}:CoeOut (Ge l) (Ku l):=⟨λh=>h.toKu⟩
def Ta(l:List Lf):List Rec:=(l.map Lf.rs).flatten
def Dg(l:List Lf):Nat:=(l.map Lf.k).sum
theorem sw:bytes []=[]:=rfl
theorem qe(r:Rec)(rs:List Rec):bytes (r::rs)=r.fr++bytes rs:=rfl
def aj(a b:List Rec):bytes (a++b)=bytes a++bytes b:=by unfold bytes;simp
def Ld(rs:List Rec)(k:Nat):bytes (rs.take k)++bytes (rs.drop k)=bytes rs:=by rw[<-aj,take_append_drop]
def fQ(rs:List Rec):(bytes rs).length=(rs.map λr=>r.fr.length).sum:=by
 unfold bytes;rw[length_flatten,map_map];rfl
def Jf(rs:List Rec)(k:Nat):(bytes (rs.take k)).length<=(bytes rs).length:=by
 rw[<-Ld rs k,Cb];omega
def gQ{rs:List Rec}(h:∀r∈rs,r.code=0)(hne:rs≠[]):6<=(bytes rs).length:=by
 cases rs with
 |nil=>exact absurd rfl hne
 |cons r t=>
  have:=(Rec.good (h r (zf ..))).yh;rw[qe,Cb];omega
section
variable{l pre post:List Lf}{f:Lf}
def Ku.To(h:Ku (pre++f::post)):(∀x∈pre,x.n<f.n)/\(∀x∈post,f.n<x.n):=by
 have:=h.up;rw[pairwise_append,pairwise_cons] at this;exact⟨λx hx=>this.2.2 x hx f (zf ..),this.2.1.1⟩
def NH{k:Int}(h:∀x∈l,x.n≠k):(dk l).find k=none:=by
 unfold ze.find dk;rw[List.find?_eq_none];intro x hx;obtain⟨f,hf,rfl⟩:=mem_map.1 hx;have:=h f hf;intro hc;exact this (of_decide_eq_true hc)
def Uo(h:Ku (pre++f::post)):(dk (pre++f::post)).find f.n=some f.file:=by
 have hp:((pre.map Lf.file).find? λx=>decide (x.n=f.n))=none:=by
  rw[List.find?_eq_none];intro x hx;obtain⟨y,hy,rfl⟩:=mem_map.1 hx;have h1:=h.To.1 y hy;intro hc;have h2:y.n=f.n:=of_decide_eq_true hc;omega
 unfold ze.find dk;simp only[Ae,map_cons,List.find?_append,hp,Option.none_or];rw[List.find?_cons_of_pos (by simp[Lf.file])]
def Fu{xs:List Int}(h:xs.Pairwise (λa b=>a<=b)):zm xs=xs:=by
 unfold zm;exact mergeSort_of_pairwise (by simpa using h)
def Wp(h:Ku l):(dk l).names=l.map (·.n):=by
 unfold ze.names dk;simp only[map_map];have:(l.map ((λx:xd=>x.n)∘Lf.file))=l.map (·.n):=rfl;rw[this];exact Fu (pairwise_map.2 (h.up.imp λhlt=>by omega))
def Qe:(dk l).used=(l.map λf=>(bytes f.rs).length).sum:=by
 unfold ze.used dk;simp only[map_map];rfl
def Em{rs:List Rec}(h:∀r∈rs,r.code=0):6*rs.length<=(bytes rs).length:=by
 induction rs with
 |nil=>simp[bytes]
 |cons r t ih=>
  have h1:=(Rec.good (h r (zf ..))).yh;have h2:=ih λx hx=>h x (Rn _ hx);rw[qe,Cb,Gb];omega
def QZ:f.ps.length=f.rs.length - f.k:=by unfold Lf.ps;simp
def uU:(∀f∈l,∀r∈f.rs,r.code=0)->(dk l).loose.length<=(dk l).used:=by
 rw[Qe];unfold dk;simp only[]
 induction l with
 |nil=>intro _;simp
 |cons f t ih=>
  intro h;have h1:=Em (h f (zf ..));have h2:=ih λx hx=>h x (Rn _ hx);simp only[map_cons,flatten_cons,Cb,sum_cons,QZ];omega
def Ku.loose(h:Ku l):(dk l).loose.length<=1099511627776:=by
 have:=uU h.good;have:=h.used;omega
def Ku.Kr(h:Ku l):(dk l).fs.length=l.length:=We _
def Ge.app{x:Lf}(h:Ge l)(hn:∀f∈l,f.n<x.n)(hg:∀r∈x.rs,r.code=0)(hk:x.k=0)(h0:0<=x.n)(h1:x.n<=1099511627776)(hl:l.length<64)(hu:(dk l).used+(bytes x.rs).length<=1048576):Ge (l++[x]) where
 up:=pairwise_append.2 ⟨h.up,pairwise_singleton ..,λa ha b hb=>by rw[mem_singleton.1 hb];exact hn a ha⟩
 good:=λf hf=>by
  rcases mem_append.1 hf with hf|hf
  .exact h.good f hf
  .rw[mem_singleton.1 hf];exact hg
 k:=λf hf=>by
  rcases mem_append.1 hf with hf|hf
  .exact h.k f hf
  .rw[mem_singleton.1 hf,hk];exact Gi _
 tail:=pairwise_append.2 ⟨h.tail,pairwise_singleton ..,λa ha b hb _=>by rw[mem_singleton.1 hb];exact hk⟩
 lo:=λf hf=>by
  rcases mem_append.1 hf with hf|hf
  .exact h.lo f hf
  .rw[mem_singleton.1 hf];exact h0
 hi:=λf hf=>by
  rcases mem_append.1 hf with hf|hf
  .exact h.hi f hf
  .rw[mem_singleton.1 hf];exact h1
 used:=by rw[Qe] at hu⊢;simpa using hu
 len:=by rw[Cb];simp;omega
def Ge.ini(h:Ge (pre++post)):Ge pre where
 up:=(pairwise_append.1 h.up).1
 good:=λf hf=>h.good f (mem_append_left _ hf)
 k:=λf hf=>h.k f (mem_append_left _ hf)
 tail:=(pairwise_append.1 h.tail).1
 lo:=λf hf=>h.lo f (mem_append_left _ hf)
 hi:=λf hf=>h.hi f (mem_append_left _ hf)
 used:=by have:=h.used;rw[Qe] at this⊢;simp only[Ae,sum_append] at this;omega
 len:=by have:=h.len;rw[Cb] at this;omega
def Ge.more{r:Rec}(h:Ge (pre++[f]))(hr:r.code=0)(hu:(dk (pre++[f])).used+r.fr.length<=1048576):Ge (pre++[⟨f.n,f.rs++[r],f.k⟩]) where
 up:=by
  have:=h.up;rw[pairwise_append] at this⊢;exact⟨this.1,pairwise_singleton ..,λa ha b hb=>by rw[mem_singleton.1 hb];exact this.2.2 a ha f (mem_singleton.2 rfl)⟩
 good:=λx hx=>by
  rcases mem_append.1 hx with hx|hx
  .exact h.good x (mem_append_left _ hx)
  .rw[mem_singleton.1 hx];intro y hy;rcases mem_append.1 hy with hy|hy
   .exact h.good f (by simp) y hy
   .rw[mem_singleton.1 hy];exact hr
 k:=λx hx=>by
  rcases mem_append.1 hx with hx|hx
  .exact h.k x (mem_append_left _ hx)
  .rw[mem_singleton.1 hx];have:=h.k f (by simp);simp only[Cb];omega
 tail:=by
  have:=h.tail;rw[pairwise_append] at this⊢;exact⟨this.1,pairwise_singleton ..,λa ha b hb=>by rw[mem_singleton.1 hb];exact this.2.2 a ha f (mem_singleton.2 rfl)⟩
 lo:=λx hx=>by
  rcases mem_append.1 hx with hx|hx
  .exact h.lo x (mem_append_left _ hx)
  .rw[mem_singleton.1 hx];exact h.lo f (by simp)
 hi:=λx hx=>by
  rcases mem_append.1 hx with hx|hx
  .exact h.hi x (mem_append_left _ hx)
  .rw[mem_singleton.1 hx];exact h.hi f (by simp)
 used:=by
  rw[Qe] at hu⊢;simp only[Ae,sum_append,map_cons,map_nil,sum_cons,sum_nil,aj,Cb,qe,sw,jd] at hu⊢;omega
 len:=by have:=h.len;rw[Cb] at this⊢;exact this
def Bb(l:List Lf)(r:Rec):List Lf×Int:=
 if r.code≠0 then(l,r.code) else match l.getLast? with
  |none=>([⟨0,[r],0⟩],0)
  |some f=>if 4096<=(bytes f.rs).length then(if 1099511627776<f.n+1\/64<=l.length\/1048576<(dk l).used+r.fr.length then(l,51) else(l++[⟨f.n+1,[r],0⟩],0))
   else if 1048576<(dk l).used+r.fr.length then(l,51) else(l.dropLast++[⟨f.n,f.rs++[r],f.k⟩],0)
def Ep(l:List Lf):List Rec->List Lf×Int
 |[]=>(l,0)
 |r::rs=>if(Bb l r).2≠0 then Bb l r else Ep (Bb l r).1 rs
theorem vu:(dk []).used=0:=rfl
theorem iQ:ua []=0:=rfl
def Kb:ua (pre++[f])=f.n:=by unfold ua;rw[List.getLast?_concat]
def Ge.nil:Ge []:=⟨⟨.nil,by simp,by simp,by simp,by simp,by rw[vu];omega,by simp⟩,.nil⟩
def Ge.JE(h:Ge l)(r:Rec):Ge (Bb l r).1:=by
 unfold Bb;by_cases hr:r.code=0
 .rw[if_neg (by simpa using hr)];have hle:=(Rec.good hr).yh;rcases eq_nil_or_concat l with rfl|⟨pre,f,rfl⟩
  .exact Ge.app (l:=[]) Ge.nil (by simp) (by simpa using hr) rfl (Int.le_refl 0) (by simp only[];omega) (by decide) (by rw[vu];simp[bytes];omega)
  .rw[concat_eq_append] at h⊢;rw[List.getLast?_concat];simp only[dropLast_concat];split
   .split
    .exact h
    .rename_i h2;simp only[not_or,Int.not_lt,Nat.not_le,Nat.not_lt] at h2;refine Ge.app h (λx hx=>?_) (by simpa using hr) rfl (by have:=h.lo f (by simp);simp only[];omega) (by simp only[];omega) h2.2.1 (by simp[bytes];omega);rcases mem_append.1 hx with hx|hx
     .have:=h.To.1 x hx;simp only[];omega
     .rw[mem_singleton.1 hx];simp only[];omega
   .split
    .exact h
    .exact h.more hr (by omega)
 .rw[if_pos hr];exact h
def Yv(h:Ge l):(dk l).size (ua l)=match l.getLast? with|some f=>(bytes f.rs).length|none=>0:=by
 rcases eq_nil_or_concat l with rfl|⟨pre,f,rfl⟩
 .rfl
 .rw[concat_eq_append] at h⊢;rw[Kb,List.getLast?_concat];unfold ze.size;rw[Uo (post:=[]) h];rfl
def dw{n:Int}(h:Ge l)(hn:ua l<n):(dk l).find n=none:=by
 rcases eq_nil_or_concat l with rfl|⟨pre,f,rfl⟩
 .rfl
 .rw[concat_eq_append] at h hn⊢;rw[Kb] at hn;refine NH λx hx=>?_;rcases mem_append.1 hx with hx|hx
  .have:=h.To.1 x hx;omega
  .rw[mem_singleton.1 hx];omega
def Ms{n:Int}{r:Rec}(he:(dk l).Jg n r.fr.length=0)(hf:(dk l).find n=none):(dk l).app n r.fr=dk (l++[⟨n,[r],0⟩]):=by
 unfold ze.app;rw[if_pos he,hf];simp[dk,Lf.file,Lf.ps,bytes]
def wM{r:Rec}(h:Ge (pre++[f]))(he:(dk (pre++[f])).Jg f.n r.fr.length=0):(dk (pre++[f])).app f.n r.fr=dk (pre++[⟨f.n,f.rs++[r],f.k⟩]):=by
 unfold ze.app;rw[if_pos he,Uo (post:=[]) h];have hk:=h.k f (by simp)
 have hp:(pre.map Lf.file).map (λx=>if x.n=f.n then{x with b:=x.b++r.fr} else x)=pre.map Lf.file:=by
  rw[map_map];apply map_congr_left;intro x hx;have:=h.To.1 x hx;show(if x.file.n=f.n then _ else _)=_;exact if_neg (by show ¬x.n=f.n;omega)
 simp only[Option.isNone_some,Bool.false_eq_true,if_false];unfold ze.oO;simp only[dk,Ae,map_cons,map_nil,hp,Lf.file,if_true,flatten_append,flatten_cons,flatten_nil,append_nil,Lf.ps,aj,qe,sw,take_append_of_le_length hk,drop_append_of_le_length hk,Oc]
end
variable{l:List Lf}
def AH(l:List Lf):Int:=if 4096<=(dk l).size (ua l) then ua l+1 else ua l
def Rk(k:Int)(n:Nat)(l:List Lf):(dk l).Jg k n=if k<0\/1099511627776<k then 50 else if(((dk l).find k).isNone=true/\64<=l.length)\/1048576<(dk l).used+n then 51 else 0:=by
 unfold ze.Jg;rw[show(dk l).fs.length=l.length from We _]
def eG(h:r.code≠0):Bb l r=(l,r.code):=by unfold Bb;rw[if_pos h]
def Eg(ok:Ge l):0<=ua l/\ua l<=1099511627776:=by
 rcases eq_nil_or_concat l with rfl|⟨pre,f,rfl⟩
 .rw[iQ];omega
 .rw[concat_eq_append] at ok⊢;rw[Kb];exact⟨ok.lo f (by simp),ok.hi f (by simp)⟩
def wA(ok:Ge l)(hr:r.code=0):
  ((dk l).Jg (AH l) r.fr.length≠0->Bb l r=(l,51))/\((dk l).Jg (AH l) r.fr.length=0->(Bb l r).2=0/\(dk l).app (AH l) r.fr=dk (Bb l r).1/\ua (Bb l r).1=AH l):=by
 have hle:=(Rec.good hr).yh;unfold Bb;rw[if_neg (by simpa using hr)];rcases eq_nil_or_concat l with rfl|⟨pre,f,rfl⟩
 .have ht:AH []=0:=rfl
  have he:(dk []).Jg 0 r.fr.length=0:=by
   rw[Rk,if_neg (by omega),if_neg];rw[vu];simp;omega
  rw[ht];refine⟨λh=>absurd he h,λ_=>⟨rfl,?_,rfl⟩⟩;exact Ms he rfl
 .rw[concat_eq_append] at ok⊢;have hs:=Yv ok;have hlo:=ok.lo f (by simp);have hhi:=ok.hi f (by simp);rw[List.getLast?_concat] at hs⊢;simp only[dropLast_concat] at hs⊢;by_cases h4:4096<=(bytes f.rs).length
  .have ht:AH (pre++[f])=f.n+1:=by unfold AH;rw[hs,if_pos h4,Kb]
   have hn:=dw ok (n:=f.n+1) (by rw[Kb];omega);rw[ht,if_pos h4];by_cases hc:1099511627776<f.n+1\/64<=(pre++[f]).length\/1048576<(dk (pre++[f])).used+r.fr.length
   .rw[if_pos hc];refine⟨λ_=>rfl,λhe=>?_⟩;rw[Rk,hn] at he;simp only[Option.isNone_none,true_and] at he;split at he
    .exact absurd he (by decide)
    .split at he
     .exact absurd he (by decide)
     .rename_i h1 h2;exfalso;rcases hc with hc|hc|hc
      .exact h1 (.inr hc)
      .exact h2 (.inl hc)
      .exact h2 (.inr hc)
   .rw[if_neg hc]
    have he:(dk (pre++[f])).Jg (f.n+1) r.fr.length=0:=by
     rw[Rk,hn,if_neg (λh=>h.elim (λh=>by omega) (λh=>hc (.inl h))),if_neg];simp only[Option.isNone_none,true_and];exact λh=>hc (.inr h)
    refine⟨λh=>absurd he h,λ_=>⟨rfl,Ms he hn,Kb⟩⟩
  .have ht:AH (pre++[f])=f.n:=by unfold AH;rw[hs,if_neg h4,Kb]
   have hn:=Uo (post:=[]) ok.toKu;rw[ht,if_neg h4];by_cases hc:1048576<(dk (pre++[f])).used+r.fr.length
   .rw[if_pos hc];refine⟨λ_=>rfl,λhe=>?_⟩;rw[Rk,hn,if_neg (by omega),if_pos (.inr hc)] at he;exact absurd he (by decide)
   .rw[if_neg hc]
    have he:(dk (pre++[f])).Jg f.n r.fr.length=0:=by
     rw[Rk,hn,if_neg (by omega),if_neg];simp only[Option.isNone_some,Bool.false_eq_true,false_and,false_or];exact hc
    exact⟨λh=>absurd he h,λ_=>⟨rfl,wM ok he,Kb⟩⟩
theorem W0{rs:List Rec}:Ep l (r::rs)=if(Bb l r).2≠0 then Bb l r else Ep (Bb l r).1 rs:=rfl
def dG{rs:List Rec}{i:Nat}(h:rs[i]? =some r):Ep l (rs.drop i)=if(Bb l r).2≠0 then Bb l r else Ep (Bb l r).1 (rs.drop (i+1)):=by
 obtain⟨hi,e⟩:=List.getElem?_eq_some_iff.1 h;rw[drop_eq_getElem_cons hi,e];rfl
abbrev qf(w d:Nat)(seg Aa:Int):Hp:=[(w,.cells (List.toArray [d,seg,Aa]) 199 (0,0))]
def qL(ok:Ge l){d:Nat}{h:Hp}(hd:Od (dk l) d h){rs:List Rec}{v:Value}{hx:Hp}(hr:Rs rs v hx)(hl:rs.length<=1099511627776)(hz:∀r∈rs,r.size<=1073741824){w:Nat}{Aa:Int}:
  Ct prog 129 [w,v] [qf w d (ua l) Aa,h,hx] (λres H'=>∃h',res= .int .i64 (Ep l rs).2/\H'=[qf w d (ua (Ep l rs).1) Aa,h',hx]/\Od (dk (Ep l rs).1) d h'):=by
 refine cr func129 λg R=>?_
 refine W.lo (α:=Nat×List Lf×Hp) (λx=>x.1<=rs.length/\Ge x.2.1/\Od (dk x.2.1) d x.2.2/\Ep l rs=Ep x.2.1 (rs.drop x.1))
  (λx=>[(0,w),(1,v),(10,v),(11,.int .i64 (rs.length:Int)),(12,.int .i64 (x.1:Int))])
  (λx=>[qf w d (ua x.2.1) Aa,x.2.2,hx,R]) (λx=>rs.length - x.1) (0,l,h) ⟨Gi _,ok,hd,rfl⟩ ?_
 rintro⟨i,m,y⟩ ⟨hi,bg,KD,he⟩;simp only[] at hi bg KD he⊢;by_cases hlt:i<rs.length
 .obtain⟨r,fZ⟩:=Sh hlt;rw[dG fZ] at he;have hsz:=hz r (mem_of_getElem? fZ);have zK:=Ls r hsz;have hsc:=CG KD (ua m);by_cases hc:r.code=0
  .have hle:=(Rec.good hc).yh;obtain⟨hA,hB⟩:=wA bg hc;rw[hc] at zK;have Tq:=Eg bg;repeat' first|refine run ?_|refine al λ_=>?_
   refine ck zK ?_;rintro _ _ ⟨u2,h2,rfl,rfl,Oa⟩;simp only[can];have hap:=λk=>qF KD k Oa.rs (by omega) bg.used (by rw[bg.Kr];exact bg.len) bg.loose;have htn:AH m=if 4096<=(dk m).size (ua m) then ua m+1 else ua m:=rfl
   by_cases h4:4096<=(dk m).size (ua m)
   .rw[if_pos h4] at htn;rw[htn] at hA hB;try refine run ?_
    refine cq hsc ?_;try refine run ?_
    refine ck (hap (ua m+1)) ?_;rintro _ _ ⟨y',rfl,rfl,xp⟩;simp only[can];by_cases hE:(dk m).Jg (ua m+1) r.fr.length=0
    .obtain⟨e1,e2,e3⟩:=hB hE;rw[e2] at xp;rw[if_neg (by rw[e1];decide)] at he;have Bh:=bg.JE r;try refine run ?_
     rw[<-e3];exact D.rd (i+1,(Bb m r).1,y') ⟨by simp only[];omega,Bh,xp,he⟩ (by simp only[];omega)
    .have e1:=hA hE;rw[e1,if_pos (show(51:Int)≠0 by decide)] at he;have e2:(dk m).app (ua m+1) r.fr=dk m:=by unfold ze.app;rw[if_neg hE]
     rw[e2] at xp;try refine run ?_
     exact Wa [qf w d (ua m) Aa,y',hx] rfl rfl ⟨y',by rw[he],by rw[he],by rw[he];exact xp⟩
   .rw[if_neg h4] at htn;rw[htn] at hA hB;try refine run ?_
    refine cq hsc ?_;try refine run ?_
    refine ck (hap (ua m)) ?_;rintro _ _ ⟨y',rfl,rfl,xp⟩;simp only[can];by_cases hE:(dk m).Jg (ua m) r.fr.length=0
    .obtain⟨e1,e2,e3⟩:=hB hE;rw[e2] at xp;rw[if_neg (by rw[e1];decide)] at he;have Bh:=bg.JE r;try refine run ?_
     rw[<-e3];exact D.rd (i+1,(Bb m r).1,y') ⟨by simp only[];omega,Bh,xp,he⟩ (by simp only[];omega)
    .have e1:=hA hE;rw[e1,if_pos (show(51:Int)≠0 by decide)] at he;have e2:(dk m).app (ua m) r.fr=dk m:=by unfold ze.app;rw[if_neg hE]
     rw[e2] at xp;try refine run ?_
     exact Wa [qf w d (ua m) Aa,y',hx] rfl rfl ⟨y',by rw[he],by rw[he],by rw[he];exact xp⟩
  .rw[eG hc,if_pos hc] at he;repeat' first|refine run ?_|refine al λ_=>?_
   refine ck zK ?_;rintro _ _ ⟨u2,h2,rfl,rfl,Oa⟩;refine rn ?_;exact Wa [qf w d (ua m) Aa,y,hx] rfl rfl ⟨y,by rw[he],by rw[he],by rw[he];exact KD⟩
 .have hlen:rs.drop i=[]:=drop_eq_nil_of_le (by omega);rw[hlen] at he;try refine run ?_
  exact Wa [qf w d (ua m) Aa,y,hx] rfl rfl ⟨y,by rw[he];rfl,by rw[he];rfl,by rw[he];exact KD⟩
variable{post:List Lf}{f:Lf}{n:Int}
def Lf.full(f:Lf):Lf:=⟨f.n,f.rs,f.rs.length⟩
def Xe(l:List Lf):List Lf:=l.map Lf.full
def Lf.CH(f:Lf):f.full.ps=[]:=by unfold Lf.full Lf.ps;simp
def Ge.full{pre post:List Lf}(h:Ge (pre++post)):Ge (pre.map Lf.full++post) where
 up:=by
  have:=h.up;rw[pairwise_append] at this⊢;refine⟨pairwise_map.2 this.1,this.2.1,λa ha b hb=>?_⟩;obtain⟨a',BQ,rfl⟩:=mem_map.1 ha;exact this.2.2 a' BQ b hb
 good:=λf hf=>by
  rcases mem_append.1 hf with hf|hf
  .obtain⟨a',BQ,rfl⟩:=mem_map.1 hf;exact h.good a' (mem_append_left _ BQ)
  .exact h.good f (mem_append_right _ hf)
 k:=λf hf=>by
  rcases mem_append.1 hf with hf|hf
  .obtain⟨a',BQ,rfl⟩:=mem_map.1 hf;exact Nat.le_refl _
  .exact h.k f (mem_append_right _ hf)
 tail:=by
  have:=h.tail;rw[pairwise_append] at this⊢;refine⟨pairwise_map.2 (this.1.imp λ_ hlt=>absurd hlt (Nat.lt_irrefl _)),this.2.1,λa ha b hb hlt=>?_⟩;obtain⟨a',BQ,rfl⟩:=mem_map.1 ha;exact absurd hlt (Nat.lt_irrefl _)
 lo:=λf hf=>by
  rcases mem_append.1 hf with hf|hf
  .obtain⟨a',BQ,rfl⟩:=mem_map.1 hf;exact h.lo a' (mem_append_left _ BQ)
  .exact h.lo f (mem_append_right _ hf)
 hi:=λf hf=>by
  rcases mem_append.1 hf with hf|hf
  .obtain⟨a',BQ,rfl⟩:=mem_map.1 hf;exact h.hi a' (mem_append_left _ BQ)
  .exact h.hi f (mem_append_right _ hf)
 used:=by
  have:=h.used;rw[Qe] at this⊢;simp only[Ae,sum_append,map_map] at this⊢;exact this
 len:=by have:=h.len;simp only[Cb,We] at this⊢;exact this
def Ge.sync(h:Ge l):Ge (Xe l):=by
 have:=Ge.full (pre:=l) (post:=[]) (by simpa using h);simpa[Xe] using this
def Df(l:List Lf):ua (Xe l)=ua l:=by
 rcases eq_nil_or_concat l with rfl|⟨pre,f,rfl⟩
 .rfl
 .rw[concat_eq_append];unfold Xe;rw[Ae,map_cons,map_nil,Kb,Kb];rfl
def Iq{p:Pc}(h:p∈f.ps):p.f=f.n:=by
 unfold Lf.ps at h;obtain⟨r,_,rfl⟩:=mem_map.1 h;rfl
def PA(h:∀f∈l,f.n≠n):((l.map Lf.ps).flatten.filter λp=>decide (p.f≠n))=(l.map Lf.ps).flatten:=by
 rw[filter_eq_self];intro p hp;obtain⟨x,hx,hpx⟩:=mem_flatten.1 hp;obtain⟨f,hf,rfl⟩:=mem_map.1 hx;rw[Iq hpx];exact Fi (h f hf)
def UN(h:f.n=n):(f.ps.filter λp=>decide (p.f≠n))=[]:=by
 rw[filter_eq_nil_iff];intro p hp;rw[Iq hp];simp[h]
def VN{pre:List Lf}(h:Ku (pre++f::post)):(dk (pre++f::post)).sync f.n=dk (pre++f.full::post):=by
 unfold ze.sync;rw[Uo h];have hm:=h.To
 have h1:∀(l:List Lf),(∀x∈l,x.n≠f.n)->(l.map Lf.file).map (λx=>if x.n=f.n then{x with s:=x.b.length} else x)=l.map Lf.file:=by
  intro l hl;rw[map_map];apply map_congr_left;intro x hx;exact if_neg (hl x hx)
 have h2:=h1 pre λx hx=>by have:=hm.1 x hx;omega
 have h3:=h1 post λx hx=>by have:=hm.2 x hx;omega
 have h4:=PA (l:=pre) (n:=f.n) λx hx=>by have:=hm.1 x hx;omega
 have h5:=PA (l:=post) (n:=f.n) λx hx=>by have:=hm.2 x hx;omega
 simp only[Option.isNone_some,Bool.false_eq_true,if_false];unfold ze.oO dk;simp only[Ae,map_cons,h2,h3,flatten_append,flatten_cons,filter_append,h4,h5,UN rfl,Lf.CH,nil_append];congr 3;have h6:f.file.n=f.n:=rfl;refine(if_pos h6).trans ?_;simp[Lf.file,Lf.full]
def jQ(h:Ku (f::post)):(dk (f::post)).remove f.n=dk post:=by
 unfold ze.remove;rw[show(dk (f::post)).find f.n=some f.file from Uo (pre:=[]) h];have hm:=(Ku.To (pre:=[]) h).2;simp only[Option.isNone_some,Bool.false_eq_true,if_false];have h5:=PA (l:=post) (n:=f.n) λx hx=>by have:=hm x hx;omega
 unfold dk;simp only[map_cons,flatten_cons,filter_append,h5,UN rfl,nil_append];rw[filter_cons_of_neg (by simp[Lf.file])];congr 1;rw[filter_eq_self];intro x hx;obtain⟨y,hy,rfl⟩:=mem_map.1 hx;have:=hm y hy;exact Fi (by show y.n≠f.n;omega)
def Ku.tl(h:Ku (f::post)):Ku post where
 up:=(pairwise_cons.1 h.up).2
 good:=λx hx=>h.good x (Rn _ hx)
 k:=λx hx=>h.k x (Rn _ hx)
 lo:=λx hx=>h.lo x (Rn _ hx)
 hi:=λx hx=>h.hi x (Rn _ hx)
 used:=by have:=h.used;rw[Qe] at this⊢;simp only[map_cons,sum_cons] at this;omega
 len:=by have:=h.len;rw[Gb] at this;omega
def Ge.tl{post:List Lf}{f:Lf}(h:Ge (f::post)):Ge post:=⟨h.toKu.tl,(pairwise_cons.1 h.tail).2⟩
def kQ{pre:List Lf}(h:Ku (pre++f::post)):(dk (pre++f::post)).synced f.n=(bytes (f.rs.take f.k)).length/\(dk (pre++f::post)).size f.n=(bytes f.rs).length:=by
 unfold ze.synced ze.size;rw[Uo h];exact⟨rfl,rfl⟩
def WW(hg:∀r∈f.rs,r.code=0)(hk:f.k<=f.rs.length)(h: ¬(bytes (f.rs.take f.k)).length<(bytes f.rs).length):f.full=f:=by
 have h1:=Ld f.rs f.k
 have h2:(bytes (f.rs.drop f.k)).length=0:=by
  have:=congrArg List.length h1;rw[Cb] at this;omega
 have h3:f.rs.drop f.k=[]:=by
  cases hd:f.rs.drop f.k with
  |nil=>rfl
  |cons r t=>
   have:=gQ (rs:=f.rs.drop f.k) (λr hr=>hg r (mem_of_mem_drop hr)) (by rw[hd];simp);omega
 have h4:f.rs.length<=f.k:=drop_eq_nil_iff.1 h3;obtain⟨n,rs,k⟩:=f;simp only[] at h4 hk;unfold Lf.full;simp only[Lf.mk.injEq,true_and];omega
def JG(ok:Ge l){d:Nat}{h:Hp}(hd:Od (dk l) d h){w:Nat}{seg Aa:Int}:
  Ct prog 131 [w] [qf w d seg Aa,h] (λres H'=>∃h',res= .int .i64 0/\H'=[qf w d seg Aa,h']/\Od (dk (Xe l)) d h'):=by
 have CC:=Kt hd (by rw[ok.Kr];have:=ok.len;omega);rw[Wp ok] at CC;have jg:=ok.len;have hnl:(l.map (·.n)).length=l.length:=We _;refine cr func131 λg R=>?_;refine ck CC ?_;rintro u _ ⟨hb,rfl,hs⟩;have hr:=hs.rs;refine rn ?_
 refine W.lo (α:=Nat×Hp) (λx=>x.1<=l.length/\Od (dk ((l.take x.1).map Lf.full++l.drop x.1)) d x.2)
  (λx=>[(0,w),(9,u),(10,.int .i64 ((l.map (·.n)).length:Int)),(11,.int .i64 (x.1:Int))])
  (λx=>[qf w d seg Aa,x.2,hb,R]) (λx=>l.length - x.1) (0,h) ⟨Gi _,by simpa using hd⟩ ?_
 rintro⟨i,y⟩ ⟨hi,KD⟩;simp only[] at hi KD⊢;by_cases hlt:i<l.length
 .obtain⟨f,hf⟩:=Sh hlt;have hn:(l.map (·.n))[i]? =some f.n:=by rw[List.getElem?_map,hf];rfl
  have rQ:l.drop i=f::l.drop (i+1):=by
   rw[drop_eq_getElem_cons hlt,(List.getElem?_eq_some_iff.1 hf).2]
  have th:(l.take (i+1)).map Lf.full=(l.take i).map Lf.full++[f.full]:=by
   rw[take_succ_eq_append_getElem hlt,(List.getElem?_eq_some_iff.1 hf).2,Ae];rfl
  have bg:Ge ((l.take i).map Lf.full++l.drop i):=Ge.full (by rw[take_append_drop];exact ok);rw[rQ] at bg KD;have hsc:=qO KD f.n;have V6:=CG KD f.n;have hyc:=oI KD f.n bg.loose;obtain⟨e1,e2⟩:=kQ bg.toKu;rw[e1] at hsc;rw[e2] at V6;rw[VN bg.toKu] at hyc;have Pf:=Jf f.rs f.k;try refine run ?_
  refine wr ?_;refine cq hsc ?_;try refine run ?_
  refine cq V6 ?_;have hnext:(l.take (i+1)).map Lf.full++l.drop (i+1)=(l.take i).map Lf.full++f.full::l.drop (i+1):=by rw[th];simp
  by_cases hq:(bytes (f.rs.take f.k)).length<(bytes f.rs).length
  .try refine run ?_
   refine ck hyc ?_;rintro _ _ ⟨y',rfl,rfl,xp⟩;refine rn ?_;exact D.rd (i+1,y') ⟨by simp only[];omega,by simp only[];rw[hnext];exact xp⟩ (by simp only[];omega)
  .have KK:=WW (ok.good f (mem_of_getElem? hf)) (ok.k f (mem_of_getElem? hf)) hq;try refine run ?_
   exact D.rd (i+1,y) ⟨by simp only[];omega,by simp only[];rw[hnext,KK];exact KD⟩ (by simp only[];omega)
 .obtain rfl:i=l.length:=by omega
  rw[take_length,drop_length,append_nil] at KD;try refine run ?_
  exact Wa [qf w d seg Aa,y] rfl rfl ⟨y,rfl,rfl,KD⟩
def Nc:Rec:=⟨3,ya.z,Va.z,0⟩
theorem Ph:Nc.code=0:=rfl
def Qj(l:List Lf):List Lf×Int:=if(dk l).Jg (ua l+1) Nc.fr.length≠0 then(l,51) else([⟨ua l+1,[Nc],1⟩],0)
def Ge.last{pre:List Lf}{f:Lf}(h:Ge (pre++[f])):Ge [f]:=by
 induction pre with
 |nil=>exact h
 |cons x t ih=>exact ih h.tl
def Ku.B9{pre post:List Lf}(h:Ku (pre++post)):Ku post:=by
 induction pre with
 |nil=>exact h
 |cons x t ih=>exact ih h.tl
def Ku.oaa{n:Int}{rs:List Rec}{k:Nat}(h:Ku (l++[⟨n,rs,k⟩])):Ku (l++[⟨n,rs,rs.length⟩]) where
 up:=by
  have:=h.up;rw[pairwise_append] at this⊢;exact⟨this.1,pairwise_singleton ..,λa ha b hb=>by rw[mem_singleton.1 hb];exact this.2.2 a ha ⟨n,rs,k⟩ (mem_singleton.2 rfl)⟩
 good:=λf hf=>by
  rcases mem_append.1 hf with hf|hf
  .exact h.good f (mem_append_left _ hf)
  .rw[mem_singleton.1 hf];exact h.good ⟨n,rs,k⟩ (by simp)
 k:=λf hf=>by
  rcases mem_append.1 hf with hf|hf
  .exact h.k f (mem_append_left _ hf)
  .rw[mem_singleton.1 hf];exact Nat.le_refl _
 lo:=λf hf=>by
  rcases mem_append.1 hf with hf|hf
  .exact h.lo f (mem_append_left _ hf)
  .rw[mem_singleton.1 hf];exact h.lo ⟨n,rs,k⟩ (by simp)
 hi:=λf hf=>by
  rcases mem_append.1 hf with hf|hf
  .exact h.hi f (mem_append_left _ hf)
  .rw[mem_singleton.1 hf];exact h.hi ⟨n,rs,k⟩ (by simp)
 used:=by
  have:=h.used;rw[Qe] at this⊢;simpa using this
 len:=by have:=h.len;simpa using this
def xA(ok:Ge l)(he:(dk l).Jg (ua l+1) Nc.fr.length=0):Ge (l++[⟨ua l+1,[Nc],0⟩])/\(dk l).app (ua l+1) Nc.fr=dk (l++[⟨ua l+1,[Nc],0⟩]):=by
 have hn:=dw ok (n:=ua l+1) (by omega);have Tq:=Eg ok;refine⟨?_,Ms he hn⟩;rw[Rk,hn] at he;simp only[Option.isNone_none,true_and] at he;split at he
 .exact absurd he (by decide)
 .split at he
  .exact absurd he (by decide)
  .rename_i h1 h2;refine ok.app (λx hx=>?_) (by intro r hr;rw[mem_singleton.1 hr];rfl) rfl (by simp only[];omega) (by simp only[];omega) (by omega) (by simp[bytes];omega);obtain⟨pre,post,rfl⟩:=append_of_mem hx;rcases eq_nil_or_concat post with rfl|⟨q,z,rfl⟩
   .rw[Kb];simp only[];omega
   .have h3:=ok.To.2;rw[concat_eq_append] at h3⊢;have h4:=h3 z (by simp)
    have:ua (pre++x::(q++[z]))=z.n:=by
     rw[show pre++x::(q++[z])=(pre++x::q)++[z] from by simp,Kb]
    rw[this];simp only[];omega
def Ge.cut(ok:Ge l):Ge (Qj l).1:=by
 unfold Qj;by_cases he:(dk l).Jg (ua l+1) Nc.fr.length=0
 .rw[if_neg (by simpa using he)];have h1:=(xA ok he).1.last;have h2:=Ge.sync h1;exact h2
 .rw[if_pos he];exact ok
def gY(ok:Ge l){d:Nat}{h:Hp}(hd:Od (dk l) d h){w:Nat}{Aa:Int}:
  Ct prog 128 [w] [qf w d (ua l) Aa,h] (λres H'=>∃h',res= .int .i64 (Qj l).2/\H'=[qf w d (ua (Qj l).1) Aa,h']/\Od (dk (Qj l).1) d h'):=by
 have zK:=Ls Nc (by decide);rw[Ph] at zK;have hle:=(Rec.good Ph).yh;have Tq:=Eg ok;refine cr func128 λg R=>?_;refine WX.as 8 (.agg Nc.enc.toArray) rfl rfl ?_;refine ck zK ?_;rintro _ _ ⟨u,hb,rfl,rfl,hs⟩;simp only[can];have hap:=qF hd (ua l+1) hs.rs (by omega) ok.used (by rw[ok.Kr];exact ok.len) ok.loose;try refine run ?_
 refine cX (ml [10,1,1]) [qf w d (ua l) Aa] ?_;try refine run ?_
 refine ck hap ?_;rintro _ _ ⟨y,rfl,rfl,xp⟩;simp only[can];by_cases hE:(dk l).Jg (ua l+1) Nc.fr.length=0
 .have hlc:Qj l=([⟨ua l+1,[Nc],1⟩],0):=by unfold Qj;rw[if_neg (by simpa using hE)]
  obtain⟨Sr,e1⟩:=xA ok hE;rw[e1] at xp;have Ws:=oI xp (ua l+1) Sr.loose;rw[show(dk (l++[⟨ua l+1,[Nc],0⟩])).sync (ua l+1)=dk (l++[⟨ua l+1,[Nc],1⟩]) from VN (post:=[]) (f:=⟨ua l+1,[Nc],0⟩) Sr.toKu] at Ws;have ob:Ku (l++[⟨ua l+1,[Nc],1⟩]):=Sr.toKu.oaa;have jg:=ob.len;have Maa:l.length+1<=64:=by simpa using jg
  have hnl:((l++[(⟨ua l+1,[Nc],1⟩:Lf)]).map (·.n)).length=l.length+1:=by simp
  try refine run ?_
  refine cX (ml [8]) [qf w d (ua l+1) Aa] ?_;try refine run ?_
  refine ck Ws ?_;rintro _ _ ⟨y2,rfl,rfl,Hj⟩;have CC:=Kt Hj (by rw[ob.Kr];omega);rw[Wp ob] at CC;refine rn ?_;refine ck CC ?_;rintro u2 _ ⟨vK,rfl,Oa⟩;have nQ:=Oa.rs;refine rn ?_
  refine W.lo (α:=Nat×Hp) (λx=>x.1<=l.length+1/\Od (dk (l.drop x.1++[⟨ua l+1,[Nc],1⟩])) d x.2)
   (λx=>[(0,w),(44,u2),(45,.int .i64 (((l++[(⟨ua l+1,[Nc],1⟩:Lf)]).map (·.n)).length:Int)),(46,.int .i64 (x.1:Int))])
   (λx=>[qf w d (ua l+1) Aa,x.2,vK,R]) (λx=>l.length+1 - x.1) (0,y2) ⟨Gi _,by simpa using Hj⟩ ?_
  rintro⟨i,z⟩ ⟨hi,HT⟩;simp only[] at hi HT⊢;by_cases hlt:i<l.length
  .obtain⟨f,hf⟩:=Sh hlt;have hn:((l++[(⟨ua l+1,[Nc],1⟩:Lf)]).map (·.n))[i]? =some f.n:=by rw[List.getElem?_map,List.getElem?_append_left hlt,hf];rfl
   have rQ:l.drop i=f::l.drop (i+1):=by
    rw[drop_eq_getElem_cons hlt,(List.getElem?_eq_some_iff.1 hf).2]
   have bg:Ku (l.drop i++[⟨ua l+1,[Nc],1⟩]):=by
    refine Ku.B9 (pre:=l.take i) ?_;rw[<-Oc,take_append_drop];exact ob
   rw[rQ,cons_append] at bg HT;have hrm:=Ny HT f.n bg.loose;rw[jQ bg] at hrm;have hne:f.n<ua l+1:=(Ku.To (pre:=[]) bg).2 ⟨ua l+1,[Nc],1⟩ (by simp);try refine run ?_
   refine ck hrm ?_;rintro _ _ ⟨z',rfl,rfl,paa⟩;refine rn ?_;exact D.rd (i+1,z') ⟨by simp only[];omega,paa⟩ (by simp only[];omega)
  .by_cases UU:i=l.length
   .subst UU;have hn:((l++[(⟨ua l+1,[Nc],1⟩:Lf)]).map (·.n))[l.length]? =some (ua l+1):=by rw[List.getElem?_map,List.getElem?_append_right (Nat.le_refl _)];simp
    rw[drop_length] at HT;try refine run ?_
    exact D.rd (l.length+1,z) ⟨by simp only[];omega,by simp only[];rw[drop_eq_nil_of_le (by omega)];exact HT⟩ (by simp only[];omega)
   .have hdn:l.drop i=[]:=drop_eq_nil_of_le (by omega);rw[hdn] at HT;try refine run ?_
    exact Wa [qf w d (ua l+1) Aa,z] rfl rfl ⟨z,by rw[hlc],by rw[hlc];rfl,by rw[hlc];exact HT⟩
 .have hlc:Qj l=(l,51):=by unfold Qj;rw[if_pos hE]
  have e2:(dk l).app (ua l+1) Nc.fr=dk l:=by unfold ze.app;rw[if_neg hE]
  rw[e2] at xp;try refine run ?_
  exact Wa [qf w d (ua l) Aa,y] rfl rfl ⟨y,by rw[hlc],by rw[hlc],by rw[hlc];exact xp⟩
def we(rs:List Rec):List Rec:=rs.foldl (λo r=>if r.k=3 then[] else o++[r]) []
def Xi(rs:List Rec)(r:Rec):we (rs++[r])=if r.k=3 then[] else we rs++[r]:=by unfold we;rw[foldl_append];rfl
def yz(rs:List Rec):(we rs).length<=rs.length:=by
 have h:∀(rs o:List Rec),(rs.foldl (λo r=>if r.k=3 then[] else o++[r]) o).length<=o.length+rs.length:=by
  intro rs
  induction rs with
  |nil=>intro o;simp
  |cons r t ih=>
   intro o;rw[foldl_cons];have:=ih (if r.k=3 then[] else o++[r]);split at this
   .rename_i h1;rw[if_pos h1];simp only[jd,Gb] at this⊢;omega
   .rename_i h1;rw[if_neg h1];simp only[Cb,Gb,jd] at this⊢;omega
 have:=h rs [];simpa[we] using this
def vU{α:Type}{a b c:α}{l:List α}(h:a∈b::l):a∈b::c::l:=by
 rcases mem_cons.1 h with rfl|h
 .exact zf ..
 .exact Rn _ (Rn _ h)
def si(a b:List Lf):Ta (a++b)=Ta a++Ta b:=by unfold Ta;simp
def Gk(f:Lf):Ta [f]=f.rs:=by unfold Ta;simp
def Ik{l:List Lf}(h:∀f∈l,∀r∈f.rs,r.code=0):6*(Ta l).length<=(dk l).used:=by
 rw[Qe];unfold Ta
 induction l with
 |nil=>simp
 |cons f t ih=>
  have h1:=Em (h f (zf ..));have h2:=ih λx hx=>h x (Rn _ hx);simp only[map_cons,flatten_cons,Cb,sum_cons];omega
def zA(t:List UInt8):Prop:=∃(r:Rec) (k:Nat),r.code=0/\k<r.fr.length/\t=r.fr.take k
def Ln(pre:List Lf)(x:xd)(post:List xd):ze:=⟨pre.map Lf.file++x::post,[]⟩
structure uw(pre:List Lf)(x:xd)(post:List xd):Prop where
 up:((pre.map Lf.file++x::post).map (·.n)).Pairwise (· < ·)
 lo:∀f∈pre.map Lf.file++x::post,0<=f.n/\f.n<=1099511627776
 good:∀f∈pre,∀r∈f.rs,r.code=0
 full:∀f∈pre,f.full=f
 used:(Ln pre x post).used<=1048576
 len:(pre.map Lf.file++x::post).length<=64
section
variable{pre:List Lf}{x y:xd}{post:List xd}
def uw.ne(h:uw pre x post):(∀f∈pre,f.n<x.n)/\(∀f∈post,x.n<f.n)/\∀f∈pre,∀g∈post,f.n<g.n:=by
 have:=h.up;simp only[Ae,map_cons,map_map] at this;rw[pairwise_append,pairwise_cons] at this;refine⟨λf hf=>this.2.2 _ (mem_map.2 ⟨f,hf,rfl⟩) _ (zf ..),λf hf=>this.2.1.1 _ (mem_map.2 ⟨f,hf,rfl⟩),λf hf g hg=>?_⟩;exact this.2.2 _ (mem_map.2 ⟨f,hf,rfl⟩) _ (Rn _ (mem_map.2 ⟨g,hg,rfl⟩))
def sy{a b:List xd}{x:xd}{ps:List Pc}(h:∀f∈a,f.n≠x.n):(ze.mk (a++x::b) ps).find x.n=some x:=by
 have hp:(a.find? λz=>decide (z.n=x.n))=none:=by
  rw[List.find?_eq_none];intro z hz hc;exact h z hz (of_decide_eq_true hc)
 unfold ze.find;simp only[List.find?_append,hp,Option.none_or];rw[List.find?_cons_of_pos (by simp)]
def uw.find(h:uw pre x post):(Ln pre x post).find x.n=some x:=sy λf hf=>by
 obtain⟨z,hz,rfl⟩:=mem_map.1 hf;have:=h.ne.1 z hz;show z.n≠x.n;omega
def uw.names(h:uw pre x post):(Ln pre x post).names=pre.map (·.n)++x.n::post.map (·.n):=by
 unfold ze.names Ln;simp only[];rw[Fu (h.up.imp λhlt=>by omega)];simp only[Ae,map_cons,map_map];rfl
def uw.U5(h:uw pre x post){a b:List Lf}{f:Lf}(e:pre=a++f::b):(Ln pre x post).find f.n=some f.file:=by
 subst e;have h1:Ln (a++f::b) x post=⟨a.map Lf.file++f.file::(b.map Lf.file++x::post),[]⟩:=by unfold Ln;simp
 rw[h1];refine sy (x:=f.file) λz hz=>?_;obtain⟨w,hw,rfl⟩:=mem_map.1 hz;have:=h.up;simp only[Ae,map_cons,map_map,Oc,cons_append] at this;rw[pairwise_append] at this;have:=this.2.2 _ (mem_map.2 ⟨w,hw,rfl⟩) _ (zf ..);show w.n≠f.n;have h3:w.n<f.n:=this;omega
def uw.rI(h:uw pre x post){rs:List Rec}{t:List UInt8}(hb:x.b=bytes rs++t):(Ln pre x post).rI x.n (bytes rs).length=Ln pre (Lf.file ⟨x.n,rs,rs.length⟩) post:=by
 unfold ze.rI ze.oO Ln;simp only[Ae,map_cons,if_true]
 have h1:(pre.map Lf.file).map (λf=>if f.n=x.n then{f with b:=f.b.take (bytes rs).length,s:=(bytes rs).length} else f)=pre.map Lf.file:=by
  rw[map_map];apply map_congr_left;intro z hz;have:=h.ne.1 z hz;exact if_neg (by show ¬z.n=x.n;omega)
 have h2:post.map (λf=>if f.n=x.n then{f with b:=f.b.take (bytes rs).length,s:=(bytes rs).length} else f)=post:=by
  have:post.map (λf=>if f.n=x.n then{f with b:=f.b.take (bytes rs).length,s:=(bytes rs).length} else f)=post.map id:=by
   apply map_congr_left;intro z hz;have:=h.ne.2.1 z hz;exact if_neg (by omega)
  rw[this,map_id]
 rw[h1,h2];congr 3;rw[hb];simp[Lf.file,take_left]
def uw.size(h:uw pre x (y::post)):(Ln pre x (y::post)).size y.n=y.b.length:=by
 unfold ze.size;have h1:Ln pre x (y::post)=⟨(pre.map Lf.file++[x])++y::post,[]⟩:=by unfold Ln;simp
 have h2:(Ln pre x (y::post)).find y.n=some y:=by
  rw[h1];refine sy λz hz=>?_;rcases mem_append.1 hz with hz|hz
  .obtain⟨w,hw,rfl⟩:=mem_map.1 hz;have:=h.ne.2.2 w hw y (zf ..);show w.n≠y.n;omega
  .rw[mem_singleton.1 hz];have:=h.ne.2.1 y (zf ..);omega
 rw[h2]
def uw.remove(h:uw pre x (y::post)):(Ln pre x (y::post)).remove y.n=Ln pre x post:=by
 have h1:Ln pre x (y::post)=⟨(pre.map Lf.file++[x])++y::post,[]⟩:=by unfold Ln;simp
 have h2:(Ln pre x (y::post)).find y.n=some y:=by
  rw[h1];refine sy λz hz=>?_;rcases mem_append.1 hz with hz|hz
  .obtain⟨w,hw,rfl⟩:=mem_map.1 hz;have:=h.ne.2.2 w hw y (zf ..);show w.n≠y.n;omega
  .rw[mem_singleton.1 hz];have:=h.ne.2.1 y (zf ..);omega
 unfold ze.remove;rw[h2];simp only[Option.isNone_some,Bool.false_eq_true,if_false];unfold Ln;simp only[filter_append,filter_nil];congr 1
 have h3:(pre.map Lf.file).filter (λf=>decide (f.n≠y.n))=pre.map Lf.file:=by
  rw[filter_eq_self];intro z hz;obtain⟨w,hw,rfl⟩:=mem_map.1 hz;have:=h.ne.2.2 w hw y (zf ..);exact Fi (by show w.n≠y.n;omega)
 have h4:=h.ne.2.1 y (zf ..)
 have h5:post.filter (λf=>decide (f.n≠y.n))=post:=by
  rw[filter_eq_self];intro z hz;have:=h.up;simp only[Ae,map_cons] at this;rw[pairwise_append,pairwise_cons,pairwise_cons] at this;have:=this.2.1.2.1 _ (mem_map.2 ⟨z,hz,rfl⟩);exact Fi (by omega)
 rw[h3,filter_cons,if_pos (Fi (by omega)),filter_cons,if_neg (by simp),h5]
def uw.drop(h:uw pre x (y::post)):uw pre x post where
 up:=by
  have:=h.up;simp only[Ae,map_cons] at this⊢;rw[pairwise_append,pairwise_cons,pairwise_cons] at this;rw[pairwise_append,pairwise_cons];exact⟨this.1,⟨λa ha=>this.2.1.1 a (Rn _ ha),this.2.1.2.2⟩,λa ha b hb=>this.2.2 a ha b (vU hb)⟩
 lo:=λf hf=>h.lo f (by
  rcases mem_append.1 hf with hf|hf
  .exact mem_append_left _ hf
  .rcases mem_cons.1 hf with rfl|hf
   .simp
   .exact mem_append_right _ (Rn _ (Rn _ hf)))
 good:=h.good
 full:=h.full
 used:=by
  have:=h.used;unfold ze.used Ln at this⊢;simp only[Ae,map_cons,sum_append,sum_cons] at this⊢;omega
 len:=by have:=h.len;simp only[Cb,Gb] at this⊢;omega
def uw.cut(h:uw pre x post){rs:List Rec}{t:List UInt8}(hb:x.b=bytes rs++t):uw pre (Lf.file ⟨x.n,rs,rs.length⟩) post where
 up:=by have:=h.up;simp only[Ae,map_cons] at this⊢;exact this
 lo:=λf hf=>by
  rcases mem_append.1 hf with hf|hf
  .exact h.lo f (mem_append_left _ hf)
  .rcases mem_cons.1 hf with rfl|hf
   .exact h.lo x (by simp)
   .exact h.lo f (mem_append_right _ (Rn _ hf))
 good:=h.good
 full:=h.full
 used:=by
  have:=h.used;unfold ze.used Ln at this⊢;simp only[Ae,map_cons,sum_append,sum_cons,hb,Cb,Lf.file] at this⊢;omega
 len:=by have:=h.len;simpa using this
def uw.last{rs:List Rec}(h:uw pre (Lf.file ⟨x.n,rs,rs.length⟩) []):Ln pre (Lf.file ⟨x.n,rs,rs.length⟩) []=dk (pre++[⟨x.n,rs,rs.length⟩]):=by
 unfold Ln dk;simp only[Ae,map_cons,map_nil,flatten_append,ze.mk.injEq,true_and]
 have h1:(pre.map Lf.ps).flatten=[]:=by
  rw[flatten_eq_nil_iff];intro z hz;obtain⟨w,hw,rfl⟩:=mem_map.1 hz;rw[<-h.full w hw];exact w.CH
 rw[h1];simp[Lf.ps]
end
end Go.Proofs.YthebagfahkebiaaGreat
namespace Go.Sl
open Go List
variable{g:World}{Q:Exit->Act->World->Prop}{n:Nat}{L:Fm}{H:HH}
def W.Ke{P:Program}{c:Code}(h:W g P c Q n L ([]::H)):W g P c Q n L H:= .mk λa w ha hw=>h a w ha hw
def D.hp{e:Exit}{H':HH}(eq:H=H')(h:D g Q e n L H'):D g Q e n L H:=eq▸h
def D.Ke{e:Exit}(h:D g Q e n L ([]::H)):D g Q e n L H:= .mk λa w ha hw=>h a w ha hw
end Go.Sl
namespace Go.Proofs.YthebagfahkebiaaGreat
open Go Go.Sl Go.Proofs.Tryz List
def CA{l:List Lf}{i:Nat}{f:Lf}(h:l[i]? =some f):ua (l.take (i+1))=f.n:=by
 obtain⟨h1,h2⟩:=List.getElem?_eq_some_iff.1 h;rw[take_succ_eq_append_getElem h1,h2,Kb]
def fG{l:List Lf}{i:Nat}{f:Lf}(h:l[i]? =some f):Ta (l.take (i+1))=Ta (l.take i)++f.rs:=by
 obtain⟨h1,h2⟩:=List.getElem?_eq_some_iff.1 h;rw[take_succ_eq_append_getElem h1,h2,si,Gk]
def XN{S:ze}{d:Nat}{h:Hp}(hd:Od S d h){pre:List Lf}{ns:List Int}(hnm:S.names=pre.map (·.n)++ns)(hfl:S.fs.length<=64)(hrd:∀f∈pre,S.Jt f.n=bytes f.rs/\(bytes f.rs).length<=1048576)(hgd:∀f∈pre,∀r∈f.rs,r.code=0)
  (PK:(S.names).length<=64){seg Aa:Int}{S':ze}{out:List Rec}(lZ:6*(Ta pre).length<=1048576)
  (hend:(ns=[]/\seg=ua pre/\Aa=0/\S'=S/\out=we (Ta pre))\/
   ∃x post rs t,S=Ln pre x post/\uw pre x post/\x.b=bytes rs++t/\x.s=x.b.length/\(∀r∈rs,r.code=0)/\zA t/\t≠[]/\seg=x.n/\Aa=(t.length+(post.map (·.b.length)).sum:Nat)/\S'=dk (pre++[⟨x.n,rs,rs.length⟩])/\out=we (Ta pre++rs)):
  Ct prog 82 [d] [h] (λres H'=>∃w u h' ho,res= .tuple #[.pointer (some ⟨w,0,none⟩),u]/\H'=[qf w d seg Aa,h',ho]/\Od S' d h'/\ia 140 out u ho):=by
 have CC:=Kt hd (by omega);refine ce func82 λg R=>?_;repeat' first|refine rn ?_|refine Ud λ_=>?_|refine W.Vp 0 rfl ?_
 rename_i w;refine ck CC ?_;rintro u _ ⟨hb,rfl,hs⟩;have hr:=hs.rs;obtain⟨up,uc,rfl⟩:=hr.len;have L0:S.names.length<=uc:=by obtain⟨a,cc,e,le,_⟩:=id hr;cases e;exact le
 refine rn ?_;refine W.Ke ?_;refine W.h0 [[],h,hb,qf w d (ua (pre.take 0)) 0,R] ?_
 refine W.lo (α:=Nat×Value×Hp) (λx=>x.1<=pre.length/\ia 140 (we (Ta (pre.take x.1))) x.2.1 x.2.2)
  (λx=>[(0,d),(4,.pointer (some ⟨w,0,none⟩)),(5,x.2.1),(6,.slice up S.names.length uc),(8,.int .i64 (x.1:Int))])
  (λx=>[x.2.2,qf w d (ua (pre.take x.1)) 0,h,hb,R]) (λx=>pre.length+1 - x.1) (0,.slice none 0 0,[]) ⟨Gi _,ia.nil _⟩ ?_
 rintro⟨i,o,ho⟩ ⟨hi,On⟩;simp only[] at hi On⊢;have hnl:S.names.length=pre.length+ns.length:=by rw[hnm];simp
 by_cases hC:i=pre.length/\ns=[]
 .obtain⟨rfl,rfl⟩:=hC;simp only[jd] at hnl;rcases hend with⟨-,rfl,rfl,rfl,rfl⟩|⟨x,post,rs,t,e,ox,-⟩
  .rw[take_length] at On⊢;try refine run ?_
   exact D.Vb [qf w d (ua pre) 0,h,ho] _ rfl rfl rfl ⟨w,o,h,ho,rfl,rfl,hd,On⟩
  .exfalso;subst e;rw[ox.names] at hnm;simp at hnm
 .obtain⟨n,rs,t,Q6,V5,iM,Vt,KT⟩:∃n rs t,S.names[i]? =some n/\S.Jt n=bytes rs++t/\(bytes rs++t).length<=1048576/\(∀r∈rs,r.code=0)/\
    ((t=[]/\∃f,pre[i]? =some f/\f.n=n/\f.rs=rs)\/(i=pre.length/\∃x post,S=Ln pre x post/\uw pre x post/\x.b=bytes rs++t/\x.s=x.b.length/\zA t/\t≠[]/\n=x.n/\seg=x.n/\Aa=(t.length+(post.map (·.b.length)).sum:Nat)/\S'=dk (pre++[⟨x.n,rs,rs.length⟩])/\out=we (Ta pre++rs))):=by
   by_cases hlt:i<pre.length
   .obtain⟨f,hf⟩:=Sh hlt;have hm:=mem_of_getElem? hf;refine⟨f.n,f.rs,[],?_,by rw[append_nil];exact(hrd f hm).1,by rw[append_nil];exact(hrd f hm).2,hgd f hm,.inl ⟨rfl,f,hf,rfl,rfl⟩⟩;rw[hnm,List.getElem?_append_left (by simpa using hlt),List.getElem?_map,hf];rfl
   .obtain rfl:i=pre.length:=by omega
    rcases hend with⟨e,-⟩|⟨x,post,rs,t,e1,e2,e3,e4,e5,e6,e7,e8,e9,xQ,I0⟩
    .exact absurd ⟨rfl,e⟩ hC
    .have Le:=e2.names;rw[<-e1,hnm] at Le;have hns:=append_cancel_left Le;have hrb:S.Jt x.n=x.b:=by unfold ze.Jt;rw[e1,e2.find]
     have hub:x.b.length<=1048576:=by
      have:=e2.used;unfold ze.used Ln at this;simp only[Ae,map_cons,sum_append,sum_cons] at this;omega
     refine⟨x.n,rs,t,?_,by rw[hrb,e3],by rw[<-e3];exact hub,e5,.inr ⟨rfl,x,post,e1,e2,e3,e4,e6,e7,rfl,e8,e9,xQ,I0⟩⟩;rw[hnm,hns,List.getElem?_append_right (by simp)];simp
  have hrl:6*rs.length<=1048576:=by
   have:=Em Vt;rw[Cb] at iM;omega
  have jx:(Ta (pre.take i)).length<=(Ta pre).length:=by
   have:=congrArg (λl=>(Ta l).length) (take_append_drop i pre);simp only[si,Cb] at this;omega
  have hrc:=XU hd n (by rw[V5];omega);rw[V5] at hrc;have hil:i<S.names.length:=(List.getElem?_eq_some_iff.1 Q6).1;try refine run ?_
  refine ck hrc ?_;rintro _ _ ⟨ub,yK,rfl,rfl,nI⟩;have hrb:=nI.rs;obtain⟨bp,bc,rfl⟩:=hrb.len;have hbc:(bytes rs++t).length<=bc:=by obtain⟨a,cc,e,le,_⟩:=id hrb;cases e;exact le
  refine rn ?_
  refine W.lo (α:=Nat×Value×Hp) (λx=>x.1<=rs.length/\ia 140 (we (Ta (pre.take i)++rs.take x.1)) x.2.1 x.2.2)
   (λx=>[(0,d),(4,.pointer (some ⟨w,0,none⟩)),(5,x.2.1),(6,.slice up S.names.length uc),(7,.slice bp (bytes rs++t).length bc),(8,.int .i64 (i:Int)),(9,.int .i64 ((bytes (rs.take x.1)).length:Int))])
   (λx=>[h,yK,x.2.2,qf w d n 0,hb,R]) (λx=>rs.length+1 - x.1) (0,o,ho) ⟨Gi _,by simpa using On⟩ ?_
  rintro⟨j,o1,NL⟩ ⟨hj,Gs⟩;simp only[] at hj Gs⊢;have mh:(bytes rs++t).length=(bytes rs).length+t.length:=Cb;have F9:=Jf rs j;by_cases hlt:j<rs.length
  .obtain⟨r,mZ⟩:=Sh hlt;have WJ:=Vt r (mem_of_getElem? mZ);have AA:=Rec.good WJ;have hle:=AA.yh;have th:rs.take (j+1)=rs.take j++[r]:=by rw[take_succ_eq_append_getElem hlt,(List.getElem?_eq_some_iff.1 mZ).2]
   have hdj:rs.drop j=r::rs.drop (j+1):=by rw[drop_eq_getElem_cons hlt,(List.getElem?_eq_some_iff.1 mZ).2]
   have zj:(bytes (rs.take (j+1))).length=(bytes (rs.take j)).length+r.fr.length:=by rw[th,aj,Cb];simp[bytes]
   have hxs:(bytes rs++t).drop (bytes (rs.take j)).length=r.fr++(bytes (rs.drop (j+1))++t):=by
    rw[<-Ld rs j,Oc,drop_left,hdj,qe,Oc]
   have Wx:(bytes rs++t).length=(bytes (rs.take j)).length+(r.fr.length+(bytes (rs.drop (j+1))++t).length):=by
    have:=congrArg List.length hxs;simp only[length_drop,Cb] at this⊢;omega
   have yo:=hrb.cut (m:=1) (lo:=(bytes (rs.take j)).length) (hi:=(bytes rs++t).length) (mx:=bc) rfl (by omega) (Nat.le_refl _) hbc;rw[take_of_length_le (by rw[length_drop];omega)] at yo;have BA:=VW AA WJ hxs yo (by rw[length_drop];omega);try refine run ?_
   refine WX.ei (lo:=(bytes (rs.take j)).length) rfl rfl (by omega) hbc rfl ?_;refine cq BA ?_;have O0:=yz (Ta (pre.take i)++rs.take j);rw[Cb,Fe] at O0;by_cases jW:r.k=3
   .repeat' first|refine run ?_|refine al λ_=>?_
    refine D.as 9 (.int .i64 ((bytes (rs.take (j+1))).length:Int)) rfl (by rw[zj];rfl) ?_;refine D.Ke ?_;exact D.rd (j+1,.slice none 0 0,[]) ⟨by simp only[];omega,by simp only[];rw[th,<-Oc,Xi,if_pos jW];exact ia.nil _⟩ (by simp only[];omega)
   .repeat' first|refine run ?_|refine al λ_=>?_
    refine Kp [r] (λv1 h1 hs1=>?_);refine Ys (zb:=by simp only[Gb,jd,Cb] at O0⊢;omega) Gs hs1.rs (λv2 h2 Oa=>?_);try refine run ?_
    refine D.as 9 (.int .i64 ((bytes (rs.take (j+1))).length:Int)) rfl (by rw[zj];rfl) ?_;exact D.rd (j+1,v2,h2) ⟨by simp only[];omega,by simp only[];rw[th,<-Oc,Xi,if_neg jW];exact Oa⟩ (by simp only[];omega)
  .obtain rfl:j=rs.length:=by omega
   rw[take_length] at Gs F9⊢;rcases KT with⟨rfl,f,hf,rfl,rfl⟩|⟨rfl,x,post,rfl,ox,qX,hxs,hsh,htn,rfl,rfl,rfl,rfl,rfl⟩
   .simp only[jd,Nat.add_zero] at mh;have hip:=(List.getElem?_eq_some_iff.1 hf).1;try refine run ?_
    rw[<-fG hf] at Gs;rw[<-CA hf];exact D.rd (i+1,o1,NL) ⟨by simp only[];omega,Gs⟩ (by simp only[];omega)
   .obtain⟨r,k,WJ,hk,rfl⟩:=hsh;have AA:=Rec.good WJ;have hle:=AA.yh;have htl:0<(r.fr.take k).length:=length_pos_iff.2 htn;have yo:=hrb.cut (m:=1) (lo:=(bytes rs).length) (hi:=(bytes rs++r.fr.take k).length) (mx:=bc) rfl (by omega) (Nat.le_refl _) hbc;rw[take_of_length_le (by rw[length_drop];omega),drop_left] at yo;have BA:=vM AA hk rfl htn yo;try refine run ?_
    refine WX.ei (lo:=(bytes rs).length) rfl rfl (by omega) hbc rfl ?_;refine cq BA ?_;repeat' first|refine run ?_|refine al λ_=>?_
    have oxc:=ox.cut qX;have R6:=fR hd ox.find hxs (n:=(bytes rs).length) (by rw[qX,Cb];omega) (by rw[qX];omega) rfl;rw[ox.rI qX] at R6;refine ck R6 ?_;rintro _ _ ⟨y0,rfl,rfl,Bk⟩;simp only[can];have Le:=ox.names;have Naa:(Ln pre x post).names.length=pre.length+1+post.length:=by rw[Le];simp;omega
    have PX:=hr.cut (m:=1) (lo:=pre.length+1) (hi:=(Ln pre x post).names.length) (mx:=uc) rfl (by omega) (Nat.le_refl _) L0
    have hdn:(Ln pre x post).names.drop (pre.length+1)=post.map (·.n):=by
     rw[Le,<-drop_drop,show pre.length=(pre.map (·.n)).length from(We _).symm,drop_left];rfl
    rw[take_of_length_le (by rw[length_drop];omega),hdn] at PX;have nO:(post.map (·.n)).length=post.length:=We _;have Nn:=ox.used;unfold ze.used Ln at Nn;simp only[Ae,map_cons,sum_append,sum_cons,qX,Cb] at Nn;try refine run ?_
    refine WX.as 84 (.int .i64 ((pre.length+1:Nat):Int)) rfl rfl ?_;refine WX.ei (lo:=pre.length+1) rfl rfl (by omega) L0 rfl ?_;generalize Oi (.slice up (Ln pre x post).names.length uc) 1 (pre.length+1) (Ln pre x post).names.length uc=z at PX⊢;try refine run ?_
    have e0:(((bytes rs++r.fr.take k).length:Int) - ((bytes rs).length:Int))=(((r.fr.take k).length+((post.take 0).map (·.b.length)).sum:Nat):Int):=by
     simp only[Cb,take_zero,map_nil,sum_nil];omega
    rw[e0]
    refine W.lo (α:=Nat×Hp) (λx1=>x1.1<=post.length/\Od (Ln pre (Lf.file ⟨x.n,rs,rs.length⟩) (post.drop x1.1)) d x1.2/\uw pre (Lf.file ⟨x.n,rs,rs.length⟩) (post.drop x1.1))
     (λx1=>[(0,d),(4,.pointer (some ⟨w,0,none⟩)),(5,o1),(85,z),(86,.int .i64 ((post.map (·.n)).length:Int)),(87,.int .i64 (x1.1:Int))])
     (λx1=>[x1.2,NL,qf w d x.n (((r.fr.take k).length+((post.take x1.1).map (·.b.length)).sum:Nat):Int),hb,R]) (λx1=>post.length - x1.1) (0,y0) ⟨Gi _,Bk,oxc⟩ ?_
    rintro⟨q,y1⟩ ⟨hq,RZ,oq⟩;simp only[] at hq RZ oq⊢;by_cases hlt:q<post.length
    .obtain⟨y,hy⟩:=Sh hlt;have hyn:(post.map (·.n))[q]? =some y.n:=by rw[List.getElem?_map,hy];rfl
     have rQ:post.drop q=y::post.drop (q+1):=by rw[drop_eq_getElem_cons hlt,(List.getElem?_eq_some_iff.1 hy).2]
     have th:((post.take (q+1)).map (·.b.length)).sum=((post.take q).map (·.b.length)).sum+y.b.length:=by
      rw[take_succ_eq_append_getElem hlt,(List.getElem?_eq_some_iff.1 hy).2];simp
     have hle2:((post.take (q+1)).map (·.b.length)).sum<=(post.map (·.b.length)).sum:=by
      have:=congrArg (λl=>(l.map (λf:xd=>f.b.length)).sum) (take_append_drop (q+1) post);simp only[Ae,sum_append] at this;omega
     rw[rQ] at RZ oq;have hsz:=CG RZ y.n;rw[oq.size] at hsz;have hrm:=Ny RZ y.n (by show(0:Nat)<=_;omega);rw[oq.remove] at hrm;try refine run ?_
     refine cX (ml [6,1,1]) [qf w d x.n (((r.fr.take k).length+((post.take q).map (·.b.length)).sum:Nat):Int)] ?_;try refine run ?_
     refine cq hsz ?_;try refine run ?_
     refine ck hrm ?_;rintro _ _ ⟨y2,rfl,rfl,Hj⟩;refine rn ?_;have e1:((((r.fr.take k).length+((post.take q).map (·.b.length)).sum:Nat):Int)+(y.b.length:Int))=(((r.fr.take k).length+((post.take (q+1)).map (·.b.length)).sum:Nat):Int):=by rw[th];omega
     rw[e1];exact D.rd (q+1,y2) ⟨by simp only[];omega,Hj,oq.drop⟩ (by simp only[];omega)
    .obtain rfl:q=post.length:=by omega
     rw[drop_length] at RZ oq;rw[take_length];rw[oq.last] at RZ;try refine run ?_
     exact D.Vb [qf w d x.n (((r.fr.take k).length+(post.map (·.b.length)).sum:Nat):Int),y1,NL] _ rfl rfl rfl ⟨w,o1,y1,NL,rfl,rfl,RZ,by rw[<-take_length (l:=pre)];exact Gs⟩
end Go.Proofs.YthebagfahkebiaaGreat
namespace Go.Sl
open Go
section
variable{H:Type}{enc:TypeId×Value->H}{P:Program}{w:World}{t ft i off k:Nat}{ag:Bool}{cs:List Value}{v:Value}
def Rf{H:Type}(enc:TypeId×Value->H)(P:Program)(w:World)(t:Nat)(cs:List Value):Prop:=
 ∃(fuel:Nat) (x:DataW H×List MemPlace),DataW.trod enc P w 0 (λ_=>true) true fuel t cs=some x/\∀l∈x.1.weights P t,l<=reachBytes
def TL.cellsOf(h:TL P t k ag):P.cellsOf t=k:=by
 obtain⟨s,_⟩:=h;unfold Program.cellsOf;rw[s];rfl
def Rf.len[ft':ye P t i off ft][tl:TL P t k ag](h:Rf enc P w t cs):cs.length=k:=by
 obtain⟨fuel,x,hx,_⟩:=h;obtain⟨fs,fd,hu,_⟩:=ft'.h;obtain⟨xs,n,_,_,hl,_⟩:=DataW.trod_struct hu hx;rw[hl,tl.cellsOf]
def Rf.field(i:Nat)[ft':ye P t i off ft][tl:TL P ft k ag](h:Rf enc P w t cs):Rf enc P w ft ((cs.drop off).take k):=by
 obtain⟨fuel,x,hx,hw⟩:=h;obtain⟨fs,fd,hu,hf,rfl,rfl⟩:=ft'.h;obtain⟨xs,n,_,rfl,hl,hlen,BU⟩:=DataW.trod_struct hu hx;have h1:=BU i fd hf;have hi:i<xs.length:=by rw[hlen];exact(Array.getElem?_eq_some_iff.1 hf).1
 rw[oh hi,tl.cellsOf] at h1;refine⟨n,xs[i],h1,?_⟩;simp only[DataW.weights,hu] at hw;exact xe hw (i:=i) (by rw[List.getElem?_map,Array.getElem?_toList,hf];rfl) (by rw[List.getElem?_map,oh hi];rfl)
def Rf.rd{α:Type}[Nb α]{I:World->α->Prop}(hr:PE P t α I)(h:Rf enc P w t cs):∃y:α,cs=Nb.enc y/\I w y:=by
 obtain⟨fuel,x,hx,hw⟩:=h;exact hr H enc w fuel cs x hx hw
def Rf.int[ht:TU P t (.int .i64)](h:Rf enc P w t cs):∃n,cs=[.int .i64 n]/\I64 n:=h.rd FZ
def Rf.bool[ht:TU P t .bool](h:Rf enc P w t cs):∃b,cs=[.bool b]:=let⟨b,h1,_⟩:=h.rd GW;⟨b,h1⟩
def gJ{α:Type}[Nb α]{I:World->α->Prop}(h:∀(H:Type) (enc:TypeId×Value->H) (w:World) (cs:List Value),Rf enc P w t cs->∃y:α,cs=Nb.enc y/\I w y):PE P t α I:=
 λH enc w fuel cs x hx hw=>h H enc w cs ⟨fuel,x,hx,hw⟩
end
section args
variable{H:Type}{enc:TypeId×Value->H}{P:Program}{W:World}{r:Reach}{base t i off ft:Nat}{v:Value}{d:DataW H}{p:List MemPlace}
def Lk{α:Type}[E:Nb α]{I:World->α->Prop}(i:Nat)[tf:ye P t i off ft](he:PE P t α I)(hv:Value.okWide P W r base t v)(h:DataW.Trod enc P W 0 (λ_=>true) true t v d p)
  (lC:∀l∈d.weights P t,l<=reachBytes):∃y:α,v= .agg (Nb.enc y).toArray/\I W y:=by
 obtain⟨fs,fd,hu,_⟩:=tf.h;obtain⟨cs,rfl,_⟩:=WideShapes.okWide_struct hu hv;obtain⟨fuel,hf⟩:=h;obtain⟨y,h1,h2⟩:=he H enc W fuel _ _ hf lC;exact⟨y,by rw[<-h1];rfl,h2⟩
end args
end Go.Sl
namespace Go.Proofs.YthebagfahkebiaaGreat
open Go Go.Sl Go.Proofs.Tryz List
def U8{s y:Nat}:sH (s^^^y)=(if(s^^^y) &&& 1=1 then(s/2^1)^^^3988292384 else s/2^1)^^^(y/2):=by
 have h:(s^^^y)/2^1=(s/2^1)^^^(y/2):=Nat.xor_div_two;unfold sH;rw[h];split
 .rw[Nat.xor_assoc,Nat.xor_assoc,Nat.xor_comm (y/2)]
 .rfl
def aT{r:Nat}(hr:r<4294967296)(x:UInt8):Ct prog 320 [.int .u32 (r:Int),.int .u8 (x.toNat:Int)] [] (λv H'=>v= .int .u32 (Cs r x:Int)/\H'=[]):=by
 have hx:=Dh x;refine cr func320 λg R=>?_;refine W.lo (α:=Nat×Nat) (λy=>y.1<=8/\y.2<4294967296/\xJ y.1 (r^^^x.toNat)=y.2^^^(x.toNat/2^y.1)) (λy=>[(0,.int .u32 (y.2:Int)),(1,.int .u8 (x.toNat:Int)),(5,.int .i64 (y.1:Int))]) (λ_=>[R]) (λy=>8 - y.1) (0,r) ⟨Gi _,hr,by simp only[Nat.pow_zero,Nat.div_one];rfl⟩ ?_;rintro⟨i,s⟩ ⟨hi,hs,he⟩;simp only[] at hi hs he⊢;by_cases V8:i<8
 .have hq:x.toNat/2^i<=x.toNat:=Nat.div_le_self _ _;have hxs:s^^^(x.toNat/2^i)<4294967296:=Eo hs (by omega)
  have hn:xJ (i+1) (r^^^x.toNat)=(if(s^^^(x.toNat/2^i)) &&& 1=1 then(s/2^1)^^^3988292384 else s/2^1)^^^(x.toNat/2^(i+1)):=by
   show sH (xJ i (r^^^x.toNat))=_;have J6:x.toNat/2^i/2=x.toNat/2^(i+1):=by rw[Nat.div_div_eq_div_mul,<-Nat.pow_succ]
   rw[he,U8,J6]
  have S3:i<=IntKind.u32.bits:=by show i<=32;omega
  by_cases hl:(s^^^(x.toNat/2^i)) &&& 1=1
  .rw[if_pos hl] at hn;repeat' first|refine run ?_|refine WX.conv rfl rfl (IntWalk.u32_in _ (by omega)) ?_|refine WX.Fo (a:=x.toNat) (m:=i) rfl rfl S3 rfl ?_|refine WX.Fo (m:=1) rfl rfl (by decide) rfl ?_|refine WX.yJ (a:=s) (b:=x.toNat/2^i) rfl rfl hs (by omega) rfl ?_|refine WX.oN (a:=s^^^(x.toNat/2^i)) (b:=1) rfl rfl hxs (by decide) rfl ?_|refine WX.yJ (b:=3988292384) rfl rfl (by omega) (by decide) rfl ?_
   exact D.rd (i+1,(s/2^1)^^^3988292384) ⟨by simp only[];omega,Eo (by omega) (by decide),hn⟩ (by simp only[];omega)
  .rw[if_neg hl] at hn;repeat' first|refine run ?_|refine WX.conv rfl rfl (IntWalk.u32_in _ (by omega)) ?_|refine WX.Fo (a:=x.toNat) (m:=i) rfl rfl S3 rfl ?_|refine WX.Fo (m:=1) rfl rfl (by decide) rfl ?_|refine WX.yJ (a:=s) (b:=x.toNat/2^i) rfl rfl hs (by omega) rfl ?_|refine WX.oN (a:=s^^^(x.toNat/2^i)) (b:=1) rfl rfl hxs (by decide) rfl ?_
   exact D.rd (i+1,s/2^1) ⟨by simp only[];omega,by simp only[];omega,hn⟩ (by simp only[];omega)
 .obtain rfl:i=8:=by omega
  have h0:x.toNat/2^8=0:=Nat.div_eq_of_lt (by omega);rw[h0,Nat.xor_zero] at he;try refine run ?_
  exact Wa [] rfl rfl ⟨by rw[<-he];rfl,rfl⟩
def zJ{bs:List UInt8}{v:Value}{h:Hp}(hb:Rs bs v h)(hl:bs.length<=1099511627776):
  Ct prog 289 [.int .u32 0,v] [h] (λr H'=>r= .int .u32 (tg bs:Int)/\H'=[h]):=by
 have hs:(0:Nat)<4294967296:=by decide
 refine ce func289 λg R=>?_;repeat' first|refine rn ?_|refine WX.pN (a:=0) rfl hs rfl ?_
 refine W.lo (α:=Nat) (λk=>k<=bs.length) (λk=>[(1,v),(5,.int .u32 (((bs.take k).foldl Cs (4294967295^^^0):Nat):Int)),(6,.int .i64 (k:Int))]) (λ_=>[h,R]) (λk=>bs.length - k) 0 (Gi _) ?_;intro k hk;have AJ:(bs.take k).foldl Cs (4294967295^^^0)<4294967296:=tH (Eo (by decide) hs);by_cases hlt:k<bs.length
 .obtain⟨x,hx⟩:=Sh hlt;obtain⟨h1,h2⟩:=List.getElem?_eq_some_iff.1 hx
  have Le:(bs.take (k+1)).foldl Cs (4294967295^^^0)=Cs ((bs.take k).foldl Cs (4294967295^^^0)) x:=by
   rw[take_succ_eq_append_getElem h1,h2,foldl_append];rfl
  try refine run ?_
  refine cq (aT AJ x) ?_;rw[<-Le];try refine run ?_
  exact D.re (k+1)
 .obtain rfl:k=bs.length:=by omega
  rw[take_length] at AJ⊢;repeat' first|refine run ?_|refine WX.pN rfl AJ rfl ?_
  exact vj [h]
structure Ch where
 ep:Int
 ms:List Mem
 ln:Option Mem
 deriving DecidableEq
def Ch.all(c:Ch):List Mem:=c.ms++c.ln.toList
def Ch.cfg(c:Ch):Va:=⟨c.ep,(c.ms.length:Int),c.ms.getD 0 Mem.z,c.ms.getD 1 Mem.z,c.ms.getD 2 Mem.z,c.ms.getD 3 Mem.z,c.ln.isSome,c.ln.getD Mem.z⟩
structure xg(c:Ch):Prop where
 e1:1<=c.ep
 e2:c.ep<=1099511627776
 l1:1<=c.ms.length
 up:(c.all.map (·.nd)).Pairwise (· ≠ ·)
 rg:∀m∈c.all,0<=m.nd/\m.nd<4/\1<=m.sn/\m.sn<=c.ep
def four:∀{l:List Int},l.Pairwise (· ≠ ·)->(∀x∈l,0<=x/\x<4)->l.length<=4
 |[],_,_=>by decide
 |[_],_,_=>by simp
 |[_,_],_,_=>by simp
 |[_,_,_],_,_=>by simp
 |[_,_,_,_],_,_=>by simp
 |a::b::c::d::e::t,h,k=>by
  have ha:=k a (by simp);have hb:=k b (by simp);have hc:=k c (by simp);have hd:=k d (by simp);have he:=k e (by simp);simp only[pairwise_cons,mem_cons,forall_eq_or_imp] at h;obtain⟨⟨h1,h2,h3,h4,_⟩,⟨h5,h6,h7,_⟩,⟨h8,h9,_⟩,⟨SV,_⟩,_⟩:=h;exfalso;omega
def xg.l4{c:Ch}(h:xg c):c.ms.length+c.ln.toList.length<=4:=by
 have:=four h.up (λx hx=>by
  obtain⟨m,hm,rfl⟩:=mem_map.1 hx;exact⟨(h.rg m hm).1,(h.rg m hm).2.1⟩)
 rw[We] at this;unfold Ch.all at this;rw[Cb] at this;exact this
def Ic(n:Nat):Ch:=⟨1,(List.range n).map λ(i:Nat)=>⟨(i:Int),1⟩,none⟩
def dS{n:Nat}(h1:1<=n)(h2:n<=4):xg (Ic n):=by
 refine⟨Int.le_refl 1,by show(1:Int)<=1099511627776;decide,by simpa[Ic] using h1,?_,?_⟩
 .match n,h1,h2 with
  |1,_,_=>decide
  |2,_,_=>decide
  |3,_,_=>decide
  |4,_,_=>decide
 .match n,h1,h2 with
  |1,_,_=>decide
  |2,_,_=>decide
  |3,_,_=>decide
  |4,_,_=>decide
variable{l:List Mem}{m:Mem}{k:Nat}{x:Va}
def Mem.enc(m:Mem):List Value:=[m.nd,m.sn]
instance:Nb Mem:=⟨2,Mem.enc,λ_=>rfl,λ_=>rfl,by decide⟩
abbrev Mc(b:Nat)(c:Va):Hp:=[(b,.cells (List.toArray c.enc) 40 (0,0))]
def DY{c:Ch}(h:c.ms.length<=4):∃post,c.cfg.enc=[.int .i64 c.cfg.ep,.int .i64 c.cfg.n]++(Ib c.ms++post):=by
 obtain⟨ep,ms,ln⟩:=c;simp only[] at h
 match ms,h with
 |[],_=>exact⟨_,rfl⟩
 |[_],_=>exact⟨_,rfl⟩
 |[_,_],_=>exact⟨_,rfl⟩
 |[_,_,_],_=>exact⟨_,rfl⟩
 |[_,_,_,_],_=>exact⟨_,rfl⟩
theorem EY {c : Ch} (h : c.ms.length ≤ 4) (b : Nat) : Rs c.ms (.slice (some ⟨b, 2, none⟩) c.ms.length 4) (Mc b c.cfg) := by
 obtain ⟨post, e⟩ := DY h
 exact Rs.part e rfl h
def MF{xs:List Mem}{v:Value}{h:Hp}(hs:Rs xs v h)(hl:xs.length<=1000000):
  Ct prog 237 [v] [h] (λr H'=>∃h',ia 37 xs r h'/\H'=[h',h]):=by
 obtain⟨p,c,rfl⟩:=hs.len;refine ce func237 λg R=>?_;simp only[can]
 cases p with
 |none=>
  have hx:xs=[]:=by
   obtain⟨a,c',e,_,f⟩:=hs;cases e
   cases xs with
   |nil=>rfl
   |cons y r=>obtain⟨b,off,e,_⟩:=f 0 y rfl;cases e
  subst hx;repeat' first|refine run ?_|refine WX.cO rfl rfl rfl ?_
  exact Wa [[],h] rfl rfl ⟨_,ia.nil _,rfl⟩
 |some a=>
  repeat' first|refine run ?_|refine WX.cO rfl rfl rfl ?_
  refine WX.lit (ys:=([]:List Mem)) (vs:=[]) rfl rfl rfl rfl rfl rfl (by decide) rfl (λv1 h1 hs1=>?_);try refine run ?_
  refine Ys (zb:=by simp only[jd];omega) hs1 hs (λv2 h2 Oa=>?_);rw[nil_append] at Oa;try refine run ?_
  exact Wa [h2,h] rfl rfl ⟨_,Oa,rfl⟩
def Jw{c:Ch}(h4:c.ms.length<=4):
  Ct prog 173 [.agg (List.toArray c.cfg.enc)] [] (λr H'=>∃h',ia 37 c.all r h'/\H'=[h']):=by
 have yw:=EY h4;obtain⟨ep,ms,ln⟩:=c;simp only[] at h4 yw;refine ce func173 λg R=>?_;simp only[can]
 cases ln with
 |none=>
  repeat' first|refine run ?_|refine Ud λ_=>?_
  rename_i b;refine WX.K3 (hi:=ms.length) rfl rfl h4 rfl ?_;refine ck (MF (yw b) (by omega)) ?_;rintro _ _ ⟨h1,hs1,rfl⟩;refine rn ?_
  exact Wa [h1] rfl rfl ⟨h1,by simpa[Ch.all] using hs1,rfl⟩
 |some m=>
  repeat' first|refine run ?_|refine Ud λ_=>?_
  rename_i b;refine WX.K3 (hi:=ms.length) rfl rfl h4 rfl ?_;refine ck (MF (yw b) (by omega)) ?_;rintro _ _ ⟨h1,hs1,rfl⟩;refine rn ?_;refine Kp [m] (λv2 h2 Oa=>?_);refine Ys (zb:=by simp only[Gb,jd];omega) hs1 Oa.rs (λv3 h3 Fc=>?_);try refine run ?_
  exact Wa [h3] rfl rfl ⟨h3,by simpa[Ch.all] using Fc,rfl⟩
def zy{c:Ch}(ok:xg c):
  Ct prog 173 [.agg (List.toArray c.cfg.enc)] [] (λr H'=>∃h',ia 37 c.all r h'/\H'=[h']):=
 Jw (by have:=ok.l4;omega)
def mj(n:Int):Ct prog 236 [n] [] (λr H'=>r= .bool (decide (0<=n/\n<4))/\H'=[]):=by
 refine ce func236 λg R=>?_;simp only[can];by_cases h0:0<=n
 .try refine run ?_
  exact Wa [] rfl rfl ⟨by simp[h0],rfl⟩
 .try refine run ?_
  exact Wa [] rfl rfl ⟨by simp[h0],rfl⟩
def Ij(l:List Mem):List Value:=[.bool (l.any λm=>m.nd==0),.bool (l.any λm=>m.nd==1),.bool (l.any λm=>m.nd==2),.bool (l.any λm=>m.nd==3)]
def iJ{n:Int}(h0:0<=n)(h4:n<4):(Ij l)[n.toNat]? =some (.bool (l.any λm=>m.nd==n)):=by
 rcases(by omega:n=0\/n=1\/n=2\/n=3) with rfl|rfl|rfl|rfl<;>rfl
def jJ(h0:0<=m.nd)(h4:m.nd<4):(Ij l).set m.nd.toNat (.bool true)=Ij (l++[m]):=by
 unfold Ij;rcases(by omega:m.nd=0\/m.nd=1\/m.nd=2\/m.nd=3) with h|h|h|h<;>rw[h]<;>simp[any_append,h]
def CR{c:Ch}(ok:xg c)(hk:c.all[k]? =some m):((c.all.take k).any λx=>x.nd==m.nd)=false:=by
 rw[any_eq_false];intro x hx;obtain⟨h1,h2⟩:=List.getElem?_eq_some_iff.1 hk;have e:c.all=c.all.take k++m::c.all.drop (k+1):=by rw[<-h2,<-drop_eq_getElem_cons h1,take_append_drop]
 have hp:=ok.up;rw[e,Ae,map_cons,pairwise_append] at hp;have:=hp.2.2 x.nd (mem_map.2 ⟨x,hx,rfl⟩) m.nd (zf ..);simpa using this
def Va.Ss(x:Va):List Mem:=[x.f0,x.f1,x.f2,x.f3]
def bf(x:Va):Ch:=⟨x.ep,x.Ss.take x.n.toNat,if x.jo=true then some x.le else none⟩
instance(c:Ch):Decidable (xg c):=decidable_of_iff (1<=c.ep/\c.ep<=1099511627776/\1<=c.ms.length/\(c.all.map (·.nd)).Pairwise (· ≠ ·)/\∀m∈c.all,0<=m.nd/\m.nd<4/\1<=m.sn/\m.sn<=c.ep)
 ⟨λ⟨a,b,c,d,e⟩=>⟨a,b,c,d,e⟩,λ⟨a,b,c,d,e⟩=>⟨a,b,c,d,e⟩⟩
abbrev Nd(x:Va):Prop:=(1<=x.n/\x.n<=4)/\(bf x).cfg=x/\xg (bf x)
def Ft{c:Ch}(h:c.ms.length<=4):bf c.cfg=c:=by
 obtain⟨ep,ms,ln⟩:=c;simp only[] at h;have hl:(if(ln.isSome)=true then some (ln.getD Mem.z) else none)=ln:=by cases ln<;>rfl
 have h2:(if(Ch.cfg ⟨ep,ms,ln⟩).jo=true then some (Ch.cfg ⟨ep,ms,ln⟩).le else none)=ln:=hl;unfold bf;rw[h2]
 match ms,h with
 |[],_=>rfl
 |[_],_=>rfl
 |[_,_],_=>rfl
 |[_,_,_],_=>rfl
 |[_,_,_,_],_=>rfl
def vv{c:Ch}(ok:xg c):Nd c.cfg:=by
 have h4:=ok.l4;have h1:=ok.l1;have e:=Ft (c:=c) (by omega);exact⟨⟨by show(1:Int)<=(c.ms.length:Int);omega,by show(c.ms.length:Int)<=4;omega⟩,by rw[e],by rw[e];exact ok⟩
def VV(x:Va)(b:Nat)(hk:k<=4):Rs (x.Ss.drop k) (.slice (some (TV b 2 2 4 k)) (4 - k) (4 - k)) (Mc b x):=by
 rcases(by omega:k=0\/k=1\/k=2\/k=3\/k=4) with rfl|rfl|rfl|rfl|rfl
 .exact Rs.part (pre:=x.enc.take 2) (post:=x.enc.drop 10) (xs:=x.Ss) rfl rfl (Nat.le_refl _)
 .exact Rs.part (pre:=x.enc.take 4) (post:=x.enc.drop 10) (xs:=x.Ss.drop 1) rfl rfl (Nat.le_refl _)
 .exact Rs.part (pre:=x.enc.take 6) (post:=x.enc.drop 10) (xs:=x.Ss.drop 2) rfl rfl (Nat.le_refl _)
 .exact Rs.part (pre:=x.enc.take 8) (post:=x.enc.drop 10) (xs:=x.Ss.drop 3) rfl rfl (Nat.le_refl _)
 .exact Rs.none _ rfl
def DS(hk:x.n=(k:Int))(yU:k<=4)(h:(bf x).cfg=x):∀m∈x.Ss.drop k,m=Mem.z:=by
 obtain⟨ep,n,f0,f1,f2,f3,jo,le⟩:=x;simp only[] at hk;subst hk;rcases(by omega:k=0\/k=1\/k=2\/k=3\/k=4) with rfl|rfl|rfl|rfl|rfl<;>simp[bf,Ch.cfg,Va.Ss] at h⊢<;>grind
def oP(h:(bf x).cfg=x)(hj:x.jo=false):x.le=Mem.z:=by
 have e:(bf x).cfg.le=(if x.jo=true then some x.le else none).getD Mem.z:=rfl;rw[h,hj] at e;exact e
def bI(hk:x.n=(k:Int))(yU:k<=4)(h1:∀m∈x.Ss.drop k,m=Mem.z)(h2:x.jo=false->x.le=Mem.z):(bf x).cfg=x:=by
 obtain⟨ep,n,f0,f1,f2,f3,jo,le⟩:=x;simp only[] at hk h2;subst hk;rcases(by omega:k=0\/k=1\/k=2\/k=3\/k=4) with rfl|rfl|rfl|rfl|rfl<;>cases jo<;>simp[bf,Ch.cfg,Va.Ss] at h1 h2⊢<;>simp[h1,h2]
def Br(c:Ch)(k:Nat):Prop:=∀(i:Nat) (m:Mem),i<k->c.all[i]? =some m->(0<=m.nd/\m.nd<4/\1<=m.sn/\m.sn<=c.ep)/\∀(j:Nat) (m':Mem),j<i->c.all[j]? =some m'->m'.nd≠m.nd
def Br.all{c:Ch}(h:Br c c.all.length)(e1:1<=c.ep)(e2:c.ep<=1099511627776)(l1:1<=c.ms.length):xg c:=by
 refine⟨e1,e2,l1,?_,λm hm=>?_⟩
 .rw[pairwise_iff_getElem];intro i j hi hj hij;rw[We] at hi hj;rw[getElem_map,getElem_map];exact(h j _ hj (oh hj)).2 i _ hij (oh hi)
 .obtain⟨i,hi⟩:=mem_iff_getElem?.1 hm;exact(h i m (List.getElem?_eq_some_iff.1 hi).1 hi).1
def xg.L3{c:Ch}(ok:xg c)(k:Nat):Br c k:=λi m _ hi=>⟨ok.rg m (mem_of_getElem? hi),λj m' hj hm'=>by
 have hp:=ok.up;rw[pairwise_iff_getElem] at hp;obtain⟨a1,a2⟩:=List.getElem?_eq_some_iff.1 hi;obtain⟨b1,b2⟩:=List.getElem?_eq_some_iff.1 hm';have:=hp j i (by rw[We];exact b1) (by rw[We];exact a1) hj;rw[getElem_map,getElem_map,a2,b2] at this;exact this⟩
def kJ{c:Ch}(hk:c.all[k]? =some m):((c.all.take k).any λx=>x.nd==m.nd)=false↔∀(j:Nat) (m':Mem),j<k->c.all[j]? =some m'->m'.nd≠m.nd:=by
 rw[any_eq_false];constructor
 .intro h j m' hj hm';have:=h m' (mem_iff_getElem?.2 ⟨j,by rw[List.getElem?_take,if_pos hj];exact hm'⟩);simpa using this
 .intro h x hx;obtain⟨j,hj⟩:=mem_iff_getElem?.1 hx;have hlt:=(List.getElem?_eq_some_iff.1 hj).1;rw[Fe] at hlt;rw[List.getElem?_take,if_pos (by omega)] at hj;have:=h j x (by omega) hj;simpa using this
def rq(m m':Mem):Db [.i,.i] m.enc m'.enc=some (decide (m=m')):=by
 obtain⟨a,b⟩:=m;obtain⟨a',b'⟩:=m';obtain⟨r,e,i⟩:=Qh (ks:=[.i,.i]) (xs:=Mem.enc ⟨a,b⟩) (ys:=Mem.enc ⟨a',b'⟩) rfl rfl;rw[e];congr 1
 have h2:(Mem.enc ⟨a,b⟩=Mem.enc ⟨a',b'⟩)↔(Mem.mk a b=Mem.mk a' b'):=by
  constructor
  .intro h;cases h;rfl
  .intro h;cases h;rfl
 rw[h2] at i;by_cases hb:Mem.mk a b=Mem.mk a' b'
 .rw[Fi hb,i.2 hb]
 .rw[gj hb]
  cases r with
  |false=>rfl
  |true=>exact absurd (i.1 rfl) hb
def pq(x:Va):Ct prog 172 [.agg (List.toArray x.enc)] [] (λr H'=>r= .bool (decide (Nd x))/\H'=[]):=by
 by_cases qk: ¬(1<=x.ep/\x.ep<=1099511627776/\1<=x.n/\x.n<=4)
 .have hno: ¬Nd x:=λ⟨h1,h2,h3⟩=>qk ⟨h3.e1,h3.e2,h1⟩;rw[gj hno];clear hno;refine ce func172 λg R=>?_;simp only[can];by_cases g1:x.ep<1
  .repeat' first|refine run ?_|refine Ud λ_=>?_
   exact vj []
  by_cases g2:1099511627776<x.ep
  .repeat' first|refine run ?_|refine Ud λ_=>?_
   exact vj []
  by_cases g3:x.n<1
  .repeat' first|refine run ?_|refine Ud λ_=>?_
   exact vj []
  have g4:4<x.n:=by omega
  repeat' first|refine run ?_|refine Ud λ_=>?_
  exact vj []
 obtain⟨YW,F1,yc,LX⟩:=Classical.not_not.1 qk;clear qk;obtain⟨k,hk⟩:∃k:Nat,x.n=(k:Int):=⟨x.n.toNat,by omega⟩;have yU:k<=4:=by omega
 have Lt:1<=k:=by omega
 have yw:=λb=>VV x b yU;have hrl:(x.Ss.drop k).length=4 - k:=by rw[length_drop];rfl
 have hzr:=DS hk yU;have I1:=bI hk yU;refine ce func172 λg R=>?_;repeat' first|refine rn ?_|refine Ud λ_=>?_
 rename_i b;refine WX.CY (lo:=k) rfl (by rw[<-hk];rfl) yU rfl ?_;try refine run ?_
 have hz:=yw b;refine W.lo (α:=Nat) (λj=>j<=4 - k/\∀(i:Nat) (m:Mem),i<j->(x.Ss.drop k)[i]? =some m->m=Mem.z) (λj=>[(1,b),(29,.slice (some (TV b 2 2 4 k)) (4 - k) (4 - k)),(30,.int .i64 (4 - k:Nat)),(31,.int .i64 (j:Int))]) (λ_=>[Mc b x,R]) (λj=>4 - k - j) 0 ⟨Gi _,λi m hi=>absurd hi (Nat.not_lt_zero _)⟩ ?_;rintro j ⟨hj,hall⟩;by_cases hlt:j<4 - k
 .obtain⟨m,hm⟩:∃m,(x.Ss.drop k)[j]? =some m:=⟨_,oh (by omega)⟩;have tm:=rq m Mem.z;by_cases pQ:m=Mem.z
  .rw[Fi pQ] at tm;repeat' first|refine run ?_|refine al λ_=>?_|refine WX.xl rfl rfl tm rfl ?_
   refine D.rd (j+1) ⟨by omega,λi p hi hp=>?_⟩ (by omega);rcases Nat.lt_or_ge i j with h|h
   .exact hall i p h hp
   .obtain rfl:i=j:=by omega
    rw[hm] at hp;cases hp;exact pQ
  .have hno: ¬Nd x:=λ⟨_,h2,_⟩=>pQ (hzr h2 m (mem_of_getElem? hm));rw[gj pQ] at tm;repeat' first|refine run ?_|refine al λ_=>?_|refine WX.xl rfl rfl tm rfl ?_
   exact Wa [] rfl rfl ⟨by rw[gj hno],rfl⟩
 obtain rfl:j=4 - k:=by omega
 have cI:∀m∈x.Ss.drop k,m=Mem.z:=λm hm=>by
  obtain⟨i,hi⟩:=mem_iff_getElem?.1 hm;have:=(List.getElem?_eq_some_iff.1 hi).1;exact hall i m (by omega) hi
 have tl:=rq x.le Mem.z;by_cases hle:x.jo=false/\x.le≠Mem.z
 .have hno: ¬Nd x:=λ⟨_,h2,_⟩=>hle.2 (oP h2 hle.1);rw[gj hle.2] at tl;have hj:=hle.1;try refine run ?_
  rw[hj];repeat' first|refine run ?_|refine WX.xl rfl rfl tl rfl ?_
  exact Wa [] rfl rfl ⟨by rw[gj hno],rfl⟩
 have Gy:=I1 cI (λh=>Classical.byContradiction λh'=>hle ⟨h,h'⟩);obtain⟨c,hc⟩:∃c,bf x=c:=⟨_,rfl⟩;have hiff:Nd x↔xg c:=by rw[<-hc];exact⟨λh=>h.2.2,λh=>⟨⟨yc,LX⟩,Gy,h⟩⟩
 have hd:decide (Nd x)=decide (xg c):=by rw[decide_eq_decide];exact hiff
 rw[hd];rw[hc] at Gy;subst Gy;clear hd hiff I1 cI hzr hc;have tB:c.ms.length=k:=by have:(c.ms.length:Int)=(k:Int):=hk;omega
 have TQ:=Jw (c:=c) (by omega)
 have Baa:c.all.length<=5:=by
  unfold Ch.all;rw[Cb];have:c.ln.toList.length<=1:=(by cases c.ln<;>simp);omega
 cases hl:c.ln with
 |none=>
  have hj:c.cfg.jo=false:=by show c.ln.isSome=false;rw[hl];rfl
  have hle:c.cfg.le=Mem.z:=by show c.ln.getD Mem.z=Mem.z;rw[hl];rfl
  try refine run ?_
  rw[hj];try refine run ?_
  refine WX.xl (b:=true) (xs:=Mem.enc c.cfg.le) rfl rfl (by rw[hle];rfl) rfl ?_;repeat' first|refine run ?_|refine al λ_=>?_
  rename_i b5;refine ck TQ ?_;rintro _ _ ⟨hm,M3,rfl⟩;have hrm:=M3.rs;obtain⟨vp,vc,rfl⟩:=hrm.len;refine rn ?_;refine W.flat (H':=[hm,[(b5,.cells (List.toArray (Ij (c.all.take 0))) 259 (0,0))],Mc b c.cfg,R]) rfl ?_;refine W.lo (α:=Nat) (λq=>q<=c.all.length/\Br c q) (λq=>[(1,b),(5,b5),(49,.slice vp c.all.length vc),(50,.int .i64 (c.all.length:Nat)),(51,.int .i64 (q:Int))]) (λq=>[[(b5,.cells (List.toArray (Ij (c.all.take q))) 259 (0,0))],Mc b c.cfg,hm,R]) (λq=>c.all.length - q) 0 ⟨Gi _,λi m hi=>absurd hi (Nat.not_lt_zero _)⟩ ?_;rintro q ⟨hq,hmo⟩;by_cases hlt:q<c.all.length
  .obtain⟨m,hmk⟩:=Sh hlt;have uq:=kJ hmk
   have bA:∀ok:xg c,(0<=m.nd/\m.nd<4/\1<=m.sn/\m.sn<=c.ep)/\((c.all.take q).any λx=>x.nd==m.nd)=false:=λok=>by
    obtain⟨w1,w2⟩:=ok.L3 (q+1) q m (by omega) hmk;exact⟨w1,uq.2 w2⟩
   by_cases r0:0<=m.nd/\m.nd<4
   .obtain⟨r1,r2⟩:=r0;have M8:=iJ (l:=c.all.take q) r1 r2;have Mv:(Ij (c.all.take q))[0+m.nd.toNat*1]? =some (.bool ((c.all.take q).any λx=>x.nd==m.nd)):=by rw[Nat.zero_add,Nat.mul_one];exact M8
    have Mf:Nat.blt (0+m.nd.toNat*1) (Ij (c.all.take q)).length=true:=Nat.ble_eq_true_of_le (by show 0+m.nd.toNat*1+1<=4;omega)
    cases Nv:((c.all.take q).any λx=>x.nd==m.nd) with
    |true=>
     have hno: ¬xg c:=λok=>by have:=(bA ok).2;rw[Nv] at this;cases this
     rw[Nv] at Mv;repeat' first|refine run ?_|refine al λ_=>?_
     refine cq (mj m.nd) ?_;rw[Fi (⟨r1,r2⟩:0<=m.nd/\m.nd<4)];try refine run ?_
     refine WX.load rfl Mv rfl ?_;try refine run ?_
     exact Wa [] rfl rfl ⟨by rw[gj hno],rfl⟩
    |false=>
     rw[Nv] at Mv;by_cases r5:1<=m.sn/\m.sn<=c.cfg.ep
     .obtain⟨r3,r4⟩:=r5;have hst:(Ij (c.all.take q)).set (0+m.nd.toNat*1) (.bool true)=Ij (c.all.take (q+1)):=by rw[Nat.zero_add,Nat.mul_one,jJ r1 r2,take_add_one,hmk];rfl
      repeat' first|refine run ?_|refine al λ_=>?_
      refine cq (mj m.nd) ?_;rw[Fi (⟨r1,r2⟩:0<=m.nd/\m.nd<4)];try refine run ?_
      refine WX.load rfl Mv rfl ?_;try refine run ?_
      refine WX.store rfl rfl rfl Mf ?_;rw[hst];try refine run ?_
      refine D.rd (q+1) ⟨by omega,λi p hi hp=>?_⟩ (by omega);rcases Nat.lt_or_ge i q with h|h
      .exact hmo i p h hp
      .obtain rfl:i=q:=by omega
       rw[hmk] at hp;cases hp;exact⟨⟨r1,r2,r3,r4⟩,uq.1 Nv⟩
     .have hno: ¬xg c:=λok=>r5 ⟨(bA ok).1.2.2.1,(bA ok).1.2.2.2⟩;by_cases r3:m.sn<1
      .repeat' first|refine run ?_|refine al λ_=>?_
       refine cq (mj m.nd) ?_;rw[Fi (⟨r1,r2⟩:0<=m.nd/\m.nd<4)];try refine run ?_
       refine WX.load rfl Mv rfl ?_;try refine run ?_
       exact Wa [] rfl rfl ⟨by rw[gj hno],rfl⟩
      .have r4:c.cfg.ep<m.sn:=by omega
       repeat' first|refine run ?_|refine al λ_=>?_
       refine cq (mj m.nd) ?_;rw[Fi (⟨r1,r2⟩:0<=m.nd/\m.nd<4)];try refine run ?_
       refine WX.load rfl Mv rfl ?_;try refine run ?_
       exact Wa [] rfl rfl ⟨by rw[gj hno],rfl⟩
   .have hno: ¬xg c:=λok=>r0 ⟨(bA ok).1.1,(bA ok).1.2.1⟩;repeat' first|refine run ?_|refine al λ_=>?_
    refine cq (mj m.nd) ?_;rw[gj r0];try refine run ?_
    exact Wa [] rfl rfl ⟨by rw[gj hno],rfl⟩
  .obtain rfl:q=c.all.length:=by omega
   have hyes:xg c:=hmo.all YW F1 (by omega);try refine run ?_
   exact Wa [] rfl rfl ⟨by rw[Fi hyes],rfl⟩
 |some m=>
  have hj:c.cfg.jo=true:=by show c.ln.isSome=true;rw[hl];rfl
  try refine run ?_
  rw[hj];repeat' first|refine run ?_|refine al λ_=>?_
  rename_i b5;refine ck TQ ?_;rintro _ _ ⟨hm,M3,rfl⟩;have hrm:=M3.rs;obtain⟨vp,vc,rfl⟩:=hrm.len;refine rn ?_;refine W.flat (H':=[hm,[(b5,.cells (List.toArray (Ij (c.all.take 0))) 259 (0,0))],Mc b c.cfg,R]) rfl ?_;refine W.lo (α:=Nat) (λq=>q<=c.all.length/\Br c q) (λq=>[(1,b),(5,b5),(49,.slice vp c.all.length vc),(50,.int .i64 (c.all.length:Nat)),(51,.int .i64 (q:Int))]) (λq=>[[(b5,.cells (List.toArray (Ij (c.all.take q))) 259 (0,0))],Mc b c.cfg,hm,R]) (λq=>c.all.length - q) 0 ⟨Gi _,λi m hi=>absurd hi (Nat.not_lt_zero _)⟩ ?_;rintro q ⟨hq,hmo⟩;by_cases hlt:q<c.all.length
  .obtain⟨m,hmk⟩:=Sh hlt;have uq:=kJ hmk
   have bA:∀ok:xg c,(0<=m.nd/\m.nd<4/\1<=m.sn/\m.sn<=c.ep)/\((c.all.take q).any λx=>x.nd==m.nd)=false:=λok=>by
    obtain⟨w1,w2⟩:=ok.L3 (q+1) q m (by omega) hmk;exact⟨w1,uq.2 w2⟩
   by_cases r0:0<=m.nd/\m.nd<4
   .obtain⟨r1,r2⟩:=r0;have M8:=iJ (l:=c.all.take q) r1 r2;have Mv:(Ij (c.all.take q))[0+m.nd.toNat*1]? =some (.bool ((c.all.take q).any λx=>x.nd==m.nd)):=by rw[Nat.zero_add,Nat.mul_one];exact M8
    have Mf:Nat.blt (0+m.nd.toNat*1) (Ij (c.all.take q)).length=true:=Nat.ble_eq_true_of_le (by show 0+m.nd.toNat*1+1<=4;omega)
    cases Nv:((c.all.take q).any λx=>x.nd==m.nd) with
    |true=>
     have hno: ¬xg c:=λok=>by have:=(bA ok).2;rw[Nv] at this;cases this
     rw[Nv] at Mv;repeat' first|refine run ?_|refine al λ_=>?_
     refine cq (mj m.nd) ?_;rw[Fi (⟨r1,r2⟩:0<=m.nd/\m.nd<4)];try refine run ?_
     refine WX.load rfl Mv rfl ?_;try refine run ?_
     exact Wa [] rfl rfl ⟨by rw[gj hno],rfl⟩
    |false=>
     rw[Nv] at Mv;by_cases r5:1<=m.sn/\m.sn<=c.cfg.ep
     .obtain⟨r3,r4⟩:=r5;have hst:(Ij (c.all.take q)).set (0+m.nd.toNat*1) (.bool true)=Ij (c.all.take (q+1)):=by rw[Nat.zero_add,Nat.mul_one,jJ r1 r2,take_add_one,hmk];rfl
      repeat' first|refine run ?_|refine al λ_=>?_
      refine cq (mj m.nd) ?_;rw[Fi (⟨r1,r2⟩:0<=m.nd/\m.nd<4)];try refine run ?_
      refine WX.load rfl Mv rfl ?_;try refine run ?_
      refine WX.store rfl rfl rfl Mf ?_;rw[hst];try refine run ?_
      refine D.rd (q+1) ⟨by omega,λi p hi hp=>?_⟩ (by omega);rcases Nat.lt_or_ge i q with h|h
      .exact hmo i p h hp
      .obtain rfl:i=q:=by omega
       rw[hmk] at hp;cases hp;exact⟨⟨r1,r2,r3,r4⟩,uq.1 Nv⟩
     .have hno: ¬xg c:=λok=>r5 ⟨(bA ok).1.2.2.1,(bA ok).1.2.2.2⟩;by_cases r3:m.sn<1
      .repeat' first|refine run ?_|refine al λ_=>?_
       refine cq (mj m.nd) ?_;rw[Fi (⟨r1,r2⟩:0<=m.nd/\m.nd<4)];try refine run ?_
       refine WX.load rfl Mv rfl ?_;try refine run ?_
       exact Wa [] rfl rfl ⟨by rw[gj hno],rfl⟩
      .have r4:c.cfg.ep<m.sn:=by omega
       repeat' first|refine run ?_|refine al λ_=>?_
       refine cq (mj m.nd) ?_;rw[Fi (⟨r1,r2⟩:0<=m.nd/\m.nd<4)];try refine run ?_
       refine WX.load rfl Mv rfl ?_;try refine run ?_
       exact Wa [] rfl rfl ⟨by rw[gj hno],rfl⟩
   .have hno: ¬xg c:=λok=>r0 ⟨(bA ok).1.1,(bA ok).1.2.1⟩;repeat' first|refine run ?_|refine al λ_=>?_
    refine cq (mj m.nd) ?_;rw[gj r0];try refine run ?_
    exact Wa [] rfl rfl ⟨by rw[gj hno],rfl⟩
  .obtain rfl:q=c.all.length:=by omega
   have hyes:xg c:=hmo.all YW F1 (by omega);try refine run ?_
   exact Wa [] rfl rfl ⟨by rw[Fi hyes],rfl⟩
def ES{c:Ch}(ok:xg c):Ct prog 172 [.agg (List.toArray c.cfg.enc)] [] (λr H'=>r= .bool true/\H'=[]):=by
 have h:=pq c.cfg;rw[Fi (vv ok)] at h;exact h
end Go.Proofs.YthebagfahkebiaaGreat
