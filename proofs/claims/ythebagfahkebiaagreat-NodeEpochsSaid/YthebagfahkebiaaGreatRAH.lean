/- Texts of one road. -/
import Derived.Test.YthebagfahkebiaaGreatRAF
import Derived.Test.YthebagfahkebiaaGreatRAG
set_option linter.all false
set_option maxHeartbeats 8000000
set_option maxRecDepth 20000
namespace Go.Proofs.YthebagfahkebiaaGreat
open Go Go.Sl Go.Proofs.Tryz List
variable{p:Pc}{k:Int}{fs vis:List Fl}
def JO(keep:Int)(p:Pc):Int:=if(if p.n<keep then p.n else keep)>0 then(if p.n<keep then p.n else keep) else 0
def rR{keep:Int}(h:0<=p.n):0<=JO keep p/\JO keep p<=p.n/\(JO keep p=0\/JO keep p<=keep):=by
 unfold JO;by_cases h1:p.n<keep
 .simp only[h1,if_true];split<;>omega
 .simp only[h1,if_false];split<;>omega
def Pm(s:List yd×Int×Int)(p:Pc):List yd×Int×Int:=
 (s.1.map λf=>if f.n=p.f then{f with s:=f.s+(JO s.2.1 p).toNat} else f,s.2.1 - JO s.2.1 p,s.2.2+(p.n - JO s.2.1 p))
namespace Be
def iz(S:Be)(keep:Int)(ps:List Pc):List yd×Int×Int:=ps.foldl Pm (S.fs,keep,0)
def Dc(S:Be)(keep:Int):Be:={fs:=(S.iz keep S.loose).1.map λf=>{f with b:=f.b.take f.s},loose:=[]}
def lost(S:Be)(keep:Int):Int:=(S.iz keep S.loose).2.2
def sR(S:Be)(keep:Int){j:Nat}(h:S.loose[j]? =some p):S.iz keep (S.loose.take (j+1))=Pm (S.iz keep (S.loose.take j)) p:=by
 obtain⟨h1,h2⟩:=List.getElem?_eq_some_iff.1 h;unfold iz;rw[take_succ_eq_append_getElem h1,h2,foldl_append];rfl
end Be
def pn(k:Int)(ps:List Pc):Int:=((ps.filter λp=>decide (p.f=k)).map (·.n)).sum
def j0(fs:List yd)(ps:List Pc):Prop:=(∀p∈ps,0<=p.n/\∃f∈fs,f.n=p.f)/\∀f∈fs,(f.s:Int)+pn f.n ps<=f.b.length
def KO{ps:List Pc}(h:∀p∈ps,0<=p.n):0<=pn k ps:=by
 unfold pn
 induction ps with
 |nil=>simp
 |cons p r ih=>
  have h1:=h p (qf ..);have h2:=ih λq hq=>h q (Vn _ hq);rw[filter_cons];split
  .simp only[map_cons,sum_cons];omega
  .exact h2
def TM{ps:List Pc}:pn k (p::ps)=(if p.f=k then p.n else 0)+pn k ps:=by
 unfold pn;rw[filter_cons];by_cases h:p.f=k
 .simp[h]
 .simp[h]
def j0.step{fs:List yd}{keep lost:Int}{ps:List Pc}(h:j0 fs (p::ps)):j0 (Pm (fs,keep,lost) p).1 ps:=by
 obtain⟨h1,h2⟩:=h;refine⟨λq hq=>?_,λf hf=>?_⟩
 .obtain⟨h3,f,hf,hn⟩:=h1 q (Vn _ hq);refine⟨h3,_,mem_map.2 ⟨f,hf,rfl⟩,?_⟩;split<;>exact hn
 .obtain⟨f0,ey,rfl⟩:=mem_map.1 hf;have h3:=h2 f0 ey;rw[TM] at h3;have h4:=rR (keep:=keep) (h1 p (qf ..)).1;by_cases hp:f0.n=p.f
  .rw[if_pos hp];rw[if_pos hp.symm] at h3;simp only[];omega
  .rw[if_neg hp];rw[if_neg (λe=>hp e.symm)] at h3;omega
def BI{S:Be}{c:Nat}{lv:Value}{lh:Hp}(hd:eV S c lv fs lh)(h:∃f∈S.fs,f.n=k):∃x,S.find k=some x:=by
 obtain⟨f,hf,hn⟩:=h
 cases hk:S.find k with
 |some x=>exact⟨x,rfl⟩
 |none=>
  unfold Be.find at hk;have:=List.find?_eq_none.1 hk f hf;simp[hn] at this
def Fl.cut(f:Fl):Fl:={f with b:=f.b.take f.s,l:=f.s}
def Ej(vis:List Fl)(fs:List Fl):List Fl:=fs.map λf=>if f.n∈vis.map (·.n) then f.cut else f
def tR(fs:List Fl):Ej [] fs=fs:=by
 unfold Ej;simp
def uR(h:∀f∈fs,f∈vis):Ej vis fs=fs.map Fl.cut:=by
 unfold Ej;apply map_congr_left;intro f hf;rw[if_pos (mem_map.2 ⟨f,h f hf,rfl⟩)]
def LO{pre post:List Fl}{f:Fl}(h1:∀x∈pre,x.n≠f.n)(h2:∀x∈post,x.n≠f.n)(hv:f.n∉vis.map (·.n)):
  Ej vis (pre++f::post)=Ej vis pre++f::Ej vis post/\Ej (vis++[f]) (pre++f::post)=Ej vis pre++f.cut::Ej vis post:=by
 have he:∀l:List Fl,(∀x∈l,x.n≠f.n)->Ej (vis++[f]) l=Ej vis l:=by
  intro l hl;unfold Ej;apply map_congr_left;intro x hx;have:=hl x hx;simp[this]
 constructor
 .unfold Ej;rw[He,map_cons,if_neg hv]
 .rw[<-he pre h1,<-he post h2];unfold Ej;rw[He,map_cons,if_pos (by simp)]
variable{fs:List Fl}{f:Fl}
def fX{pre post:List Fl}{c:Nat}(h:Vr (fs.map Fl.me) c)(e:fs=pre++f::post):(∀x∈pre,x.n≠f.n)/\(∀x∈post,x.n≠f.n):=by
 have hks:=h.ks;rw[e] at hks;simp only[He,map_cons] at hks;rw[nodup_append] at hks;obtain⟨_,h2,h3⟩:=hks;rw[nodup_cons] at h2;exact⟨λx hx he=>h3 _ (mem_map.2 ⟨x.me,mem_map.2 ⟨x,hx,rfl⟩,rfl⟩) _ (qf ..) he,λx hx he=>h2.1 (mem_map.2 ⟨x.me,mem_map.2 ⟨x,hx,rfl⟩,he⟩)⟩
def rF.nn{vis:List Fl}{c:Nat}(h:rF fs vis)(hm:Vr (fs.map Fl.me) c)(hf:f∈fs)(hv:f.me∉vis.map Fl.me):f.n∉vis.map (·.n):=by
 intro hc;obtain⟨x,hx,hn⟩:=mem_map.1 hc;obtain⟨rest,hp⟩:=h;have gX:x∈fs:=hp.mem_iff.1 (mem_append_left _ hx);obtain⟨pre,post,e⟩:=append_of_mem hf;obtain⟨h1,h2⟩:=fX hm e;rw[e] at gX;rcases mem_append.1 gX with gX|gX
 .exact h1 x gX hn
 .rcases mem_cons.1 gX with rfl|gX
  .exact hv (mem_map.2 ⟨x,hx,rfl⟩)
  .exact h2 x gX hn
def vR{S:Be}{d:Nat}{h:Hp}(hd:Od S d h){keep:Int}(Om: -9223372036854775808<=keep)(hk2:keep<=9223372036854775807)(hw:j0 S.fs S.loose)(hu:S.used<=1099511627776)(tg:S.loose.length<=1099511627776)(dL:(S.loose.map (·.n)).sum<=1099511627776):
  Ct prog 165 [d,keep] [h] (λr H'=>∃h',r= .int .i64 (S.lost keep)/\H'=[h']/\Od (S.Dc keep) d h'):=by
 obtain⟨m,c,lv,fs,lh,hd,rfl⟩:=hd;have hr:=hd.sl.rs;refine Ct.pack (pre:=[Le d m lv,pe m fs c,lh,Dd fs]) (post:=λr H'=>∃eu:List Fl,r= .int .i64 (S.lost keep)/\H'=[Le d m (.slice none 0 0),pe m fs c,Dd (eu.map Fl.cut)]/\eu.map Fl.file=(S.iz keep S.loose).1/\eu.map Fl.me=fs.map Fl.me/\(∀f∈eu,f.cut.ok)) ?_ (by simp) ?_
 .refine Tk func165 λg R=>?_
  refine W.lo (α:=Nat×List Fl) (λx=>x.1<=S.loose.length/\eV {S with fs:=(S.iz keep (S.loose.take x.1)).1} c lv x.2 lh/\x.2.map Fl.me=fs.map Fl.me/\j0 (S.iz keep (S.loose.take x.1)).1 (S.loose.drop x.1)/\
    (∀f∈x.2,f.b.length<=1099511627776)/\0<=(S.iz keep (S.loose.take x.1)).2.2/\(S.iz keep (S.loose.take x.1)).2.2+((S.loose.drop x.1).map (·.n)).sum<=1099511627776/\ -9223372036854775808<=(S.iz keep (S.loose.take x.1)).2.1/\(S.iz keep (S.loose.take x.1)).2.1<=9223372036854775807)
   (λx=>[(0,d),(1,.int .i64 (S.iz keep (S.loose.take x.1)).2.1),(4,.int .i64 0),(5,.int .i64 (S.iz keep (S.loose.take x.1)).2.2),(14,lv),(15,.int .i64 (S.loose.length:Int)),(16,.int .i64 (x.1:Int))]) (λx=>[Le d m lv,pe m fs c,lh,Dd x.2,R]) (λx=>S.loose.length - x.1)
   (0,fs) ⟨di _,hd,rfl,hw,λf hf=>?_,by simp[Be.iz],by simpa[Be.iz] using dL,Om,hk2⟩ ?_
  .have:f.file∈S.fs:=by rw[<-hd.fs];exact mem_map.2 ⟨f,hf,rfl⟩
   have:=bu this;have e:f.file.b=f.b:=rfl;rw[e] at this;omega
  rintro⟨j,eu⟩ ⟨hj,Bo,hme,hw1,YH,hl0,cg,U5,hq1⟩;simp only[] at hj Bo hme hw1 YH hl0 cg U5 hq1⊢;by_cases hlt:j<S.loose.length
  .obtain⟨p,hp⟩:=Lh hlt;have hs:=S.sR keep hp;obtain⟨h1,h2⟩:=List.getElem?_eq_some_iff.1 hp;have DQ:S.loose.drop j=p::S.loose.drop (j+1):=by rw[drop_eq_getElem_cons h1,h2]
   rw[DQ] at hw1 cg;generalize cB:S.iz keep (S.loose.take j)=s at*;obtain⟨F,K,Lo⟩:=s;simp only[] at hl0 cg U5 hq1 hw1 Bo⊢;obtain⟨hpn,hpf⟩:=hw1.1 p (qf ..);have hQ:=rR (keep:=K) hpn;obtain⟨x,hx⟩:=BI Bo hpf;obtain⟨f,pre,post,rfl,rfl,hfn,hok,hp1,hp2,hv⟩:=Bo.has hx;rw[hme] at hv;have hfm:f.file∈F:=zI hx;have IU:=hw1.2 _ hfm;rw[TM,if_pos (show p.f=f.file.n from hfn.symm)] at IU;have hfp:0<=pn f.file.n (S.loose.drop (j+1)):=KO λq hq=>(hw1.1 q (Vn _ hq)).1;have IU:(f.s:Int)+(p.n+pn f.file.n (S.loose.drop (j+1)))<=f.b.length:=IU;have hfl:=YH f (by simp);obtain⟨q,hq⟩:∃q,q=JO K p:=⟨_,rfl⟩;have hqd:(if(if p.n<K then p.n else K)>0 then(if p.n<K then p.n else K) else 0)=q:=hq.symm
   have hps:0<=((S.loose.drop (j+1)).map (·.n)).sum:=by
    have:∀l:List Pc,(∀p∈l,0<=p.n)->0<=(l.map (·.n)).sum:=by
     intro l hl
     induction l with
     |nil=>simp
     |cons y r ih=>simp only[map_cons,sum_cons];have:=hl y (qf ..);have:=ih λz hz=>hl z (Vn _ hz);omega
    exact this _ λq hq=>(hw1.1 q (Vn _ hq)).1
   rw[map_cons,sum_cons] at cg;rw[<-hq] at hQ;repeat' first|refine run ?_|refine al λ_=>?_
   rename_i b7;rw[hqd];refine W.flat (H':=[[(b7,.cells (List.toArray (Qb.enc p)) 245 (0,0))],Le d m lv,pe m fs c,lh,Dd pre,Yq f.blk (.slice f.p f.l f.c) f.s,f.h,Dd post,R]) (by simp[Qd]) ?_;refine iX (ml [12]) [[(b7,.cells (List.toArray (Qb.enc p)) 245 (0,0))],Le d m lv,pe m fs c,Yq f.blk (.slice f.p f.l f.c) f.s] ?_;try refine run ?_
   refine WX.lookup rfl rfl rfl ?_;rw[hv];try refine run ?_
   rw[show(f.s:Int)+q=((f.s+q.toNat:Nat):Int) from by omega];refine D.as 1 (.int .i64 (S.iz keep (S.loose.take (j+1))).2.1) rfl (by rw[hs,hq];rfl) ?_;refine D.as 5 (.int .i64 (S.iz keep (S.loose.take (j+1))).2.2) rfl (by rw[hs,hq];rfl) ?_;obtain⟨f',hf'⟩:∃f':Fl,f'={f with s:=f.s+q.toNat}:=⟨_,rfl⟩;have J1:(pre++f'::post).map Fl.me=(pre++f::post).map Fl.me:=by rw[hf'];simp[Fl.me]
   have hon:(Pm (F,K,Lo) p).1=(pre++f'::post).map Fl.file:=by
    unfold Pm;simp only[];rw[<-hq,<-show(pre++f::post).map Fl.file=F from Bo.fs];exact HG hp1 hp2 hfn (by rw[hf'];rfl)
   refine D.flat (H':=[[(b7,.cells (List.toArray (Qb.enc p)) 245 (0,0))],Le d m lv,pe m fs c,lh,Dd (pre++f'::post),R]) (by rw[Qd,hf'];simp only[flatten_cons,Sc,cons_append,nil_append]) ?_;refine D.rd (j+1,pre++f'::post) ⟨by omega,⟨by rw[J1];exact Bo.mp,λx hx=>?_,by rw[hs,hon],Bo.sl⟩,by rw[J1];exact hme,by rw[hs];exact hw1.step,λx hx=>?_,?_,?_,?_,?_⟩ (by simp only[];omega)
   .rcases mem_append.1 hx with hx|hx
    .exact Bo.ok x (mem_append_left _ hx)
    .rcases mem_cons.1 hx with rfl|hx
     .rw[hf'];exact hok
     .exact Bo.ok x (mem_append_right _ (Vn _ hx))
   .rcases mem_append.1 hx with hx|hx
    .exact YH x (mem_append_left _ hx)
    .rcases mem_cons.1 hx with rfl|hx
     .rw[hf'];exact hfl
     .exact YH x (mem_append_right _ (Vn _ hx))
   all_goals(rw[hs];simp only[Pm];rw[<-hq];omega)
  .obtain rfl:j=S.loose.length:=by omega
   have lV:pe m fs c=pe m eu c:=by unfold pe;rw[hme]
   rw[take_length] at Bo hw1 hl0 cg⊢;rw[drop_length] at hw1;rw[lV]
   have vI:∀f∈eu,f.s<=f.b.length:=by
    intro f hf;have hm:f.file∈(S.iz keep S.loose).1:=by rw[<-show eu.map Fl.file=(S.iz keep S.loose).1 from Bo.fs];exact mem_map.2 ⟨f,hf,rfl⟩
    have:=hw1.2 _ hm;have e:pn f.file.n []=0:=rfl;rw[e] at this;have h3:(f.s:Int)+0<=f.b.length:=this;omega
   try refine run ?_
   refine WX.range rfl rfl (λr=>?_);try refine run ?_
   refine W.loop (α:=List Fl) (λvis=>rF eu vis) (λvis=>[(0,d),(4,.int .i64 0),(5,.int .i64 (S.iz keep S.loose).2.2),(53,r)]) (λvis=>[[(r,Dj m c (vis.map Fl.me))],Le d m lv,pe m eu c,Dd (Ej vis eu),R]) (λvis=>eu.length - vis.length) [] (rF.start eu) (by repeat(first|exact Aa.nil|refine Aa.cons rfl ?_)) (by rw[tR];show Ia _ [[(r,Dj m c [])],Le d m lv,pe m eu c,Dd eu,R];exact(Ia.qa inferInstance)) ?_;intro vis hv;try refine run ?_
   refine WX.next rfl Bo.mp hv.mem rfl (λha=>?_) (λz hz ZZ=>?_)
   .have hp:=hv.done Bo.mp ha;try refine run ?_
    rw[uR λf hf=>hp.mem_iff.2 hf];exact Xa [Le d m (.slice none 0 0),pe m eu c,Dd (eu.map Fl.cut)] rfl rfl ⟨eu,rfl,rfl,Bo.fs,hme,λf hf=>ia.to (Bo.ok f hf) (vI f hf)⟩
   .obtain⟨f,hf,rfl⟩:=mem_map.1 hz;obtain⟨NM,hlt⟩:=hv.step hf ZZ;have hnv:=hv.nn Bo.mp hf ZZ;obtain⟨pre,post,TX⟩:=append_of_mem hf;obtain⟨hp1,hp2⟩:=fX Bo.mp TX;obtain⟨hc1,hc2⟩:=LO hp1 hp2 hnv;have T5:Dd (Ej vis eu)=Dd (Ej vis pre)++(Yq f.blk (.slice f.p f.l f.c) f.s++(f.h++Dd (Ej vis post))):=by rw[TX,hc1,Qd]
    have Z6:Dd (Ej (vis++[f]) eu)=Dd (Ej vis pre)++(Yq f.blk (.slice f.p f.s f.c) f.s++(f.h++Dd (Ej vis post))):=by rw[TX,hc2,Qd];rfl
    have hrf:Rs f.b (.slice f.p f.l f.c) f.h:=(Bo.ok f hf).rs;have hsf:=vI f hf;refine WX.flat (H':=[[(r,Dj m c (vis.map Fl.me++[f.me]))],Le d m lv,pe m eu c,Dd (Ej vis pre),Yq f.blk (.slice f.p f.l f.c) f.s,f.h,Dd (Ej vis post),R]) (by simp[T5]) ?_;try refine run ?_
    refine WX.entry (vis:=vis.map Fl.me) (z:=f.me) rfl Bo.mp (mem_map.2 ⟨f,hf,rfl⟩) rfl ?_;try refine run ?_
    refine iX (ml [10]) [Yq f.blk (.slice f.p f.l f.c) f.s] ?_;try refine run ?_
    rw[show Ao (.slice f.p f.l f.c) f.s= .slice f.p f.s f.c from rfl];refine D.flat (H':=[[(r,Dj m c ((vis++[f]).map Fl.me))],Le d m lv,pe m eu c,Dd (Ej (vis++[f]) eu),R]) (by simp[Z6]) ?_;exact D.rd (vis++[f]) NM (by simp only[Eb,Ib,td];omega)
 .rintro r _ ⟨eu,e1,rfl,e2,e3,e4⟩;have hme:(eu.map Fl.cut).map Fl.me=fs.map Fl.me:=by rw[<-e3,map_map];rfl
  have lV:pe m (eu.map Fl.cut) c=pe m fs c:=by unfold pe;rw[hme]
  refine⟨[Le d m (.slice none 0 0)++(pe m (eu.map Fl.cut) c++([]++Dd (eu.map Fl.cut)))],by rw[lV];simp,_,e1,rfl,m,c,_,eu.map Fl.cut,[],⟨by rw[hme];exact hd.mp,λx hx=>?_,?_,ia.nil _⟩,rfl⟩
  .obtain⟨f,hf,rfl⟩:=mem_map.1 hx;exact e4 f hf
  .unfold Be.Dc;simp only[];rw[<-e2,map_map,map_map];rfl
end Go.Proofs.YthebagfahkebiaaGreat
namespace Go.Sl
open Go List
variable{g:World}{P:Program}{Q:Exit->Act->World->Prop}{n:Nat}{L:Fm}{H H':HH}{ops:Array Oper}{rest:List Oper}
def W.hp{c:Code}(e:H=H')(k:W g P c Q n L H'):W g P c Q n L H:=e▸k
def WX.hp{q:Bool}(e:H=H')(k:WX q g P ops Q n rest L H'):WX q g P ops Q n rest L H:=e▸k
def W.h0{c:Code}(H':HH)(k:W g P c Q n L H')(e:H=H':=by exact rfl):W g P c Q n L H:=e▸k
def WX.h0{q:Bool}(H':HH)(k:WX q g P ops Q n rest L H')(e:H=H':=by exact rfl):WX q g P ops Q n rest L H:=e▸k
end Go.Sl
namespace Go.Proofs.YthebagfahkebiaaGreat
open Go Go.Sl Go.Proofs.Tryz List
def Rec.known(r:Rec):Bool:=decide (r.k=1\/r.k=2\/r.k=3)
def Cd.seen(C:Cd)(r:Rec):Cd:={C with arg:=(C.arg|| !r.known)|| !decide (r.bare=r)}
def Tp.seen{C:Cd}{r:Rec}{v:Value}{h:Hp}(k:Tp C v h):Tp (C.seen r) v h:=⟨k.r,k.w,k.l⟩
def Ux.get{C C':Cd}{vs vs':List Value}{it:It}(h:Ux C vs it C' vs'){j:Nat}(hj:j≠it.o):vs'[j]? =vs[j]? :=by
 cases h with
 |w hr hv ok=>rfl
 |r hr hv Pq ok he hd=>exact List.getElem?_set_ne (λe=>hj e.symm)
def qj.get{C C':Cd}{vs vs':List Value}{Zc:List It}(h:qj C vs Zc C' vs'){j:Nat}(hj:∀it∈Zc,j≠it.o):vs'[j]? =vs[j]? :=by
 induction h with
 |nil=>rfl
 |cons h t ih=>exact(ih λx hx=>hj x (Vn _ hx)).trans (h.get (hj _ (qf ..)))
def ahead{Zc:List It}{j:Nat}(h:Zc.all (λit=>decide (j≠it.o))=true):∀it∈Zc,j≠it.o:=λit hit=>of_decide_eq_true (all_eq_true.1 h it hit)
theorem Rec.oA(k:Int)(e:ya)(c:Wa)(b:Int):((Rec.enc ⟨k,e,c,b⟩).drop 1).take 20=e.enc:=rfl
theorem Rec.qT(k:Int)(e:ya)(c:Wa)(b:Int):((Rec.enc ⟨k,e,c,b⟩).drop 21).take 13=c.enc:=rfl
def Rec.Zw(k:Int)(e e':ya)(c:Wa)(b:Int):setAt (Rec.enc ⟨k,e,c,b⟩) 1 e'.enc=Rec.enc ⟨k,e',c,b⟩:=by
 have h1:Rec.enc ⟨k,e,c,b⟩=([.int .i64 k]++e.enc)++(c.enc++[.int .i64 b]):=rfl;rw[h1,yc _ _ _ _ (Nat.le_refl 21),Vf e'.enc e.enc 1 [.int .i64 k] rfl rfl];rfl
def Rec.KJ(k:Int)(e:ya)(c c':Wa)(b:Int):setAt (Rec.enc ⟨k,e,c,b⟩) 21 c'.enc=Rec.enc ⟨k,e,c',b⟩:=by
 have h1:Rec.enc ⟨k,e,c,b⟩=(([.int .i64 k]++e.enc)++c.enc)++[.int .i64 b]:=rfl;rw[h1,yc _ _ _ _ (Nat.le_refl 34),Vf c'.enc c.enc 21 ([Value.int .i64 k]++e.enc) rfl rfl];rfl
theorem Rec.jO(k:Int)(e:ya)(c:Wa)(b k':Int):(Rec.enc ⟨k,e,c,b⟩).set 0 (k')=Rec.enc ⟨k',e,c,b⟩:=rfl
theorem Rec.rT(k:Int)(e:ya)(c:Wa)(b b':Int):(Rec.enc ⟨k,e,c,b⟩).set 34 (b')=Rec.enc ⟨k,e,c,b'⟩:=rfl
theorem Rec.maa(r:Rec):r.enc[0]? =some (.int .i64 r.k):=rfl
theorem Rec.naa(r:Rec):r.enc[34]? =some (.int .i64 r.base):=rfl
theorem Rec.oaa(r:Rec):r.enc.length=35:=rfl
theorem ya.Cp(e:ya):e.enc.length=20:=rfl
theorem Wa.SJ(e:Wa):e.enc.length=13:=rfl
theorem ya.one(e:ya):Pd e.enc=true:=rfl
theorem Wa.one(e:Wa):Pd e.enc=true:=rfl
theorem Rec.one(e:Rec):Pd e.enc=true:=rfl
def tG{C C1:Cd}{r0 r:Rec}(hrun:qj C r0.enc (Rec.Zc r.k) C1 r.enc){v:Value}{h:Hp}(hok:Tp C v h)(hl:C1.b.length<=1099511627776){c b:Nat}:
  Ct prog 233 [c,b] [Pr c C v,[(b,.cells r0.enc.toArray 140 (0,0))],h] (Fx c b 140 C (C1.seen r) v h r.enc []):=by
 obtain⟨B1,p1,UH,xp,arg1,Ji⟩:=C1;obtain⟨k,e,cf,bs⟩:=r;simp only[] at hrun hl;have hb0:Rec.bare ⟨k,e,cf,bs⟩=if k=1 then⟨1,e,Wa.z,0⟩ else if k=2 then⟨2,ya.z,cf,bs⟩ else⟨k,ya.z,Wa.z,0⟩:=rfl
 by_cases h1:k=1
 .subst h1
  have hs:Cd.seen ⟨B1,p1,UH,xp,arg1,Ji⟩ ⟨1,e,cf,bs⟩=⟨B1,p1,UH,xp,arg1|| !decide (Rec.mk 1 e Wa.z 0=⟨1,e,cf,bs⟩),Ji⟩:=by
   unfold Cd.seen;rw[hb0,if_pos rfl];simp[Rec.known]
  have hcmp:=rec_eq ⟨1,e,Wa.z,0⟩ ⟨1,e,cf,bs⟩;unfold Rec.Zc at hrun;rw[if_pos rfl] at hrun;obtain⟨C0,tM,q1,q2⟩:=hrun.split;have Om:tM[0]? =some (.int .i64 1):=by rw[<-q2.get (ahead rfl)];rfl
  have hl0:=Nat.le_trans q2.facts.2.1 hl;have sQ:=q1.facts.1;refine ce func233 λg R=>?_;repeat' first|refine rn ?_|refine al λ_=>?_
  rename_i nb;refine WX.h0 [[(nb,.cells (Rec.enc ⟨r0.k,ya.z,Wa.z,0⟩).toArray 140 (0,0))],Pr c C v,[(b,.cells r0.enc.toArray 140 (0,0))],h,R] ?_;refine ck (Xm (c:=c) (b:=b) (T:=140) (o:=0) q1.one hok hl0) ?_;rintro _ _ ⟨v1,m1,rfl,Qi,Mp⟩;repeat' first|refine rn ?_|refine WX.load rfl Om rfl ?_
  refine ck (wU (c:=c) (b:=b) (T:=140) (o:=1) q2 Qi hl) ?_;rintro _ _ ⟨v2,m2,rfl,Io,Nj⟩;simp only[can];repeat' first|apply go|refine mv ?_|refine nc ?_|refine fa ?_
  refine WX.Ea (b:=b) (i:=1) (cs:=Rec.enc ⟨1,e,cf,bs⟩) (vs:=e.enc) rfl (Rec.oA _ _ _ _) rfl rfl ?_;refine fa ?_;refine WX.qd (vs:=e.enc) (b:=nb) (i:=1) (cs:=Rec.enc ⟨r0.k,ya.z,Wa.z,0⟩) rfl rfl rfl (ya.Cp _) (ya.one _) rfl ?_;rw[Rec.Zw];refine WX.nil ?_;repeat' first|apply go|refine mv ?_|refine nc ?_|refine fa ?_
  refine WX.load (v:= .int .i64 1) (b:=b) (i:=0) (cs:=Rec.enc ⟨1,e,cf,bs⟩) rfl rfl rfl ?_;refine fa ?_;refine WX.store (b:=nb) (i:=0) (cs:=Rec.enc ⟨r0.k,e,Wa.z,0⟩) rfl rfl rfl rfl ?_;rw[Rec.jO];refine WX.nil ?_;repeat' apply go
  refine iX (ml [12]) [dr c v2 p1 UH xp arg1 Ji,[(nb,.cells (Rec.enc ⟨1,e,Wa.z,0⟩).toArray 140 (0,0))],[(b,.cells (Rec.enc ⟨1,e,cf,bs⟩).toArray 140 (0,0))]] ?_
  cases arg1 with
  |true=>
   try refine run ?_
   exact D.fc [dr c v2 p1 UH xp true Ji,[(b,.cells (Rec.enc ⟨1,e,cf,bs⟩).toArray 140 (0,0))],m2] _ rfl ⟨v2,m2,by rw[hs]<;>rfl,Io.seen,Xd sQ Mp Nj⟩
  |false=>
   repeat' first|refine bn nb 0 (Rec.enc ⟨1,e,Wa.z,0⟩) (Rec.enc ⟨1,e,Wa.z,0⟩) ?_|refine bn b 0 (Rec.enc ⟨1,e,cf,bs⟩) (Rec.enc ⟨1,e,cf,bs⟩) ?_|refine WX.aj rfl rfl hcmp rfl ?_|refine wm ?_|fail
   exact D.fc [dr c v2 p1 UH xp (!decide ((⟨1,e,Wa.z,0⟩:Rec)=⟨1,e,cf,bs⟩)) Ji,[(b,.cells (Rec.enc ⟨1,e,cf,bs⟩).toArray 140 (0,0))],m2] _ rfl ⟨v2,m2,by rw[hs];rfl,Io.seen,Xd sQ Mp Nj⟩
 by_cases h2:k=2
 .subst h2
  have hs:Cd.seen ⟨B1,p1,UH,xp,arg1,Ji⟩ ⟨2,e,cf,bs⟩=⟨B1,p1,UH,xp,arg1|| !decide (Rec.mk 2 ya.z cf bs=⟨2,e,cf,bs⟩),Ji⟩:=by
   unfold Cd.seen;rw[hb0,if_neg h1,if_pos rfl];simp[Rec.known]
  have hcmp:=rec_eq ⟨2,ya.z,cf,bs⟩ ⟨2,e,cf,bs⟩;unfold Rec.Zc at hrun;rw[if_neg h1,if_pos rfl] at hrun;obtain⟨C0,tM,q1,hrun⟩:=hrun.split;obtain⟨C2,SU,q2,q3⟩:=hrun.split;have Om:tM[0]? =some (.int .i64 2):=by rw[<-q2.get (ahead rfl),<-q3.get (ahead rfl)];rfl
  have ny:=Nat.le_trans q3.facts.2.1 hl;have hl0:=Nat.le_trans q2.facts.2.1 ny;have sQ:=q1.facts.1;have I5:=q2.facts.1.trans sQ;refine ce func233 λg R=>?_;repeat' first|refine rn ?_|refine al λ_=>?_
  rename_i nb;refine WX.h0 [[(nb,.cells (Rec.enc ⟨r0.k,ya.z,Wa.z,0⟩).toArray 140 (0,0))],Pr c C v,[(b,.cells r0.enc.toArray 140 (0,0))],h,R] ?_;refine ck (Xm (c:=c) (b:=b) (T:=140) (o:=0) q1.one hok hl0) ?_;rintro _ _ ⟨v1,m1,rfl,Qi,Mp⟩;repeat' first|refine rn ?_|refine WX.load rfl Om rfl ?_
  refine ck (uU (c:=c) (b:=b) (T:=140) (o:=21) q2 Qi ny) ?_;rintro _ _ ⟨v3,m3,rfl,y5,rG⟩;refine rn ?_;refine ck (Xm (c:=c) (b:=b) (T:=140) (o:=34) q3.one y5 hl) ?_;rintro _ _ ⟨v2,m2,rfl,Io,Nj⟩;simp only[can];repeat' apply go
  refine iX (ml [9,1]) [[(b,.cells (Rec.enc ⟨2,e,cf,bs⟩).toArray 140 (0,0))]] ?_;repeat' first|refine WX.Ea (b:=b) (i:=21) (cs:=Rec.enc ⟨2,e,cf,bs⟩) (vs:=cf.enc) rfl (Rec.qT _ _ _ _) rfl rfl ?_|refine WX.load (v:= .int .i64 bs) (b:=b) (i:=34) (cs:=Rec.enc ⟨2,e,cf,bs⟩) rfl rfl rfl ?_|(refine I.st ?_;refine WX.qd (vs:=cf.enc) (b:=nb) (i:=21) (cs:=Rec.enc ⟨r0.k,ya.z,Wa.z,0⟩) rfl rfl rfl (Wa.SJ _) (Wa.one _) rfl ?_;rw[Rec.KJ])|(refine I.st ?_;refine WX.store (v:= .int .i64 bs) (b:=nb) (i:=34) (cs:=Rec.enc ⟨r0.k,ya.z,cf,0⟩) rfl rfl rfl rfl ?_;rw[Rec.rT];refine WX.nil ?_)|refine wm ?_|fail
  rw[Rec.jO];refine iX (ml [12]) [dr c v2 p1 UH xp arg1 Ji,[(nb,.cells (Rec.enc ⟨2,ya.z,cf,bs⟩).toArray 140 (0,0))],[(b,.cells (Rec.enc ⟨2,e,cf,bs⟩).toArray 140 (0,0))]] ?_
  cases arg1 with
  |true=>
   try refine run ?_
   exact D.fc [dr c v2 p1 UH xp true Ji,[(b,.cells (Rec.enc ⟨2,e,cf,bs⟩).toArray 140 (0,0))],m2] _ rfl ⟨v2,m2,by rw[hs]<;>rfl,Io.seen,Xd I5 (Xd sQ Mp rG) Nj⟩
  |false=>
   repeat' first|refine bn nb 0 (Rec.enc ⟨2,ya.z,cf,bs⟩) (Rec.enc ⟨2,ya.z,cf,bs⟩) ?_|refine bn b 0 (Rec.enc ⟨2,e,cf,bs⟩) (Rec.enc ⟨2,e,cf,bs⟩) ?_|refine WX.aj rfl rfl hcmp rfl ?_|refine wm ?_|fail
   exact D.fc [dr c v2 p1 UH xp (!decide ((⟨2,ya.z,cf,bs⟩:Rec)=⟨2,e,cf,bs⟩)) Ji,[(b,.cells (Rec.enc ⟨2,e,cf,bs⟩).toArray 140 (0,0))],m2] _ rfl ⟨v2,m2,by rw[hs];rfl,Io.seen,Xd I5 (Xd sQ Mp rG) Nj⟩
 have hi:Rec.Zc k=[.num 0]:=by unfold Rec.Zc;rw[if_neg h1,if_neg h2]
 have YH:Rec.bare ⟨k,e,cf,bs⟩=⟨k,ya.z,Wa.z,0⟩:=by rw[hb0,if_neg h1,if_neg h2]
 rw[hi] at hrun;by_cases h3:k=3
 .subst h3
  have hs:Cd.seen ⟨B1,p1,UH,xp,arg1,Ji⟩ ⟨3,e,cf,bs⟩=⟨B1,p1,UH,xp,arg1|| !decide (Rec.mk 3 ya.z Wa.z 0=⟨3,e,cf,bs⟩),Ji⟩:=by
   unfold Cd.seen;rw[YH];simp[Rec.known]
  have hcmp:=rec_eq ⟨3,ya.z,Wa.z,0⟩ ⟨3,e,cf,bs⟩;refine ce func233 λg R=>?_;repeat' first|refine rn ?_|refine al λ_=>?_
  rename_i nb;refine WX.h0 [[(nb,.cells (Rec.enc ⟨r0.k,ya.z,Wa.z,0⟩).toArray 140 (0,0))],Pr c C v,[(b,.cells r0.enc.toArray 140 (0,0))],h,R] ?_;refine ck (Xm (c:=c) (b:=b) (T:=140) (o:=0) hrun.one hok hl) ?_;rintro _ _ ⟨v2,m2,rfl,Io,Nj⟩;simp only[can];repeat' first|refine WX.load (v:= .int .i64 3) (b:=b) (i:=0) (cs:=Rec.enc ⟨3,e,cf,bs⟩) rfl rfl rfl ?_|refine wm ?_|fail
  rw[Rec.jO];refine iX (ml [12]) [dr c v2 p1 UH xp arg1 Ji,[(nb,.cells (Rec.enc ⟨3,ya.z,Wa.z,0⟩).toArray 140 (0,0))],[(b,.cells (Rec.enc ⟨3,e,cf,bs⟩).toArray 140 (0,0))]] ?_
  cases arg1 with
  |true=>
   try refine run ?_
   exact D.fc [dr c v2 p1 UH xp true Ji,[(b,.cells (Rec.enc ⟨3,e,cf,bs⟩).toArray 140 (0,0))],m2] _ rfl ⟨v2,m2,by rw[hs]<;>rfl,Io.seen,Nj⟩
  |false=>
   repeat' first|refine bn nb 0 (Rec.enc ⟨3,ya.z,Wa.z,0⟩) (Rec.enc ⟨3,ya.z,Wa.z,0⟩) ?_|refine bn b 0 (Rec.enc ⟨3,e,cf,bs⟩) (Rec.enc ⟨3,e,cf,bs⟩) ?_|refine WX.aj rfl rfl hcmp rfl ?_|refine wm ?_|fail
   exact D.fc [dr c v2 p1 UH xp (!decide ((⟨3,ya.z,Wa.z,0⟩:Rec)=⟨3,e,cf,bs⟩)) Ji,[(b,.cells (Rec.enc ⟨3,e,cf,bs⟩).toArray 140 (0,0))],m2] _ rfl ⟨v2,m2,by rw[hs];rfl,Io.seen,Nj⟩
 .have hs:Cd.seen ⟨B1,p1,UH,xp,arg1,Ji⟩ ⟨k,e,cf,bs⟩=⟨B1,p1,UH,xp,true,Ji⟩:=by
   unfold Cd.seen;simp[Rec.known,h1,h2,h3]
  refine ce func233 λg R=>?_;repeat' first|refine rn ?_|refine al λ_=>?_
  rename_i nb;refine WX.h0 [[(nb,.cells (Rec.enc ⟨r0.k,ya.z,Wa.z,0⟩).toArray 140 (0,0))],Pr c C v,[(b,.cells r0.enc.toArray 140 (0,0))],h,R] ?_;refine ck (Xm (c:=c) (b:=b) (T:=140) (o:=0) hrun.one hok hl) ?_;rintro _ _ ⟨v2,m2,rfl,Io,Nj⟩;simp only[can];repeat' first|refine WX.load (v:= .int .i64 k) (b:=b) (i:=0) (cs:=Rec.enc ⟨k,e,cf,bs⟩) rfl rfl rfl ?_|refine wm ?_|fail
  rw[Rec.jO];refine iX (ml [12]) [dr c v2 p1 UH xp true Ji,[(nb,.cells (Rec.enc ⟨k,ya.z,Wa.z,0⟩).toArray 140 (0,0))],[(b,.cells (Rec.enc ⟨k,e,cf,bs⟩).toArray 140 (0,0))]] ?_;try refine run ?_
  exact D.fc [dr c v2 p1 UH xp true Ji,[(b,.cells (Rec.enc ⟨k,e,cf,bs⟩).toArray 140 (0,0))],m2] _ rfl ⟨v2,m2,by rw[hs]<;>rfl,Io.seen,Nj⟩
variable{vs:List Value}{r:Rec}
def Rec.w(r:Rec):Cd:=((Rec.Zc r.k).foldl (Ud r.enc) {}).seen r
def Rec.code(r:Rec):Int:=(ni r.w).2
def Rec.fr(r:Rec):List UInt8:=(ni r.w).1
def Rec.body(r:Rec):List UInt8:=xj r.enc (Rec.Zc r.k)
def Sm:Value->Nat
 | .string s=>s.data.toList.length
 |_=>0
def wt(vs:List Value):It->Nat
 | .Bj o _=>((vs[o]?).map Sm).getD 0
 |_=>0
def tl(u:Value):It->Nat
 | .Bj _ _=>Sm u
 |_=>0
def jA{it:It}{u:Value}(hs:Sm u<=1073741824):((encI it u).getD []).length<=9+tl u it:=by
 cases it<;>cases u<;>simp only[tl,encI,Option.getD_none,td,di]
 case num.int o kd n=>
  cases kd<;>simp only[encI,Option.getD_none,td,di];split
  .simp
  .have:=kA (n:=n.toNat) (by omega);simp only[Option.getD_some];omega
 case Bj.string o m s=>
  have:=kA (n:=s.data.toList.length) (by simp only[Sm] at hs;omega);simp only[Sm,Option.getD_some,Eb];omega
 case Xn.bool o t=>
  have:=kA (n:=if t=true then 1 else 0) (by split<;>omega);simp only[Option.getD_some];omega
def uG:∀{Zc:List It} {C:Cd},(∀it∈Zc,Vq vs it)->(∀it∈Zc,wt vs it<=1073741824)->(Zc.foldl (Ud vs) C).b.length<=C.b.length+9*Zc.length+(Zc.map (wt vs)).sum:=by
 intro Zc
 induction Zc with
 |nil=>intro C _ _;simp
 |cons it r ih=>
  intro C ht hw;obtain⟨u,hu,ok⟩:=ht it (qf ..);have h1:=hw it (qf ..);have h2:=ih (C:=Ud vs C it) (λx hx=>ht x (Vn _ hx)) (λx hx=>hw x (Vn _ hx))
  have h3:(Ud vs C it).b.length<=C.b.length+9+wt vs it:=by
   have hs:Sm u<=1073741824:=by
    cases it with
    |num o=>obtain⟨n,rfl⟩:=ok;simp[Sm]
    |Xn o=>obtain⟨n,rfl⟩:=ok;simp[Sm]
    |Bj o m=>simp only[wt,It.o] at h1 hu;rw[hu] at h1;exact h1
   have h4:=jA (it:=it) hs
   have h5:tl u it=wt vs it:=by
    cases it with
    |num o=>rfl
    |Xn o=>rfl
    |Bj o m=>simp only[It.o] at hu;simp only[wt,hu];rfl
   rw[h5] at h4;unfold Ud;rw[hu];simp only[Eb];omega
  simp only[foldl_cons,Ib,map_cons,sum_cons];omega
def yU:∀{Zc:List It} {C:Cd},(∀it∈Zc,Vq vs it)->(Zc.foldl (Ud vs) C).arg=false->(Zc.foldl (Ud vs) C).Bd=false->
  C.arg=false/\C.Bd=false/\∀it∈Zc,∃u e,vs[it.o]? =some u/\HX it u/\encI it u=some e/\Ij it u=false:=by
 intro Zc
 induction Zc with
 |nil=>intro C _ h1 h2;exact⟨h1,h2,by simp⟩
 |cons it r ih=>
  intro C ht h1 h2;obtain⟨u,hu,ok⟩:=ht it (qf ..);obtain⟨h3,h4,h5⟩:=ih (C:=Ud vs C it) (λx hx=>ht x (Vn _ hx)) h1 h2;unfold Ud at h3 h4;rw[hu] at h3 h4;simp only[Bool.or_eq_false_iff] at h3 h4;refine⟨h3.1,h4.1,λx hx=>?_⟩;rcases mem_cons.1 hx with rfl|hx
  .cases he:encI x u with
   |none=>simp[he] at h3
   |some e=>exact⟨u,e,hu,ok,he,h4.2⟩
  .exact h5 x hx
def Rec.size(r:Rec):Nat:=r.e.key.data.toList.length+r.e.val.data.toList.length
def Rec.zU(r:Rec):((Rec.Zc r.k).map (wt r.enc)).sum<=r.size:=by
 obtain⟨k,e,c,b⟩:=r;unfold Rec.Zc Rec.size;by_cases h1:k=1
 .simp only[h1,if_true];have:([It.num 0]++Ox 1).map (wt (Rec.enc ⟨1,e,c,b⟩))=[0,0,0,0,0,0,0,e.key.data.toList.length,e.val.data.toList.length,0,0,0,0,0,0,0,0,0,0,0,0]:=rfl;rw[this];simp
 .by_cases h2:k=2
  .simp only[h2,if_true,show ¬((2:Int)=1) from by decide,if_false];have:([It.num 0]++(BH 21++[It.num 34])).map (wt (Rec.enc ⟨2,e,c,b⟩))=[0,0,0,0,0,0,0,0,0,0,0,0,0,0,0]:=rfl;rw[this];simp
  .simp only[h1,h2,if_false];have:[It.num 0].map (wt (Rec.enc ⟨k,e,c,b⟩))=[0]:=rfl;rw[this];simp
def Vo{l:List Nat}{x:Nat}(h:x∈l):x<=l.sum:=by
 induction l with
 |nil=>cases h
 |cons y r ih=>
  rw[sum_cons];rcases mem_cons.1 h with rfl|h
  .omega
  .have:=ih h;omega
def Rec.kO(k:Int):(Rec.Zc k).length<=21:=by
 unfold Rec.Zc;split
 .exact Nat.le_refl _
 .split
  .decide
  .decide
def Rec.J5(r:Rec)(h:r.size<=1073741824):r.w.b.length<=189+r.size:=by
 have h1:=uG (vs:=r.enc) (Zc:=Rec.Zc r.k) (C:={}) (r.typed r.k) (λit hit=>by
  have:=Vo (mem_map.2 ⟨it,hit,rfl⟩:wt r.enc it∈(Rec.Zc r.k).map (wt r.enc));have:=r.zU;omega)
 have h2:=r.zU;have h3:=Rec.kO r.k;have h4:r.w.b.length=((Rec.Zc r.k).foldl (Ud r.enc) {}).b.length:=rfl;have h5:({}:Cd).b.length=0:=rfl;omega
def Rec.ZW(r:Rec):qj {} r.enc (Rec.Zc r.k) ((Rec.Zc r.k).foldl (Ud r.enc) {}) r.enc:=Go.Proofs.YthebagfahkebiaaGreat.ZW rfl (r.typed r.k)
structure Rec.Good(r:Rec):Prop where
 Zc:∀it∈Rec.Zc r.k,∃u e,r.enc[it.o]? =some u/\HX it u/\encI it u=some e/\Ij it u=false
 bare:r.bare=r
 known:r.known=true
 w:r.w={b:=r.body}
 fr:r.fr=frame r.body
def Rec.good(h:r.code=0):r.Good:=by
 have h1:r.w.arg=false:=by
  cases ha:r.w.arg with
  |false=>rfl
  |true=>unfold Rec.code ni at h;rw[if_pos ha] at h;exact absurd h (by decide)
 have h2:r.w.Bd=false:=by
  cases ha:r.w.Bd with
  |false=>rfl
  |true=>unfold Rec.code ni at h;rw[if_neg (by rw[h1];decide),if_pos ha] at h;exact absurd h (by decide)
 have h3:r.w.arg=((((Rec.Zc r.k).foldl (Ud r.enc) {}).arg|| !r.known)|| !decide (r.bare=r)):=rfl;have h4:r.w.Bd=((Rec.Zc r.k).foldl (Ud r.enc) {}).Bd:=rfl;rw[h3] at h1;simp only[Bool.or_eq_false_iff,Bool.not_eq_false',decide_eq_true_eq] at h1;rw[h4] at h2;obtain⟨-,-,h5⟩:=yU (r.typed r.k) h1.1.1 h2;have h6:=F5 (vs:=r.enc) (Zc:=Rec.Zc r.k) (C:={}) (λit hit=>by obtain⟨u,e,a,b,c,d⟩:=h5 it hit;exact⟨u,e,a,c,d⟩)
 have h7:r.w={b:=r.body}:=by
  unfold Rec.w Cd.seen;rw[h6,h1.1.2,h1.2];simp[Rec.body]
 exact⟨h5,h1.2,h1.1.2,h7,by unfold Rec.fr ni;rw[h7];rfl⟩
def Rec.Good.sz(g:r.Good):r.size<=48:=by
 obtain⟨k,e,c,b⟩:=r;have hb:=g.bare;have hi:=g.Zc;unfold Rec.size;by_cases h1:k=1
 .subst h1;unfold Rec.Zc at hi;simp only[if_true] at hi;obtain⟨u,w,a1,a2,a3,a4⟩:=hi (.Bj 7 16) (by simp[Ox]);obtain⟨u',w',b1,b2,b3,b4⟩:=hi (.Bj 8 32) (by simp[Ox]);cases(Option.some.inj a1:Value.string e.key=u);cases(Option.some.inj b1:Value.string e.val=u');simp only[Ij,decide_eq_false_iff_not,Nat.not_lt] at a4 b4;simp only[];omega
 .have:e=ya.z:=by
   unfold Rec.bare at hb;simp only[h1,if_false] at hb;by_cases h2:k=2
   .simp only[h2,if_true,Rec.mk.injEq] at hb;exact hb.2.1.symm
   .simp only[h2,if_false,Rec.mk.injEq] at hb;exact hb.2.1.symm
  subst this;show(0:Nat)<=48;omega
def Rec.Good.len(g:r.Good):r.body.length<=237:=by
 have hs:((Rec.Zc r.k).map (wt r.enc)).sum<=48/\(∀it∈Rec.Zc r.k,wt r.enc it<=1073741824):=by
  have hx:∀it∈Rec.Zc r.k,wt r.enc it<=(match it with| .Bj _ m=>m|_=>0):=by
   intro it hit;obtain⟨u,e,h1,h2,h3,h4⟩:=g.Zc it hit
   cases it with
   |num o=>exact di _
   |Xn o=>exact di _
   |Bj o m=>
    obtain⟨s,rfl⟩:=h2;simp only[Ij,decide_eq_false_iff_not,Nat.not_lt] at h4;simp only[It.o] at h1;simp only[wt,h1];exact h4
  have hm:((Rec.Zc r.k).map (λit=>match it with|It.Bj _ m=>m|_=>0)).sum<=48:=by
   unfold Rec.Zc;split
   .decide
   .split
    .decide
    .decide
  have gaa:∀l:List It,(∀it∈l,wt r.enc it<=(match it with| .Bj _ m=>m|_=>0))->(l.map (wt r.enc)).sum<=(l.map (λit=>match it with|It.Bj _ m=>m|_=>0)).sum:=by
   intro l
   induction l with
   |nil=>intro _;simp
   |cons y t ih=>
    intro hl;have h1:=hl y (qf ..);have h2:=ih λx hx=>hl x (Vn _ hx);simp only[map_cons,sum_cons];omega
  have h1:=gaa _ hx;refine⟨by omega,λit hit=>?_⟩;have:=Vo (mem_map.2 ⟨it,hit,rfl⟩:wt r.enc it∈(Rec.Zc r.k).map (wt r.enc));omega
 have h1:=uG (vs:=r.enc) (Zc:=Rec.Zc r.k) (C:={}) (r.typed r.k) hs.2;have h3:=Rec.kO r.k;have h4:r.w.b.length=((Rec.Zc r.k).foldl (Ud r.enc) {}).b.length:=rfl;have h5:({}:Cd).b.length=0:=rfl;have h6:r.w.b=r.body:=by rw[g.w]
 rw[h6] at h4;omega
def Rec.Good.oM(g:r.Good):r.fr.length=r.body.length+6:=by rw[g.fr,On]
def Rec.Good.Jh(g:r.Good):6<=r.fr.length/\r.fr.length<=243:=by
 have:=g.oM;have:=g.len;omega
def Rec.Good.PZ{r:Rec}(g:r.Good):qj {b:=r.body,rd:=true} Rec.z.enc (Rec.Zc r.k) {b:=r.body,p:=r.body.length,rd:=true} r.enc:=by
 have h:=Go.Proofs.YthebagfahkebiaaGreat.PZ (vs:=r.enc) (Zc:=Rec.Zc r.k) (C:={b:=r.body,rd:=true}) (ws:=Rec.z.enc) (rest:=[]) rfl (λit hit=>by obtain⟨u,e,a,b,c,d⟩:=g.Zc it hit;exact⟨u,e,a,b,c⟩) (Rec.nodup r.k) (Rec.typed Rec.z r.k) (by simp[Rec.body]);rw[Rec.reset,g.bare] at h;have h2:(0:Nat)+(xj r.enc (Rec.Zc r.k)).length=r.body.length:=by rw[Nat.zero_add];rfl
 simp only[h2] at h;exact h
variable{xs:List UInt8}{h:Hp}
def vt(r:Rec)(hz:r.size<=1073741824):
  Ct prog 204 [.agg r.enc.toArray] [] (λres H'=>∃u hb,res= .tuple #[u,r.code]/\H'=[hb]/\ia 5 r.fr u hb):=by
 have hlen:=r.J5 hz;refine ce func204 λg R=>?_;repeat' first|refine rn ?_|refine Uc λ_=>?_
 rename_i b c;refine WX.h0 [Pr c {} (.slice none 0 0),[(b,.cells r.enc.toArray 140 (0,0))],R] ?_;refine WX.Pe ?_;refine ck (tG (c:=c) (b:=b) r.ZW ⟨λe=>(by cases e),λ_=>ia.nil _,by decide⟩ (by show r.w.b.length<=_;omega)) ?_;rintro _ _ ⟨v1,h1,rfl,Qi,-⟩;simp only[can];rw[show(List.foldl (Ud r.enc) {} (Rec.Zc r.k)).seen r=r.w from rfl] at Qi⊢;try refine run ?_
 refine ck (qQ (c:=c) (C:=r.w) (Qi.w r.ZW.facts.1) (by omega)) ?_;rintro _ _ ⟨u,hb,rfl,rfl,hs⟩;refine rn ?_;exact D.Vb [hb] _ rfl rfl rfl ⟨_,_,rfl,rfl,hs⟩
def bX(gd:r.Good)(hc:r.code=0){rest:List UInt8}(hx:xs=r.fr++rest){v:Value}(hr:Rs xs v h)(hl:xs.length<=1099511627776):
  Ct prog 168 [v] [h] (λres H'=>res= .tuple #[.agg r.enc.toArray,.int .i64 (r.fr.length:Int),.int .i64 0]/\H'=[h]):=by
 have hfl:=gd.oM;have hle:=gd.Jh;have zy:xs.length=r.fr.length+rest.length:=by rw[hx,Eb]
 have hB:=gd.len;rw[gd.fr] at hx;have hne:xs≠[]:=by intro e;rw[e] at zy;simp at zy;omega
 refine ce func168 λg R=>?_;repeat' first|refine rn ?_|refine al λ_=>?_|refine W.lq 0 rfl ?_
 refine ck (YW (B:=r.body) (by omega) hx hr hl) ?_;rintro _ _ ⟨u,rfl,rfl,hu⟩;simp only[can];obtain⟨q1,c1,rfl⟩:=hu.len;repeat' first|refine run ?_|refine Uc λ_=>?_|refine al λ_=>?_
 rename_i a2 b c;refine WX.h0 [Pr c {b:=r.body,rd:=true} (.slice q1 r.body.length c1),[(b,.cells Rec.z.enc.toArray 140 (0,0))],h,[(a2,.cells Rec.z.enc.toArray 140 (0,0))],R] ?_;refine ck (tG (c:=c) (b:=b) (r0:=Rec.z) gd.PZ ⟨λ_=>hu,λe=>(by cases e),by simp only[];omega⟩ (by simp only[];omega)) ?_;rintro _ _ ⟨v1,h1,rfl,Qi,Mp⟩;obtain⟨rfl,rfl⟩:=Mp rfl
 have K5:Cd.seen {b:=r.body,p:=r.body.length,rd:=true} r={b:=r.body,p:=r.body.length,rd:=true}:=by
  unfold Cd.seen;rw[gd.bare,gd.known];simp
 rw[K5] at Qi⊢;simp only[can];have PK:=vt r (by have:=gd.sz;omega);rw[hc] at PK;repeat' first|refine wm ?_|fail
 refine W.as 46 (.bool (decide ((r.body.length:Int)<(r.body.length:Int)))) rfl rfl ?_;repeat' first|refine bn b 0 (Rec.enc r) (Rec.enc r) ?_|refine wm ?_|fail
 refine ck PK ?_;rintro _ _ ⟨u2,h2,rfl,rfl,Sa⟩;simp only[can];have DU:=Sa.rs;try refine run ?_
 refine WX.as 59 (.int .i64 ((r.fr.length:Nat):Int)) rfl (by rw[hfl];rfl) ?_;have hxt:r.fr=xs.take r.fr.length:=by rw[hx,<-gd.fr,take_left]
 have heq:=HK DU (hr.take (m:=r.fr.length) (by omega));rw[Mi hxt] at heq;refine WX.Ao rfl rfl hr (by omega) rfl ?_;try refine run ?_
 refine cq heq ?_;repeat' first|refine bn b 0 (Rec.enc r) (Rec.enc r) ?_|refine wm ?_|fail
 exact D.Bg [h1] _ rfl (.Va rfl rfl (.tmp rfl (.tmp rfl .nil))) rfl ⟨rfl,rfl⟩
def GM(gd:r.Good){k:Nat}(hk:k<r.fr.length)(hx:xs=r.fr.take k)(h0:xs≠[]){v:Value}(hr:Rs xs v h):
  Ct prog 168 [v] [h] (λres H'=>res= .tuple #[.agg Rec.z.enc.toArray,.int .i64 0,.int .i64 40]/\H'=[h]):=by
 have hB:=gd.len;rw[gd.fr] at hx hk;have zy:0<xs.length:=length_pos_iff.2 h0;refine ce func168 λg R=>?_;repeat' first|refine rn ?_|refine al λ_=>?_|refine W.lq 0 rfl ?_
 refine ck (EM (B:=r.body) (by omega) hk hx hr) ?_;rintro _ _ ⟨rfl,rfl⟩;refine rn ?_;rename_i a2;exact D.Bg [h] _ rfl (.Va rfl rfl (.tmp rfl (.tmp rfl .nil))) rfl ⟨rfl,rfl⟩
structure Lf where
 n:Int
 rs:List Rec
 k:Nat
def bytes(rs:List Rec):List UInt8:=(rs.map Rec.fr).flatten
def Lf.file(f:Lf):yd:=⟨f.n,bytes f.rs,(bytes (f.rs.take f.k)).length⟩
def Lf.ps(f:Lf):List Pc:=(f.rs.drop f.k).map λr=>⟨f.n,(r.fr.length:Int)⟩
def dk(l:List Lf):Be:=⟨l.map Lf.file,(l.map Lf.ps).flatten⟩
def va(l:List Lf):Int:=match l.getLast? with
 |some f=>f.n
 |none=>0
structure Xu(l:List Lf):Prop where
 up:l.Pairwise λa b=>a.n<b.n
 good:∀f∈l,∀r∈f.rs,r.code=0
 k:∀f∈l,f.k<=f.rs.length
 lo:∀f∈l,0<=f.n
 hi:∀f∈l,f.n<=1099511627776
 used:(dk l).used<=1048576
 len:l.length<=64
structure Ie(l:List Lf):Prop extends Xu l where
 tail:l.Pairwise λa b=>a.k<a.rs.length->b.k=0
instance{l:List Lf}:CoeOut (Ie l) (Xu l):=⟨λh=>h.toXu⟩
def Ua(l:List Lf):List Rec:=(l.map Lf.rs).flatten
def Kg(l:List Lf):Nat:=(l.map Lf.k).sum
theorem Iw:bytes []=[]:=rfl
theorem ve(r:Rec)(rs:List Rec):bytes (r::rs)=r.fr++bytes rs:=rfl
def mj(a b:List Rec):bytes (a++b)=bytes a++bytes b:=by unfold bytes;simp
def Kd(rs:List Rec)(k:Nat):bytes (rs.take k)++bytes (rs.drop k)=bytes rs:=by rw[<-mj,take_append_drop]
def tQ(rs:List Rec):(bytes rs).length=(rs.map λr=>r.fr.length).sum:=by
 unfold bytes;rw[length_flatten,map_map];rfl
def Pf(rs:List Rec)(k:Nat):(bytes (rs.take k)).length<=(bytes rs).length:=by
 rw[<-Kd rs k,Eb];omega
def uQ{rs:List Rec}(h:∀r∈rs,r.code=0)(hne:rs≠[]):6<=(bytes rs).length:=by
 cases rs with
 |nil=>exact absurd rfl hne
 |cons r t=>
  have:=(Rec.good (h r (qf ..))).Jh;rw[ve,Eb];omega
section
variable{l pre post:List Lf}{f:Lf}
def Xu.yp(h:Xu (pre++f::post)):(∀x∈pre,x.n<f.n)/\(∀x∈post,f.n<x.n):=by
 have:=h.up;rw[pairwise_append,pairwise_cons] at this;exact⟨λx hx=>this.2.2 x hx f (qf ..),this.2.1.1⟩
def VH{k:Int}(h:∀x∈l,x.n≠k):(dk l).find k=none:=by
 unfold Be.find dk;rw[List.find?_eq_none];intro x hx;obtain⟨f,hf,rfl⟩:=mem_map.1 hx;have:=h f hf;intro hc;exact this (of_decide_eq_true hc)
def zp(h:Xu (pre++f::post)):(dk (pre++f::post)).find f.n=some f.file:=by
 have hp:((pre.map Lf.file).find? λx=>decide (x.n=f.n))=none:=by
  rw[List.find?_eq_none];intro x hx;obtain⟨y,hy,rfl⟩:=mem_map.1 hx;have h1:=h.yp.1 y hy;intro hc;have h2:y.n=f.n:=of_decide_eq_true hc;omega
 unfold Be.find dk;simp only[He,map_cons,List.find?_append,hp,Option.none_or];rw[List.find?_cons_of_pos (by simp[Lf.file])]
def Tu{xs:List Int}(h:xs.Pairwise (λa b=>a<=b)):Cm xs=xs:=by
 unfold Cm;exact mergeSort_of_pairwise (by simpa using h)
def mq(h:Xu l):(dk l).names=l.map (·.n):=by
 unfold Be.names dk;simp only[map_map];have:(l.map ((λx:yd=>x.n)∘Lf.file))=l.map (·.n):=rfl;rw[this];exact Tu (pairwise_map.2 (h.up.imp λhlt=>by omega))
def Se:(dk l).used=(l.map λf=>(bytes f.rs).length).sum:=by
 unfold Be.used dk;simp only[map_map];rfl
def Im{rs:List Rec}(h:∀r∈rs,r.code=0):6*rs.length<=(bytes rs).length:=by
 induction rs with
 |nil=>simp[bytes]
 |cons r t ih=>
  have h1:=(Rec.good (h r (qf ..))).Jh;have h2:=ih λx hx=>h x (Vn _ hx);rw[ve,Eb,Ib];omega
def SZ:f.ps.length=f.rs.length - f.k:=by unfold Lf.ps;simp
def AU:(∀f∈l,∀r∈f.rs,r.code=0)->(dk l).loose.length<=(dk l).used:=by
 rw[Se];unfold dk;simp only[]
 induction l with
 |nil=>intro _;simp
 |cons f t ih=>
  intro h;have h1:=Im (h f (qf ..));have h2:=ih λx hx=>h x (Vn _ hx);simp only[map_cons,flatten_cons,Eb,sum_cons,SZ];omega
def Xu.loose(h:Xu l):(dk l).loose.length<=1099511627776:=by
 have:=AU h.good;have:=h.used;omega
def Xu.Zr(h:Xu l):(dk l).fs.length=l.length:=bf _
def Ie.app{x:Lf}(h:Ie l)(hn:∀f∈l,f.n<x.n)(hg:∀r∈x.rs,r.code=0)(hk:x.k=0)(h0:0<=x.n)(h1:x.n<=1099511627776)(hl:l.length<64)(hu:(dk l).used+(bytes x.rs).length<=1048576):Ie (l++[x]) where
 up:=pairwise_append.2 ⟨h.up,pairwise_singleton ..,λa ha b hb=>by rw[mem_singleton.1 hb];exact hn a ha⟩
 good:=λf hf=>by
  rcases mem_append.1 hf with hf|hf
  .exact h.good f hf
  .rw[mem_singleton.1 hf];exact hg
 k:=λf hf=>by
  rcases mem_append.1 hf with hf|hf
  .exact h.k f hf
  .rw[mem_singleton.1 hf,hk];exact di _
 tail:=pairwise_append.2 ⟨h.tail,pairwise_singleton ..,λa ha b hb _=>by rw[mem_singleton.1 hb];exact hk⟩
 lo:=λf hf=>by
  rcases mem_append.1 hf with hf|hf
  .exact h.lo f hf
  .rw[mem_singleton.1 hf];exact h0
 hi:=λf hf=>by
  rcases mem_append.1 hf with hf|hf
  .exact h.hi f hf
  .rw[mem_singleton.1 hf];exact h1
 used:=by rw[Se] at hu⊢;simpa using hu
 len:=by rw[Eb];simp;omega
def Ie.ini(h:Ie (pre++post)):Ie pre where
 up:=(pairwise_append.1 h.up).1
 good:=λf hf=>h.good f (mem_append_left _ hf)
 k:=λf hf=>h.k f (mem_append_left _ hf)
 tail:=(pairwise_append.1 h.tail).1
 lo:=λf hf=>h.lo f (mem_append_left _ hf)
 hi:=λf hf=>h.hi f (mem_append_left _ hf)
 used:=by have:=h.used;rw[Se] at this⊢;simp only[He,sum_append] at this;omega
 len:=by have:=h.len;rw[Eb] at this;omega
def Ie.more{r:Rec}(h:Ie (pre++[f]))(hr:r.code=0)(hu:(dk (pre++[f])).used+r.fr.length<=1048576):Ie (pre++[⟨f.n,f.rs++[r],f.k⟩]) where
 up:=by
  have:=h.up;rw[pairwise_append] at this⊢;exact⟨this.1,pairwise_singleton ..,λa ha b hb=>by rw[mem_singleton.1 hb];exact this.2.2 a ha f (mem_singleton.2 rfl)⟩
 good:=λx hx=>by
  rcases mem_append.1 hx with hx|hx
  .exact h.good x (mem_append_left _ hx)
  .rw[mem_singleton.1 hx];intro y hy;rcases mem_append.1 hy with hy|hy
   .exact h.good f (by simp) y hy
   .rw[mem_singleton.1 hy];exact hr
 k:=λx hx=>by
  rcases mem_append.1 hx with hx|hx
  .exact h.k x (mem_append_left _ hx)
  .rw[mem_singleton.1 hx];have:=h.k f (by simp);simp only[Eb];omega
 tail:=by
  have:=h.tail;rw[pairwise_append] at this⊢;exact⟨this.1,pairwise_singleton ..,λa ha b hb=>by rw[mem_singleton.1 hb];exact this.2.2 a ha f (mem_singleton.2 rfl)⟩
 lo:=λx hx=>by
  rcases mem_append.1 hx with hx|hx
  .exact h.lo x (mem_append_left _ hx)
  .rw[mem_singleton.1 hx];exact h.lo f (by simp)
 hi:=λx hx=>by
  rcases mem_append.1 hx with hx|hx
  .exact h.hi x (mem_append_left _ hx)
  .rw[mem_singleton.1 hx];exact h.hi f (by simp)
 used:=by
  rw[Se] at hu⊢;simp only[He,sum_append,map_cons,map_nil,sum_cons,sum_nil,mj,Eb,ve,Iw,td] at hu⊢;omega
 len:=by have:=h.len;rw[Eb] at this⊢;exact this
def Db(l:List Lf)(r:Rec):List Lf×Int:=
 if r.code≠0 then(l,r.code) else match l.getLast? with
  |none=>([⟨0,[r],0⟩],0)
  |some f=>if 4096<=(bytes f.rs).length then(if 1099511627776<f.n+1\/64<=l.length\/1048576<(dk l).used+r.fr.length then(l,51) else(l++[⟨f.n+1,[r],0⟩],0))
   else if 1048576<(dk l).used+r.fr.length then(l,51) else(l.dropLast++[⟨f.n,f.rs++[r],f.k⟩],0)
def Pp(l:List Lf):List Rec->List Lf×Int
 |[]=>(l,0)
 |r::rs=>if(Db l r).2≠0 then Db l r else Pp (Db l r).1 rs
theorem Ju:(dk []).used=0:=rfl
theorem vQ:va []=0:=rfl
def Nb:va (pre++[f])=f.n:=by unfold va;rw[List.getLast?_concat]
def Ie.nil:Ie []:=⟨⟨.nil,by simp,by simp,by simp,by simp,by rw[Ju];omega,by simp⟩,.nil⟩
def Ie.HE(h:Ie l)(r:Rec):Ie (Db l r).1:=by
 unfold Db;by_cases hr:r.code=0
 .rw[if_neg (by simpa using hr)];have hle:=(Rec.good hr).Jh;rcases eq_nil_or_concat l with rfl|⟨pre,f,rfl⟩
  .exact Ie.app (l:=[]) Ie.nil (by simp) (by simpa using hr) rfl (Int.le_refl 0) (by simp only[];omega) (by decide) (by rw[Ju];simp[bytes];omega)
  .rw[concat_eq_append] at h⊢;rw[List.getLast?_concat];simp only[dropLast_concat];split
   .split
    .exact h
    .rename_i h2;simp only[not_or,Int.not_lt,Nat.not_le,Nat.not_lt] at h2;refine Ie.app h (λx hx=>?_) (by simpa using hr) rfl (by have:=h.lo f (by simp);simp only[];omega) (by simp only[];omega) h2.2.1 (by simp[bytes];omega);rcases mem_append.1 hx with hx|hx
     .have:=h.yp.1 x hx;simp only[];omega
     .rw[mem_singleton.1 hx];simp only[];omega
   .split
    .exact h
    .exact h.more hr (by omega)
 .rw[if_pos hr];exact h
def zw(h:Ie l):(dk l).size (va l)=match l.getLast? with|some f=>(bytes f.rs).length|none=>0:=by
 rcases eq_nil_or_concat l with rfl|⟨pre,f,rfl⟩
 .rfl
 .rw[concat_eq_append] at h⊢;rw[Nb,List.getLast?_concat];unfold Be.size;rw[zp (post:=[]) h];rfl
def Bw{n:Int}(h:Ie l)(hn:va l<n):(dk l).find n=none:=by
 rcases eq_nil_or_concat l with rfl|⟨pre,f,rfl⟩
 .rfl
 .rw[concat_eq_append] at h hn⊢;rw[Nb] at hn;refine VH λx hx=>?_;rcases mem_append.1 hx with hx|hx
  .have:=h.yp.1 x hx;omega
  .rw[mem_singleton.1 hx];omega
def yt{n:Int}{r:Rec}(he:(dk l).Tg n r.fr.length=0)(hf:(dk l).find n=none):(dk l).app n r.fr=dk (l++[⟨n,[r],0⟩]):=by
 unfold Be.app;rw[if_pos he,hf];simp[dk,Lf.file,Lf.ps,bytes]
def HM{r:Rec}(h:Ie (pre++[f]))(he:(dk (pre++[f])).Tg f.n r.fr.length=0):(dk (pre++[f])).app f.n r.fr=dk (pre++[⟨f.n,f.rs++[r],f.k⟩]):=by
 unfold Be.app;rw[if_pos he,zp (post:=[]) h];have hk:=h.k f (by simp)
 have hp:(pre.map Lf.file).map (λx=>if x.n=f.n then{x with b:=x.b++r.fr} else x)=pre.map Lf.file:=by
  rw[map_map];apply map_congr_left;intro x hx;have:=h.yp.1 x hx;show(if x.file.n=f.n then _ else _)=_;exact if_neg (by show ¬x.n=f.n;omega)
 simp only[Option.isNone_some,Bool.false_eq_true,if_false];unfold Be.EO;simp only[dk,He,map_cons,map_nil,hp,Lf.file,if_true,flatten_append,flatten_cons,flatten_nil,append_nil,Lf.ps,mj,ve,Iw,take_append_of_le_length hk,drop_append_of_le_length hk,Sc]
end
variable{l:List Lf}
def GH(l:List Lf):Int:=if 4096<=(dk l).size (va l) then va l+1 else va l
def Qk(k:Int)(n:Nat)(l:List Lf):(dk l).Tg k n=if k<0\/1099511627776<k then 50 else if(((dk l).find k).isNone=true/\64<=l.length)\/1048576<(dk l).used+n then 51 else 0:=by
 unfold Be.Tg;rw[show(dk l).fs.length=l.length from bf _]
def iG(h:r.code≠0):Db l r=(l,r.code):=by unfold Db;rw[if_pos h]
def Lg(ok:Ie l):0<=va l/\va l<=1099511627776:=by
 rcases eq_nil_or_concat l with rfl|⟨pre,f,rfl⟩
 .rw[vQ];omega
 .rw[concat_eq_append] at ok⊢;rw[Nb];exact⟨ok.lo f (by simp),ok.hi f (by simp)⟩
def wA(ok:Ie l)(hr:r.code=0):
  ((dk l).Tg (GH l) r.fr.length≠0->Db l r=(l,51))/\((dk l).Tg (GH l) r.fr.length=0->(Db l r).2=0/\(dk l).app (GH l) r.fr=dk (Db l r).1/\va (Db l r).1=GH l):=by
 have hle:=(Rec.good hr).Jh;unfold Db;rw[if_neg (by simpa using hr)];rcases eq_nil_or_concat l with rfl|⟨pre,f,rfl⟩
 .have ht:GH []=0:=rfl
  have he:(dk []).Tg 0 r.fr.length=0:=by
   rw[Qk,if_neg (by omega),if_neg];rw[Ju];simp;omega
  rw[ht];refine⟨λh=>absurd he h,λ_=>⟨rfl,?_,rfl⟩⟩;exact yt he rfl
 .rw[concat_eq_append] at ok⊢;have hs:=zw ok;have hlo:=ok.lo f (by simp);have hhi:=ok.hi f (by simp);rw[List.getLast?_concat] at hs⊢;simp only[dropLast_concat] at hs⊢;by_cases h4:4096<=(bytes f.rs).length
  .have ht:GH (pre++[f])=f.n+1:=by unfold GH;rw[hs,if_pos h4,Nb]
   have hn:=Bw ok (n:=f.n+1) (by rw[Nb];omega);rw[ht,if_pos h4];by_cases hc:1099511627776<f.n+1\/64<=(pre++[f]).length\/1048576<(dk (pre++[f])).used+r.fr.length
   .rw[if_pos hc];refine⟨λ_=>rfl,λhe=>?_⟩;rw[Qk,hn] at he;simp only[Option.isNone_none,true_and] at he;split at he
    .exact absurd he (by decide)
    .split at he
     .exact absurd he (by decide)
     .rename_i h1 h2;exfalso;rcases hc with hc|hc|hc
      .exact h1 (.inr hc)
      .exact h2 (.inl hc)
      .exact h2 (.inr hc)
   .rw[if_neg hc]
    have he:(dk (pre++[f])).Tg (f.n+1) r.fr.length=0:=by
     rw[Qk,hn,if_neg (λh=>h.elim (λh=>by omega) (λh=>hc (.inl h))),if_neg];simp only[Option.isNone_none,true_and];exact λh=>hc (.inr h)
    refine⟨λh=>absurd he h,λ_=>⟨rfl,yt he hn,Nb⟩⟩
  .have ht:GH (pre++[f])=f.n:=by unfold GH;rw[hs,if_neg h4,Nb]
   have hn:=zp (post:=[]) ok.toXu;rw[ht,if_neg h4];by_cases hc:1048576<(dk (pre++[f])).used+r.fr.length
   .rw[if_pos hc];refine⟨λ_=>rfl,λhe=>?_⟩;rw[Qk,hn,if_neg (by omega),if_pos (.inr hc)] at he;exact absurd he (by decide)
   .rw[if_neg hc]
    have he:(dk (pre++[f])).Tg f.n r.fr.length=0:=by
     rw[Qk,hn,if_neg (by omega),if_neg];simp only[Option.isNone_some,Bool.false_eq_true,false_and,false_or];exact hc
    exact⟨λh=>absurd he h,λ_=>⟨rfl,HM ok he,Nb⟩⟩
theorem T0{rs:List Rec}:Pp l (r::rs)=if(Db l r).2≠0 then Db l r else Pp (Db l r).1 rs:=rfl
def hG{rs:List Rec}{i:Nat}(h:rs[i]? =some r):Pp l (rs.drop i)=if(Db l r).2≠0 then Db l r else Pp (Db l r).1 (rs.drop (i+1)):=by
 obtain⟨hi,e⟩:=List.getElem?_eq_some_iff.1 h;rw[drop_eq_getElem_cons hi,e];rfl
abbrev zf(w d:Nat)(seg Ba:Int):Hp:=[(w,.cells (List.toArray [d,seg,Ba]) 199 (0,0))]
def BL(ok:Ie l){d:Nat}{h:Hp}(hd:Od (dk l) d h){rs:List Rec}{v:Value}{hx:Hp}(hr:Rs rs v hx)(hl:rs.length<=1099511627776)(hz:∀r∈rs,r.size<=1073741824){w:Nat}{Ba:Int}:
  Ct prog 129 [w,v] [zf w d (va l) Ba,h,hx] (λres H'=>∃h',res= .int .i64 (Pp l rs).2/\H'=[zf w d (va (Pp l rs).1) Ba,h',hx]/\Od (dk (Pp l rs).1) d h'):=by
 refine Tk func129 λg R=>?_
 refine W.lo (α:=Nat×List Lf×Hp) (λx=>x.1<=rs.length/\Ie x.2.1/\Od (dk x.2.1) d x.2.2/\Pp l rs=Pp x.2.1 (rs.drop x.1))
  (λx=>[(0,w),(1,v),(10,v),(11,.int .i64 (rs.length:Int)),(12,.int .i64 (x.1:Int))])
  (λx=>[zf w d (va x.2.1) Ba,x.2.2,hx,R]) (λx=>rs.length - x.1) (0,l,h) ⟨di _,ok,hd,rfl⟩ ?_
 rintro⟨i,m,y⟩ ⟨hi,Eg,ID,he⟩;simp only[] at hi Eg ID he⊢;by_cases hlt:i<rs.length
 .obtain⟨r,iZ⟩:=Lh hlt;rw[hG iZ] at he;have hsz:=hz r (mem_of_getElem? iZ);have PK:=vt r hsz;have hsc:=GG ID (va m);by_cases hc:r.code=0
  .have hle:=(Rec.good hc).Jh;obtain⟨hA,hB⟩:=wA Eg hc;rw[hc] at PK;have nr:=Lg Eg;repeat' first|refine run ?_|refine al λ_=>?_
   refine ck PK ?_;rintro _ _ ⟨u2,h2,rfl,rfl,Sa⟩;simp only[can];have hap:=λk=>vF ID k Sa.rs (by omega) Eg.used (by rw[Eg.Zr];exact Eg.len) Eg.loose;have htn:GH m=if 4096<=(dk m).size (va m) then va m+1 else va m:=rfl
   by_cases h4:4096<=(dk m).size (va m)
   .rw[if_pos h4] at htn;rw[htn] at hA hB;try refine run ?_
    refine cq hsc ?_;try refine run ?_
    refine ck (hap (va m+1)) ?_;rintro _ _ ⟨y',rfl,rfl,Ip⟩;simp only[can];by_cases hE:(dk m).Tg (va m+1) r.fr.length=0
    .obtain⟨e1,e2,e3⟩:=hB hE;rw[e2] at Ip;rw[if_neg (by rw[e1];decide)] at he;have Qi:=Eg.HE r;try refine run ?_
     rw[<-e3];exact D.rd (i+1,(Db m r).1,y') ⟨by simp only[];omega,Qi,Ip,he⟩ (by simp only[];omega)
    .have e1:=hA hE;rw[e1,if_pos (show(51:Int)≠0 by decide)] at he;have e2:(dk m).app (va m+1) r.fr=dk m:=by unfold Be.app;rw[if_neg hE]
     rw[e2] at Ip;try refine run ?_
     exact Xa [zf w d (va m) Ba,y',hx] rfl rfl ⟨y',by rw[he],by rw[he],by rw[he];exact Ip⟩
   .rw[if_neg h4] at htn;rw[htn] at hA hB;try refine run ?_
    refine cq hsc ?_;try refine run ?_
    refine ck (hap (va m)) ?_;rintro _ _ ⟨y',rfl,rfl,Ip⟩;simp only[can];by_cases hE:(dk m).Tg (va m) r.fr.length=0
    .obtain⟨e1,e2,e3⟩:=hB hE;rw[e2] at Ip;rw[if_neg (by rw[e1];decide)] at he;have Qi:=Eg.HE r;try refine run ?_
     rw[<-e3];exact D.rd (i+1,(Db m r).1,y') ⟨by simp only[];omega,Qi,Ip,he⟩ (by simp only[];omega)
    .have e1:=hA hE;rw[e1,if_pos (show(51:Int)≠0 by decide)] at he;have e2:(dk m).app (va m) r.fr=dk m:=by unfold Be.app;rw[if_neg hE]
     rw[e2] at Ip;try refine run ?_
     exact Xa [zf w d (va m) Ba,y',hx] rfl rfl ⟨y',by rw[he],by rw[he],by rw[he];exact Ip⟩
  .rw[iG hc,if_pos hc] at he;repeat' first|refine run ?_|refine al λ_=>?_
   refine ck PK ?_;rintro _ _ ⟨u2,h2,rfl,rfl,Sa⟩;refine rn ?_;exact Xa [zf w d (va m) Ba,y,hx] rfl rfl ⟨y,by rw[he],by rw[he],by rw[he];exact ID⟩
 .have hlen:rs.drop i=[]:=drop_eq_nil_of_le (by omega);rw[hlen] at he;try refine run ?_
  exact Xa [zf w d (va m) Ba,y,hx] rfl rfl ⟨y,by rw[he];rfl,by rw[he];rfl,by rw[he];exact ID⟩
variable{post:List Lf}{f:Lf}{n:Int}
def Lf.full(f:Lf):Lf:=⟨f.n,f.rs,f.rs.length⟩
def Ze(l:List Lf):List Lf:=l.map Lf.full
def Lf.KH(f:Lf):f.full.ps=[]:=by unfold Lf.full Lf.ps;simp
def Ie.full{pre post:List Lf}(h:Ie (pre++post)):Ie (pre.map Lf.full++post) where
 up:=by
  have:=h.up;rw[pairwise_append] at this⊢;refine⟨pairwise_map.2 this.1,this.2.1,λa ha b hb=>?_⟩;obtain⟨a',OQ,rfl⟩:=mem_map.1 ha;exact this.2.2 a' OQ b hb
 good:=λf hf=>by
  rcases mem_append.1 hf with hf|hf
  .obtain⟨a',OQ,rfl⟩:=mem_map.1 hf;exact h.good a' (mem_append_left _ OQ)
  .exact h.good f (mem_append_right _ hf)
 k:=λf hf=>by
  rcases mem_append.1 hf with hf|hf
  .obtain⟨a',OQ,rfl⟩:=mem_map.1 hf;exact Nat.le_refl _
  .exact h.k f (mem_append_right _ hf)
 tail:=by
  have:=h.tail;rw[pairwise_append] at this⊢;refine⟨pairwise_map.2 (this.1.imp λ_ hlt=>absurd hlt (Nat.lt_irrefl _)),this.2.1,λa ha b hb hlt=>?_⟩;obtain⟨a',OQ,rfl⟩:=mem_map.1 ha;exact absurd hlt (Nat.lt_irrefl _)
 lo:=λf hf=>by
  rcases mem_append.1 hf with hf|hf
  .obtain⟨a',OQ,rfl⟩:=mem_map.1 hf;exact h.lo a' (mem_append_left _ OQ)
  .exact h.lo f (mem_append_right _ hf)
 hi:=λf hf=>by
  rcases mem_append.1 hf with hf|hf
  .obtain⟨a',OQ,rfl⟩:=mem_map.1 hf;exact h.hi a' (mem_append_left _ OQ)
  .exact h.hi f (mem_append_right _ hf)
 used:=by
  have:=h.used;rw[Se] at this⊢;simp only[He,sum_append,map_map] at this⊢;exact this
 len:=by have:=h.len;simp only[Eb,bf] at this⊢;exact this
def Ie.sync(h:Ie l):Ie (Ze l):=by
 have:=Ie.full (pre:=l) (post:=[]) (by simpa using h);simpa[Ze] using this
def Mf(l:List Lf):va (Ze l)=va l:=by
 rcases eq_nil_or_concat l with rfl|⟨pre,f,rfl⟩
 .rfl
 .rw[concat_eq_append];unfold Ze;rw[He,map_cons,map_nil,Nb,Nb];rfl
def Wq{p:Pc}(h:p∈f.ps):p.f=f.n:=by
 unfold Lf.ps at h;obtain⟨r,_,rfl⟩:=mem_map.1 h;rfl
def PA(h:∀f∈l,f.n≠n):((l.map Lf.ps).flatten.filter λp=>decide (p.f≠n))=(l.map Lf.ps).flatten:=by
 rw[filter_eq_self];intro p hp;obtain⟨x,hx,hpx⟩:=mem_flatten.1 hp;obtain⟨f,hf,rfl⟩:=mem_map.1 hx;rw[Wq hpx];exact Mi (h f hf)
def mO(h:f.n=n):(f.ps.filter λp=>decide (p.f≠n))=[]:=by
 rw[filter_eq_nil_iff];intro p hp;rw[Wq hp];simp[h]
def nO{pre:List Lf}(h:Xu (pre++f::post)):(dk (pre++f::post)).sync f.n=dk (pre++f.full::post):=by
 unfold Be.sync;rw[zp h];have hm:=h.yp
 have h1:∀(l:List Lf),(∀x∈l,x.n≠f.n)->(l.map Lf.file).map (λx=>if x.n=f.n then{x with s:=x.b.length} else x)=l.map Lf.file:=by
  intro l hl;rw[map_map];apply map_congr_left;intro x hx;exact if_neg (hl x hx)
 have h2:=h1 pre λx hx=>by have:=hm.1 x hx;omega
 have h3:=h1 post λx hx=>by have:=hm.2 x hx;omega
 have h4:=PA (l:=pre) (n:=f.n) λx hx=>by have:=hm.1 x hx;omega
 have h5:=PA (l:=post) (n:=f.n) λx hx=>by have:=hm.2 x hx;omega
 simp only[Option.isNone_some,Bool.false_eq_true,if_false];unfold Be.EO dk;simp only[He,map_cons,h2,h3,flatten_append,flatten_cons,filter_append,h4,h5,mO rfl,Lf.KH,nil_append];congr 3;have h6:f.file.n=f.n:=rfl;refine(if_pos h6).trans ?_;simp[Lf.file,Lf.full]
def wQ(h:Xu (f::post)):(dk (f::post)).remove f.n=dk post:=by
 unfold Be.remove;rw[show(dk (f::post)).find f.n=some f.file from zp (pre:=[]) h];have hm:=(Xu.yp (pre:=[]) h).2;simp only[Option.isNone_some,Bool.false_eq_true,if_false];have h5:=PA (l:=post) (n:=f.n) λx hx=>by have:=hm x hx;omega
 unfold dk;simp only[map_cons,flatten_cons,filter_append,h5,mO rfl,nil_append];rw[filter_cons_of_neg (by simp[Lf.file])];congr 1;rw[filter_eq_self];intro x hx;obtain⟨y,hy,rfl⟩:=mem_map.1 hx;have:=hm y hy;exact Mi (by show y.n≠f.n;omega)
def Xu.tl(h:Xu (f::post)):Xu post where
 up:=(pairwise_cons.1 h.up).2
 good:=λx hx=>h.good x (Vn _ hx)
 k:=λx hx=>h.k x (Vn _ hx)
 lo:=λx hx=>h.lo x (Vn _ hx)
 hi:=λx hx=>h.hi x (Vn _ hx)
 used:=by have:=h.used;rw[Se] at this⊢;simp only[map_cons,sum_cons] at this;omega
 len:=by have:=h.len;rw[Ib] at this;omega
def Ie.tl{post:List Lf}{f:Lf}(h:Ie (f::post)):Ie post:=⟨h.toXu.tl,(pairwise_cons.1 h.tail).2⟩
def xQ{pre:List Lf}(h:Xu (pre++f::post)):(dk (pre++f::post)).synced f.n=(bytes (f.rs.take f.k)).length/\(dk (pre++f::post)).size f.n=(bytes f.rs).length:=by
 unfold Be.synced Be.size;rw[zp h];exact⟨rfl,rfl⟩
def cX(hg:∀r∈f.rs,r.code=0)(hk:f.k<=f.rs.length)(h: ¬(bytes (f.rs.take f.k)).length<(bytes f.rs).length):f.full=f:=by
 have h1:=Kd f.rs f.k
 have h2:(bytes (f.rs.drop f.k)).length=0:=by
  have:=congrArg List.length h1;rw[Eb] at this;omega
 have h3:f.rs.drop f.k=[]:=by
  cases hd:f.rs.drop f.k with
  |nil=>rfl
  |cons r t=>
   have:=uQ (rs:=f.rs.drop f.k) (λr hr=>hg r (mem_of_mem_drop hr)) (by rw[hd];simp);omega
 have h4:f.rs.length<=f.k:=drop_eq_nil_iff.1 h3;obtain⟨n,rs,k⟩:=f;simp only[] at h4 hk;unfold Lf.full;simp only[Lf.mk.injEq,true_and];omega
def OG(ok:Ie l){d:Nat}{h:Hp}(hd:Od (dk l) d h){w:Nat}{seg Ba:Int}:
  Ct prog 131 [w] [zf w d seg Ba,h] (λres H'=>∃h',res= .int .i64 0/\H'=[zf w d seg Ba,h']/\Od (dk (Ze l)) d h'):=by
 have zC:=Yt hd (by rw[ok.Zr];have:=ok.len;omega);rw[mq ok] at zC;have tg:=ok.len;have hnl:(l.map (·.n)).length=l.length:=bf _;refine Tk func131 λg R=>?_;refine ck zC ?_;rintro u _ ⟨hb,rfl,hs⟩;have hr:=hs.rs;refine rn ?_
 refine W.lo (α:=Nat×Hp) (λx=>x.1<=l.length/\Od (dk ((l.take x.1).map Lf.full++l.drop x.1)) d x.2)
  (λx=>[(0,w),(9,u),(10,.int .i64 ((l.map (·.n)).length:Int)),(11,.int .i64 (x.1:Int))])
  (λx=>[zf w d seg Ba,x.2,hb,R]) (λx=>l.length - x.1) (0,h) ⟨di _,by simpa using hd⟩ ?_
 rintro⟨i,y⟩ ⟨hi,ID⟩;simp only[] at hi ID⊢;by_cases hlt:i<l.length
 .obtain⟨f,hf⟩:=Lh hlt;have hn:(l.map (·.n))[i]? =some f.n:=by rw[List.getElem?_map,hf];rfl
  have DQ:l.drop i=f::l.drop (i+1):=by
   rw[drop_eq_getElem_cons hlt,(List.getElem?_eq_some_iff.1 hf).2]
  have Fh:(l.take (i+1)).map Lf.full=(l.take i).map Lf.full++[f.full]:=by
   rw[take_succ_eq_append_getElem hlt,(List.getElem?_eq_some_iff.1 hf).2,He];rfl
  have Eg:Ie ((l.take i).map Lf.full++l.drop i):=Ie.full (by rw[take_append_drop];exact ok);rw[DQ] at Eg ID;have hsc:=GO ID f.n;have M6:=GG ID f.n;have hyc:=xI ID f.n Eg.loose;obtain⟨e1,e2⟩:=xQ Eg.toXu;rw[e1] at hsc;rw[e2] at M6;rw[nO Eg.toXu] at hyc;have cg:=Pf f.rs f.k;try refine run ?_
  refine wr ?_;refine cq hsc ?_;try refine run ?_
  refine cq M6 ?_;have hnext:(l.take (i+1)).map Lf.full++l.drop (i+1)=(l.take i).map Lf.full++f.full::l.drop (i+1):=by rw[Fh];simp
  by_cases hq:(bytes (f.rs.take f.k)).length<(bytes f.rs).length
  .try refine run ?_
   refine ck hyc ?_;rintro _ _ ⟨y',rfl,rfl,Ip⟩;refine rn ?_;exact D.rd (i+1,y') ⟨by simp only[];omega,by simp only[];rw[hnext];exact Ip⟩ (by simp only[];omega)
  .have YK:=cX (ok.good f (mem_of_getElem? hf)) (ok.k f (mem_of_getElem? hf)) hq;try refine run ?_
   exact D.rd (i+1,y) ⟨by simp only[];omega,by simp only[];rw[hnext,YK];exact ID⟩ (by simp only[];omega)
 .obtain rfl:i=l.length:=by omega
  rw[take_length,drop_length,append_nil] at ID;try refine run ?_
  exact Xa [zf w d seg Ba,y] rfl rfl ⟨y,rfl,rfl,ID⟩
def Qc:Rec:=⟨3,ya.z,Wa.z,0⟩
theorem Yh:Qc.code=0:=rfl
def Tj(l:List Lf):List Lf×Int:=if(dk l).Tg (va l+1) Qc.fr.length≠0 then(l,51) else([⟨va l+1,[Qc],1⟩],0)
def Ie.last{pre:List Lf}{f:Lf}(h:Ie (pre++[f])):Ie [f]:=by
 induction pre with
 |nil=>exact h
 |cons x t ih=>exact ih h.tl
def Xu.Z8{pre post:List Lf}(h:Xu (pre++post)):Xu post:=by
 induction pre with
 |nil=>exact h
 |cons x t ih=>exact ih h.tl
def Xu.haa{n:Int}{rs:List Rec}{k:Nat}(h:Xu (l++[⟨n,rs,k⟩])):Xu (l++[⟨n,rs,rs.length⟩]) where
 up:=by
  have:=h.up;rw[pairwise_append] at this⊢;exact⟨this.1,pairwise_singleton ..,λa ha b hb=>by rw[mem_singleton.1 hb];exact this.2.2 a ha ⟨n,rs,k⟩ (mem_singleton.2 rfl)⟩
 good:=λf hf=>by
  rcases mem_append.1 hf with hf|hf
  .exact h.good f (mem_append_left _ hf)
  .rw[mem_singleton.1 hf];exact h.good ⟨n,rs,k⟩ (by simp)
 k:=λf hf=>by
  rcases mem_append.1 hf with hf|hf
  .exact h.k f (mem_append_left _ hf)
  .rw[mem_singleton.1 hf];exact Nat.le_refl _
 lo:=λf hf=>by
  rcases mem_append.1 hf with hf|hf
  .exact h.lo f (mem_append_left _ hf)
  .rw[mem_singleton.1 hf];exact h.lo ⟨n,rs,k⟩ (by simp)
 hi:=λf hf=>by
  rcases mem_append.1 hf with hf|hf
  .exact h.hi f (mem_append_left _ hf)
  .rw[mem_singleton.1 hf];exact h.hi ⟨n,rs,k⟩ (by simp)
 used:=by
  have:=h.used;rw[Se] at this⊢;simpa using this
 len:=by have:=h.len;simpa using this
def xA(ok:Ie l)(he:(dk l).Tg (va l+1) Qc.fr.length=0):Ie (l++[⟨va l+1,[Qc],0⟩])/\(dk l).app (va l+1) Qc.fr=dk (l++[⟨va l+1,[Qc],0⟩]):=by
 have hn:=Bw ok (n:=va l+1) (by omega);have nr:=Lg ok;refine⟨?_,yt he hn⟩;rw[Qk,hn] at he;simp only[Option.isNone_none,true_and] at he;split at he
 .exact absurd he (by decide)
 .split at he
  .exact absurd he (by decide)
  .rename_i h1 h2;refine ok.app (λx hx=>?_) (by intro r hr;rw[mem_singleton.1 hr];rfl) rfl (by simp only[];omega) (by simp only[];omega) (by omega) (by simp[bytes];omega);obtain⟨pre,post,rfl⟩:=append_of_mem hx;rcases eq_nil_or_concat post with rfl|⟨q,z,rfl⟩
   .rw[Nb];simp only[];omega
   .have h3:=ok.yp.2;rw[concat_eq_append] at h3⊢;have h4:=h3 z (by simp)
    have:va (pre++x::(q++[z]))=z.n:=by
     rw[show pre++x::(q++[z])=(pre++x::q)++[z] from by simp,Nb]
    rw[this];simp only[];omega
def Ie.cut(ok:Ie l):Ie (Tj l).1:=by
 unfold Tj;by_cases he:(dk l).Tg (va l+1) Qc.fr.length=0
 .rw[if_neg (by simpa using he)];have h1:=(xA ok he).1.last;have h2:=Ie.sync h1;exact h2
 .rw[if_pos he];exact ok
def iY(ok:Ie l){d:Nat}{h:Hp}(hd:Od (dk l) d h){w:Nat}{Ba:Int}:
  Ct prog 128 [w] [zf w d (va l) Ba,h] (λres H'=>∃h',res= .int .i64 (Tj l).2/\H'=[zf w d (va (Tj l).1) Ba,h']/\Od (dk (Tj l).1) d h'):=by
 have PK:=vt Qc (by decide);rw[Yh] at PK;have hle:=(Rec.good Yh).Jh;have nr:=Lg ok;refine Tk func128 λg R=>?_;refine WX.as 8 (.agg Qc.enc.toArray) rfl rfl ?_;refine ck PK ?_;rintro _ _ ⟨u,hb,rfl,rfl,hs⟩;simp only[can];have hap:=vF hd (va l+1) hs.rs (by omega) ok.used (by rw[ok.Zr];exact ok.len) ok.loose;try refine run ?_
 refine iX (ml [10,1,1]) [zf w d (va l) Ba] ?_;try refine run ?_
 refine ck hap ?_;rintro _ _ ⟨y,rfl,rfl,Ip⟩;simp only[can];by_cases hE:(dk l).Tg (va l+1) Qc.fr.length=0
 .have hlc:Tj l=([⟨va l+1,[Qc],1⟩],0):=by unfold Tj;rw[if_neg (by simpa using hE)]
  obtain⟨Ko,e1⟩:=xA ok hE;rw[e1] at Ip;have Gt:=xI Ip (va l+1) Ko.loose;rw[show(dk (l++[⟨va l+1,[Qc],0⟩])).sync (va l+1)=dk (l++[⟨va l+1,[Qc],1⟩]) from nO (post:=[]) (f:=⟨va l+1,[Qc],0⟩) Ko.toXu] at Gt;have xb:Xu (l++[⟨va l+1,[Qc],1⟩]):=Ko.toXu.haa;have tg:=xb.len;have Eaa:l.length+1<=64:=by simpa using tg
  have hnl:((l++[(⟨va l+1,[Qc],1⟩:Lf)]).map (·.n)).length=l.length+1:=by simp
  try refine run ?_
  refine iX (ml [8]) [zf w d (va l+1) Ba] ?_;try refine run ?_
  refine ck Gt ?_;rintro _ _ ⟨y2,rfl,rfl,Jd⟩;have zC:=Yt Jd (by rw[xb.Zr];omega);rw[mq xb] at zC;refine rn ?_;refine ck zC ?_;rintro u2 _ ⟨dy,rfl,Sa⟩;have DU:=Sa.rs;refine rn ?_
  refine W.lo (α:=Nat×Hp) (λx=>x.1<=l.length+1/\Od (dk (l.drop x.1++[⟨va l+1,[Qc],1⟩])) d x.2)
   (λx=>[(0,w),(44,u2),(45,.int .i64 (((l++[(⟨va l+1,[Qc],1⟩:Lf)]).map (·.n)).length:Int)),(46,.int .i64 (x.1:Int))])
   (λx=>[zf w d (va l+1) Ba,x.2,dy,R]) (λx=>l.length+1 - x.1) (0,y2) ⟨di _,by simpa using Jd⟩ ?_
  rintro⟨i,z⟩ ⟨hi,PT⟩;simp only[] at hi PT⊢;by_cases hlt:i<l.length
  .obtain⟨f,hf⟩:=Lh hlt;have hn:((l++[(⟨va l+1,[Qc],1⟩:Lf)]).map (·.n))[i]? =some f.n:=by rw[List.getElem?_map,List.getElem?_append_left hlt,hf];rfl
   have DQ:l.drop i=f::l.drop (i+1):=by
    rw[drop_eq_getElem_cons hlt,(List.getElem?_eq_some_iff.1 hf).2]
   have Eg:Xu (l.drop i++[⟨va l+1,[Qc],1⟩]):=by
    refine Xu.Z8 (pre:=l.take i) ?_;rw[<-Sc,take_append_drop];exact xb
   rw[DQ,cons_append] at Eg PT;have hrm:=gz PT f.n Eg.loose;rw[wQ Eg] at hrm;have hne:f.n<va l+1:=(Xu.yp (pre:=[]) Eg).2 ⟨va l+1,[Qc],1⟩ (by simp);try refine run ?_
   refine ck hrm ?_;rintro _ _ ⟨z',rfl,rfl,iaa⟩;refine rn ?_;exact D.rd (i+1,z') ⟨by simp only[];omega,iaa⟩ (by simp only[];omega)
  .by_cases cV:i=l.length
   .subst cV;have hn:((l++[(⟨va l+1,[Qc],1⟩:Lf)]).map (·.n))[l.length]? =some (va l+1):=by rw[List.getElem?_map,List.getElem?_append_right (Nat.le_refl _)];simp
    rw[drop_length] at PT;try refine run ?_
    exact D.rd (l.length+1,z) ⟨by simp only[];omega,by simp only[];rw[drop_eq_nil_of_le (by omega)];exact PT⟩ (by simp only[];omega)
   .have hdn:l.drop i=[]:=drop_eq_nil_of_le (by omega);rw[hdn] at PT;try refine run ?_
    exact Xa [zf w d (va l+1) Ba,z] rfl rfl ⟨z,by rw[hlc],by rw[hlc];rfl,by rw[hlc];exact PT⟩
 .have hlc:Tj l=(l,51):=by unfold Tj;rw[if_pos hE]
  have e2:(dk l).app (va l+1) Qc.fr=dk l:=by unfold Be.app;rw[if_neg hE]
  rw[e2] at Ip;try refine run ?_
  exact Xa [zf w d (va l) Ba,y] rfl rfl ⟨y,by rw[hlc],by rw[hlc],by rw[hlc];exact Ip⟩
def ye(rs:List Rec):List Rec:=rs.foldl (λo r=>if r.k=3 then[] else o++[r]) []
def gj(rs:List Rec)(r:Rec):ye (rs++[r])=if r.k=3 then[] else ye rs++[r]:=by unfold ye;rw[foldl_append];rfl
def Oz(rs:List Rec):(ye rs).length<=rs.length:=by
 have h:∀(rs o:List Rec),(rs.foldl (λo r=>if r.k=3 then[] else o++[r]) o).length<=o.length+rs.length:=by
  intro rs
  induction rs with
  |nil=>intro o;simp
  |cons r t ih=>
   intro o;rw[foldl_cons];have:=ih (if r.k=3 then[] else o++[r]);split at this
   .rename_i h1;rw[if_pos h1];simp only[td,Ib] at this⊢;omega
   .rename_i h1;rw[if_neg h1];simp only[Eb,Ib,td] at this⊢;omega
 have:=h rs [];simpa[ye] using this
def BU{α:Type}{a b c:α}{l:List α}(h:a∈b::l):a∈b::c::l:=by
 rcases mem_cons.1 h with rfl|h
 .exact qf ..
 .exact Vn _ (Vn _ h)
def Ci(a b:List Lf):Ua (a++b)=Ua a++Ua b:=by unfold Ua;simp
def Ik(f:Lf):Ua [f]=f.rs:=by unfold Ua;simp
def Jk{l:List Lf}(h:∀f∈l,∀r∈f.rs,r.code=0):6*(Ua l).length<=(dk l).used:=by
 rw[Se];unfold Ua
 induction l with
 |nil=>simp
 |cons f t ih=>
  have h1:=Im (h f (qf ..));have h2:=ih λx hx=>h x (Vn _ hx);simp only[map_cons,flatten_cons,Eb,sum_cons];omega
def zA(t:List UInt8):Prop:=∃(r:Rec) (k:Nat),r.code=0/\k<r.fr.length/\t=r.fr.take k
def Qn(pre:List Lf)(x:yd)(post:List yd):Be:=⟨pre.map Lf.file++x::post,[]⟩
structure Jw(pre:List Lf)(x:yd)(post:List yd):Prop where
 up:((pre.map Lf.file++x::post).map (·.n)).Pairwise (· < ·)
 lo:∀f∈pre.map Lf.file++x::post,0<=f.n/\f.n<=1099511627776
 good:∀f∈pre,∀r∈f.rs,r.code=0
 full:∀f∈pre,f.full=f
 used:(Qn pre x post).used<=1048576
 len:(pre.map Lf.file++x::post).length<=64
section
variable{pre:List Lf}{x y:yd}{post:List yd}
def Jw.ne(h:Jw pre x post):(∀f∈pre,f.n<x.n)/\(∀f∈post,x.n<f.n)/\∀f∈pre,∀g∈post,f.n<g.n:=by
 have:=h.up;simp only[He,map_cons,map_map] at this;rw[pairwise_append,pairwise_cons] at this;refine⟨λf hf=>this.2.2 _ (mem_map.2 ⟨f,hf,rfl⟩) _ (qf ..),λf hf=>this.2.1.1 _ (mem_map.2 ⟨f,hf,rfl⟩),λf hf g hg=>?_⟩;exact this.2.2 _ (mem_map.2 ⟨f,hf,rfl⟩) _ (Vn _ (mem_map.2 ⟨g,hg,rfl⟩))
def Ky{a b:List yd}{x:yd}{ps:List Pc}(h:∀f∈a,f.n≠x.n):(Be.mk (a++x::b) ps).find x.n=some x:=by
 have hp:(a.find? λz=>decide (z.n=x.n))=none:=by
  rw[List.find?_eq_none];intro z hz hc;exact h z hz (of_decide_eq_true hc)
 unfold Be.find;simp only[List.find?_append,hp,Option.none_or];rw[List.find?_cons_of_pos (by simp)]
def Jw.find(h:Jw pre x post):(Qn pre x post).find x.n=some x:=Ky λf hf=>by
 obtain⟨z,hz,rfl⟩:=mem_map.1 hf;have:=h.ne.1 z hz;show z.n≠x.n;omega
def Jw.names(h:Jw pre x post):(Qn pre x post).names=pre.map (·.n)++x.n::post.map (·.n):=by
 unfold Be.names Qn;simp only[];rw[Tu (h.up.imp λhlt=>by omega)];simp only[He,map_cons,map_map];rfl
def Jw.L5(h:Jw pre x post){a b:List Lf}{f:Lf}(e:pre=a++f::b):(Qn pre x post).find f.n=some f.file:=by
 subst e;have h1:Qn (a++f::b) x post=⟨a.map Lf.file++f.file::(b.map Lf.file++x::post),[]⟩:=by unfold Qn;simp
 rw[h1];refine Ky (x:=f.file) λz hz=>?_;obtain⟨w,hw,rfl⟩:=mem_map.1 hz;have:=h.up;simp only[He,map_cons,map_map,Sc,cons_append] at this;rw[pairwise_append] at this;have:=this.2.2 _ (mem_map.2 ⟨w,hw,rfl⟩) _ (qf ..);show w.n≠f.n;have h3:w.n<f.n:=this;omega
def Jw.AI(h:Jw pre x post){rs:List Rec}{t:List UInt8}(hb:x.b=bytes rs++t):(Qn pre x post).AI x.n (bytes rs).length=Qn pre (Lf.file ⟨x.n,rs,rs.length⟩) post:=by
 unfold Be.AI Be.EO Qn;simp only[He,map_cons,if_true]
 have h1:(pre.map Lf.file).map (λf=>if f.n=x.n then{f with b:=f.b.take (bytes rs).length,s:=(bytes rs).length} else f)=pre.map Lf.file:=by
  rw[map_map];apply map_congr_left;intro z hz;have:=h.ne.1 z hz;exact if_neg (by show ¬z.n=x.n;omega)
 have h2:post.map (λf=>if f.n=x.n then{f with b:=f.b.take (bytes rs).length,s:=(bytes rs).length} else f)=post:=by
  have:post.map (λf=>if f.n=x.n then{f with b:=f.b.take (bytes rs).length,s:=(bytes rs).length} else f)=post.map id:=by
   apply map_congr_left;intro z hz;have:=h.ne.2.1 z hz;exact if_neg (by omega)
  rw[this,map_id]
 rw[h1,h2];congr 3;rw[hb];simp[Lf.file,take_left]
def Jw.size(h:Jw pre x (y::post)):(Qn pre x (y::post)).size y.n=y.b.length:=by
 unfold Be.size;have h1:Qn pre x (y::post)=⟨(pre.map Lf.file++[x])++y::post,[]⟩:=by unfold Qn;simp
 have h2:(Qn pre x (y::post)).find y.n=some y:=by
  rw[h1];refine Ky λz hz=>?_;rcases mem_append.1 hz with hz|hz
  .obtain⟨w,hw,rfl⟩:=mem_map.1 hz;have:=h.ne.2.2 w hw y (qf ..);show w.n≠y.n;omega
  .rw[mem_singleton.1 hz];have:=h.ne.2.1 y (qf ..);omega
 rw[h2]
def Jw.remove(h:Jw pre x (y::post)):(Qn pre x (y::post)).remove y.n=Qn pre x post:=by
 have h1:Qn pre x (y::post)=⟨(pre.map Lf.file++[x])++y::post,[]⟩:=by unfold Qn;simp
 have h2:(Qn pre x (y::post)).find y.n=some y:=by
  rw[h1];refine Ky λz hz=>?_;rcases mem_append.1 hz with hz|hz
  .obtain⟨w,hw,rfl⟩:=mem_map.1 hz;have:=h.ne.2.2 w hw y (qf ..);show w.n≠y.n;omega
  .rw[mem_singleton.1 hz];have:=h.ne.2.1 y (qf ..);omega
 unfold Be.remove;rw[h2];simp only[Option.isNone_some,Bool.false_eq_true,if_false];unfold Qn;simp only[filter_append,filter_nil];congr 1
 have h3:(pre.map Lf.file).filter (λf=>decide (f.n≠y.n))=pre.map Lf.file:=by
  rw[filter_eq_self];intro z hz;obtain⟨w,hw,rfl⟩:=mem_map.1 hz;have:=h.ne.2.2 w hw y (qf ..);exact Mi (by show w.n≠y.n;omega)
 have h4:=h.ne.2.1 y (qf ..)
 have h5:post.filter (λf=>decide (f.n≠y.n))=post:=by
  rw[filter_eq_self];intro z hz;have:=h.up;simp only[He,map_cons] at this;rw[pairwise_append,pairwise_cons,pairwise_cons] at this;have:=this.2.1.2.1 _ (mem_map.2 ⟨z,hz,rfl⟩);exact Mi (by omega)
 rw[h3,filter_cons,if_pos (Mi (by omega)),filter_cons,if_neg (by simp),h5]
def Jw.drop(h:Jw pre x (y::post)):Jw pre x post where
 up:=by
  have:=h.up;simp only[He,map_cons] at this⊢;rw[pairwise_append,pairwise_cons,pairwise_cons] at this;rw[pairwise_append,pairwise_cons];exact⟨this.1,⟨λa ha=>this.2.1.1 a (Vn _ ha),this.2.1.2.2⟩,λa ha b hb=>this.2.2 a ha b (BU hb)⟩
 lo:=λf hf=>h.lo f (by
  rcases mem_append.1 hf with hf|hf
  .exact mem_append_left _ hf
  .rcases mem_cons.1 hf with rfl|hf
   .simp
   .exact mem_append_right _ (Vn _ (Vn _ hf)))
 good:=h.good
 full:=h.full
 used:=by
  have:=h.used;unfold Be.used Qn at this⊢;simp only[He,map_cons,sum_append,sum_cons] at this⊢;omega
 len:=by have:=h.len;simp only[Eb,Ib] at this⊢;omega
def Jw.cut(h:Jw pre x post){rs:List Rec}{t:List UInt8}(hb:x.b=bytes rs++t):Jw pre (Lf.file ⟨x.n,rs,rs.length⟩) post where
 up:=by have:=h.up;simp only[He,map_cons] at this⊢;exact this
 lo:=λf hf=>by
  rcases mem_append.1 hf with hf|hf
  .exact h.lo f (mem_append_left _ hf)
  .rcases mem_cons.1 hf with rfl|hf
   .exact h.lo x (by simp)
   .exact h.lo f (mem_append_right _ (Vn _ hf))
 good:=h.good
 full:=h.full
 used:=by
  have:=h.used;unfold Be.used Qn at this⊢;simp only[He,map_cons,sum_append,sum_cons,hb,Eb,Lf.file] at this⊢;omega
 len:=by have:=h.len;simpa using this
def Jw.last{rs:List Rec}(h:Jw pre (Lf.file ⟨x.n,rs,rs.length⟩) []):Qn pre (Lf.file ⟨x.n,rs,rs.length⟩) []=dk (pre++[⟨x.n,rs,rs.length⟩]):=by
 unfold Qn dk;simp only[He,map_cons,map_nil,flatten_append,Be.mk.injEq,true_and]
 have h1:(pre.map Lf.ps).flatten=[]:=by
  rw[flatten_eq_nil_iff];intro z hz;obtain⟨w,hw,rfl⟩:=mem_map.1 hz;rw[<-h.full w hw];exact w.KH
 rw[h1];simp[Lf.ps]
end
end Go.Proofs.YthebagfahkebiaaGreat
namespace Go.Sl
open Go List
variable{g:World}{Q:Exit->Act->World->Prop}{n:Nat}{L:Fm}{H:HH}
def W.Pe{P:Program}{c:Code}(h:W g P c Q n L ([]::H)):W g P c Q n L H:= .mk λa w ha hw=>h a w ha hw
def D.hp{e:Exit}{H':HH}(eq:H=H')(h:D g Q e n L H'):D g Q e n L H:=eq▸h
def D.Pe{e:Exit}(h:D g Q e n L ([]::H)):D g Q e n L H:= .mk λa w ha hw=>h a w ha hw
end Go.Sl
namespace Go.Proofs.YthebagfahkebiaaGreat
open Go Go.Sl Go.Proofs.Tryz List
def CA{l:List Lf}{i:Nat}{f:Lf}(h:l[i]? =some f):va (l.take (i+1))=f.n:=by
 obtain⟨h1,h2⟩:=List.getElem?_eq_some_iff.1 h;rw[take_succ_eq_append_getElem h1,h2,Nb]
def jG{l:List Lf}{i:Nat}{f:Lf}(h:l[i]? =some f):Ua (l.take (i+1))=Ua (l.take i)++f.rs:=by
 obtain⟨h1,h2⟩:=List.getElem?_eq_some_iff.1 h;rw[take_succ_eq_append_getElem h1,h2,Ci,Ik]
def oO{S:Be}{d:Nat}{h:Hp}(hd:Od S d h){pre:List Lf}{ns:List Int}(hnm:S.names=pre.map (·.n)++ns)(hfl:S.fs.length<=64)(hrd:∀f∈pre,S.Xt f.n=bytes f.rs/\(bytes f.rs).length<=1048576)(hgd:∀f∈pre,∀r∈f.rs,r.code=0)
  (dL:(S.names).length<=64){seg Ba:Int}{S':Be}{out:List Rec}(nZ:6*(Ua pre).length<=1048576)
  (hend:(ns=[]/\seg=va pre/\Ba=0/\S'=S/\out=ye (Ua pre))\/
   ∃x post rs t,S=Qn pre x post/\Jw pre x post/\x.b=bytes rs++t/\x.s=x.b.length/\(∀r∈rs,r.code=0)/\zA t/\t≠[]/\seg=x.n/\Ba=(t.length+(post.map (·.b.length)).sum:Nat)/\S'=dk (pre++[⟨x.n,rs,rs.length⟩])/\out=ye (Ua pre++rs)):
  Ct prog 82 [d] [h] (λres H'=>∃w u h' ho,res= .tuple #[.pointer (some ⟨w,0,none⟩),u]/\H'=[zf w d seg Ba,h',ho]/\Od S' d h'/\ia 140 out u ho):=by
 have zC:=Yt hd (by omega);refine ce func82 λg R=>?_;repeat' first|refine rn ?_|refine Uc λ_=>?_|refine W.lq 0 rfl ?_
 rename_i w;refine ck zC ?_;rintro u _ ⟨hb,rfl,hs⟩;have hr:=hs.rs;obtain⟨up,uc,rfl⟩:=hr.len;have K0:S.names.length<=uc:=by obtain⟨a,cc,e,le,_⟩:=id hr;cases e;exact le
 refine rn ?_;refine W.Pe ?_;refine W.h0 [[],h,hb,zf w d (va (pre.take 0)) 0,R] ?_
 refine W.lo (α:=Nat×Value×Hp) (λx=>x.1<=pre.length/\ia 140 (ye (Ua (pre.take x.1))) x.2.1 x.2.2)
  (λx=>[(0,d),(4,.pointer (some ⟨w,0,none⟩)),(5,x.2.1),(6,.slice up S.names.length uc),(8,.int .i64 (x.1:Int))])
  (λx=>[x.2.2,zf w d (va (pre.take x.1)) 0,h,hb,R]) (λx=>pre.length+1 - x.1) (0,.slice none 0 0,[]) ⟨di _,ia.nil _⟩ ?_
 rintro⟨i,o,ho⟩ ⟨hi,Tn⟩;simp only[] at hi Tn⊢;have hnl:S.names.length=pre.length+ns.length:=by rw[hnm];simp
 by_cases hC:i=pre.length/\ns=[]
 .obtain⟨rfl,rfl⟩:=hC;simp only[td] at hnl;rcases hend with⟨-,rfl,rfl,rfl,rfl⟩|⟨x,post,rs,t,e,ox,-⟩
  .rw[take_length] at Tn⊢;try refine run ?_
   exact D.Vb [zf w d (va pre) 0,h,ho] _ rfl rfl rfl ⟨w,o,h,ho,rfl,rfl,hd,Tn⟩
  .exfalso;subst e;rw[ox.names] at hnm;simp at hnm
 .obtain⟨n,rs,t,H6,M5,rM,ou,TT⟩:∃n rs t,S.names[i]? =some n/\S.Xt n=bytes rs++t/\(bytes rs++t).length<=1048576/\(∀r∈rs,r.code=0)/\
    ((t=[]/\∃f,pre[i]? =some f/\f.n=n/\f.rs=rs)\/(i=pre.length/\∃x post,S=Qn pre x post/\Jw pre x post/\x.b=bytes rs++t/\x.s=x.b.length/\zA t/\t≠[]/\n=x.n/\seg=x.n/\Ba=(t.length+(post.map (·.b.length)).sum:Nat)/\S'=dk (pre++[⟨x.n,rs,rs.length⟩])/\out=ye (Ua pre++rs))):=by
   by_cases hlt:i<pre.length
   .obtain⟨f,hf⟩:=Lh hlt;have hm:=mem_of_getElem? hf;refine⟨f.n,f.rs,[],?_,by rw[append_nil];exact(hrd f hm).1,by rw[append_nil];exact(hrd f hm).2,hgd f hm,.inl ⟨rfl,f,hf,rfl,rfl⟩⟩;rw[hnm,List.getElem?_append_left (by simpa using hlt),List.getElem?_map,hf];rfl
   .obtain rfl:i=pre.length:=by omega
    rcases hend with⟨e,-⟩|⟨x,post,rs,t,e1,e2,e3,e4,e5,e6,e7,e8,e9,JQ,I0⟩
    .exact absurd ⟨rfl,e⟩ hC
    .have Qe:=e2.names;rw[<-e1,hnm] at Qe;have hns:=append_cancel_left Qe;have hrb:S.Xt x.n=x.b:=by unfold Be.Xt;rw[e1,e2.find]
     have hub:x.b.length<=1048576:=by
      have:=e2.used;unfold Be.used Qn at this;simp only[He,map_cons,sum_append,sum_cons] at this;omega
     refine⟨x.n,rs,t,?_,by rw[hrb,e3],by rw[<-e3];exact hub,e5,.inr ⟨rfl,x,post,e1,e2,e3,e4,e6,e7,rfl,e8,e9,JQ,I0⟩⟩;rw[hnm,hns,List.getElem?_append_right (by simp)];simp
  have hrl:6*rs.length<=1048576:=by
   have:=Im ou;rw[Eb] at rM;omega
  have Hx:(Ua (pre.take i)).length<=(Ua pre).length:=by
   have:=congrArg (λl=>(Ua l).length) (take_append_drop i pre);simp only[Ci,Eb] at this;omega
  have hrc:=gV hd n (by rw[M5];omega);rw[M5] at hrc;have hil:i<S.names.length:=(List.getElem?_eq_some_iff.1 H6).1;try refine run ?_
  refine ck hrc ?_;rintro _ _ ⟨ub,OK,rfl,rfl,vI⟩;have hrb:=vI.rs;obtain⟨bp,bc,rfl⟩:=hrb.len;have hbc:(bytes rs++t).length<=bc:=by obtain⟨a,cc,e,le,_⟩:=id hrb;cases e;exact le
  refine rn ?_
  refine W.lo (α:=Nat×Value×Hp) (λx=>x.1<=rs.length/\ia 140 (ye (Ua (pre.take i)++rs.take x.1)) x.2.1 x.2.2)
   (λx=>[(0,d),(4,.pointer (some ⟨w,0,none⟩)),(5,x.2.1),(6,.slice up S.names.length uc),(7,.slice bp (bytes rs++t).length bc),(8,.int .i64 (i:Int)),(9,.int .i64 ((bytes (rs.take x.1)).length:Int))])
   (λx=>[h,OK,x.2.2,zf w d n 0,hb,R]) (λx=>rs.length+1 - x.1) (0,o,ho) ⟨di _,by simpa using Tn⟩ ?_
  rintro⟨j,o1,UL⟩ ⟨hj,Ws⟩;simp only[] at hj Ws⊢;have Ah:(bytes rs++t).length=(bytes rs).length+t.length:=Eb;have n9:=Pf rs j;by_cases hlt:j<rs.length
  .obtain⟨r,oZ⟩:=Lh hlt;have pK:=ou r (mem_of_getElem? oZ);have AA:=Rec.good pK;have hle:=AA.Jh;have Fh:rs.take (j+1)=rs.take j++[r]:=by rw[take_succ_eq_append_getElem hlt,(List.getElem?_eq_some_iff.1 oZ).2]
   have hdj:rs.drop j=r::rs.drop (j+1):=by rw[drop_eq_getElem_cons hlt,(List.getElem?_eq_some_iff.1 oZ).2]
   have Cj:(bytes (rs.take (j+1))).length=(bytes (rs.take j)).length+r.fr.length:=by rw[Fh,mj,Eb];simp[bytes]
   have hxs:(bytes rs++t).drop (bytes (rs.take j)).length=r.fr++(bytes (rs.drop (j+1))++t):=by
    rw[<-Kd rs j,Sc,drop_left,hdj,ve,Sc]
   have zy:(bytes rs++t).length=(bytes (rs.take j)).length+(r.fr.length+(bytes (rs.drop (j+1))++t).length):=by
    have:=congrArg List.length hxs;simp only[length_drop,Eb] at this⊢;omega
   have Jo:=hrb.cut (m:=1) (lo:=(bytes (rs.take j)).length) (hi:=(bytes rs++t).length) (mx:=bc) rfl (by omega) (Nat.le_refl _) hbc;rw[take_of_length_le (by rw[length_drop];omega)] at Jo;have BA:=bX AA pK hxs Jo (by rw[length_drop];omega);try refine run ?_
   refine WX.vi (lo:=(bytes (rs.take j)).length) rfl rfl (by omega) hbc rfl ?_;refine cq BA ?_;have N0:=Oz (Ua (pre.take i)++rs.take j);rw[Eb,Oe] at N0;by_cases pW:r.k=3
   .repeat' first|refine run ?_|refine al λ_=>?_
    refine D.as 9 (.int .i64 ((bytes (rs.take (j+1))).length:Int)) rfl (by rw[Cj];rfl) ?_;refine D.Pe ?_;exact D.rd (j+1,.slice none 0 0,[]) ⟨by simp only[];omega,by simp only[];rw[Fh,<-Sc,gj,if_pos pW];exact ia.nil _⟩ (by simp only[];omega)
   .repeat' first|refine run ?_|refine al λ_=>?_
    refine Up [r] (λv1 h1 hs1=>?_);refine Jt (zb:=by simp only[Ib,td,Eb] at N0⊢;omega) Ws hs1.rs (λv2 h2 Sa=>?_);try refine run ?_
    refine D.as 9 (.int .i64 ((bytes (rs.take (j+1))).length:Int)) rfl (by rw[Cj];rfl) ?_;exact D.rd (j+1,v2,h2) ⟨by simp only[];omega,by simp only[];rw[Fh,<-Sc,gj,if_neg pW];exact Sa⟩ (by simp only[];omega)
  .obtain rfl:j=rs.length:=by omega
   rw[take_length] at Ws n9⊢;rcases TT with⟨rfl,f,hf,rfl,rfl⟩|⟨rfl,x,post,rfl,ox,uX,hxs,hsh,htn,rfl,rfl,rfl,rfl,rfl⟩
   .simp only[td,Nat.add_zero] at Ah;have hip:=(List.getElem?_eq_some_iff.1 hf).1;try refine run ?_
    rw[<-jG hf] at Ws;rw[<-CA hf];exact D.rd (i+1,o1,UL) ⟨by simp only[];omega,Ws⟩ (by simp only[];omega)
   .obtain⟨r,k,pK,hk,rfl⟩:=hsh;have AA:=Rec.good pK;have hle:=AA.Jh;have htl:0<(r.fr.take k).length:=length_pos_iff.2 htn;have Jo:=hrb.cut (m:=1) (lo:=(bytes rs).length) (hi:=(bytes rs++r.fr.take k).length) (mx:=bc) rfl (by omega) (Nat.le_refl _) hbc;rw[take_of_length_le (by rw[length_drop];omega),drop_left] at Jo;have BA:=GM AA hk rfl htn Jo;try refine run ?_
    refine WX.vi (lo:=(bytes rs).length) rfl rfl (by omega) hbc rfl ?_;refine cq BA ?_;repeat' first|refine run ?_|refine al λ_=>?_
    have oxc:=ox.cut uX;have I6:=qR hd ox.find hxs (n:=(bytes rs).length) (by rw[uX,Eb];omega) (by rw[uX];omega) rfl;rw[ox.AI uX] at I6;refine ck I6 ?_;rintro _ _ ⟨y0,rfl,rfl,Gl⟩;simp only[can];have Qe:=ox.names;have Faa:(Qn pre x post).names.length=pre.length+1+post.length:=by rw[Qe];simp;omega
    have SX:=hr.cut (m:=1) (lo:=pre.length+1) (hi:=(Qn pre x post).names.length) (mx:=uc) rfl (by omega) (Nat.le_refl _) K0
    have hdn:(Qn pre x post).names.drop (pre.length+1)=post.map (·.n):=by
     rw[Qe,<-drop_drop,show pre.length=(pre.map (·.n)).length from(bf _).symm,drop_left];rfl
    rw[take_of_length_le (by rw[length_drop];omega),hdn] at SX;have DO:(post.map (·.n)).length=post.length:=bf _;have Sn:=ox.used;unfold Be.used Qn at Sn;simp only[He,map_cons,sum_append,sum_cons,uX,Eb] at Sn;try refine run ?_
    refine WX.as 84 (.int .i64 ((pre.length+1:Nat):Int)) rfl rfl ?_;refine WX.vi (lo:=pre.length+1) rfl rfl (by omega) K0 rfl ?_;generalize Ui (.slice up (Qn pre x post).names.length uc) 1 (pre.length+1) (Qn pre x post).names.length uc=z at SX⊢;try refine run ?_
    have e0:(((bytes rs++r.fr.take k).length:Int) - ((bytes rs).length:Int))=(((r.fr.take k).length+((post.take 0).map (·.b.length)).sum:Nat):Int):=by
     simp only[Eb,take_zero,map_nil,sum_nil];omega
    rw[e0]
    refine W.lo (α:=Nat×Hp) (λx1=>x1.1<=post.length/\Od (Qn pre (Lf.file ⟨x.n,rs,rs.length⟩) (post.drop x1.1)) d x1.2/\Jw pre (Lf.file ⟨x.n,rs,rs.length⟩) (post.drop x1.1))
     (λx1=>[(0,d),(4,.pointer (some ⟨w,0,none⟩)),(5,o1),(85,z),(86,.int .i64 ((post.map (·.n)).length:Int)),(87,.int .i64 (x1.1:Int))])
     (λx1=>[x1.2,UL,zf w d x.n (((r.fr.take k).length+((post.take x1.1).map (·.b.length)).sum:Nat):Int),hb,R]) (λx1=>post.length - x1.1) (0,y0) ⟨di _,Gl,oxc⟩ ?_
    rintro⟨q,y1⟩ ⟨hq,UZ,oq⟩;simp only[] at hq UZ oq⊢;by_cases hlt:q<post.length
    .obtain⟨y,hy⟩:=Lh hlt;have hyn:(post.map (·.n))[q]? =some y.n:=by rw[List.getElem?_map,hy];rfl
     have DQ:post.drop q=y::post.drop (q+1):=by rw[drop_eq_getElem_cons hlt,(List.getElem?_eq_some_iff.1 hy).2]
     have Fh:((post.take (q+1)).map (·.b.length)).sum=((post.take q).map (·.b.length)).sum+y.b.length:=by
      rw[take_succ_eq_append_getElem hlt,(List.getElem?_eq_some_iff.1 hy).2];simp
     have hle2:((post.take (q+1)).map (·.b.length)).sum<=(post.map (·.b.length)).sum:=by
      have:=congrArg (λl=>(l.map (λf:yd=>f.b.length)).sum) (take_append_drop (q+1) post);simp only[He,sum_append] at this;omega
     rw[DQ] at UZ oq;have hsz:=GG UZ y.n;rw[oq.size] at hsz;have hrm:=gz UZ y.n (by show(0:Nat)<=_;omega);rw[oq.remove] at hrm;try refine run ?_
     refine iX (ml [6,1,1]) [zf w d x.n (((r.fr.take k).length+((post.take q).map (·.b.length)).sum:Nat):Int)] ?_;try refine run ?_
     refine cq hsz ?_;try refine run ?_
     refine ck hrm ?_;rintro _ _ ⟨y2,rfl,rfl,Jd⟩;refine rn ?_;have e1:((((r.fr.take k).length+((post.take q).map (·.b.length)).sum:Nat):Int)+(y.b.length:Int))=(((r.fr.take k).length+((post.take (q+1)).map (·.b.length)).sum:Nat):Int):=by rw[Fh];omega
     rw[e1];exact D.rd (q+1,y2) ⟨by simp only[];omega,Jd,oq.drop⟩ (by simp only[];omega)
    .obtain rfl:q=post.length:=by omega
     rw[drop_length] at UZ oq;rw[take_length];rw[oq.last] at UZ;try refine run ?_
     exact D.Vb [zf w d x.n (((r.fr.take k).length+(post.map (·.b.length)).sum:Nat):Int),y1,UL] _ rfl rfl rfl ⟨w,o1,y1,UL,rfl,rfl,UZ,by rw[<-take_length (l:=pre)];exact Ws⟩
end Go.Proofs.YthebagfahkebiaaGreat
namespace Go.Sl
open Go
section
variable{H:Type}{enc:TypeId×Value->H}{P:Program}{w:World}{t ft i off k:Nat}{ag:Bool}{cs:List Value}{v:Value}
def Uf{H:Type}(enc:TypeId×Value->H)(P:Program)(w:World)(t:Nat)(cs:List Value):Prop:=
 ∃(fuel:Nat) (x:DataW H×List MemPlace),DataW.trod enc P w 0 (λ_=>true) true fuel t cs=some x/\∀l∈x.1.weights P t,l<=reachBytes
def TL.cellsOf(h:TL P t k ag):P.cellsOf t=k:=by
 obtain⟨s,_⟩:=h;unfold Program.cellsOf;rw[s];rfl
def Uf.len[Y9:Ae P t i off ft][tl:TL P t k ag](h:Uf enc P w t cs):cs.length=k:=by
 obtain⟨fuel,x,hx,_⟩:=h;obtain⟨fs,fd,hu,_⟩:=Y9.h;obtain⟨xs,n,_,_,hl,_⟩:=DataW.trod_struct hu hx;rw[hl,tl.cellsOf]
def Uf.field(i:Nat)[Y9:Ae P t i off ft][tl:TL P ft k ag](h:Uf enc P w t cs):Uf enc P w ft ((cs.drop off).take k):=by
 obtain⟨fuel,x,hx,hw⟩:=h;obtain⟨fs,fd,hu,hf,rfl,rfl⟩:=Y9.h;obtain⟨xs,n,_,rfl,hl,hlen,IU⟩:=DataW.trod_struct hu hx;have h1:=IU i fd hf;have hi:i<xs.length:=by rw[hlen];exact(Array.getElem?_eq_some_iff.1 hf).1
 rw[Wg hi,tl.cellsOf] at h1;refine⟨n,xs[i],h1,?_⟩;simp only[DataW.weights,hu] at hw;exact ze hw (i:=i) (by rw[List.getElem?_map,Array.getElem?_toList,hf];rfl) (by rw[List.getElem?_map,Wg hi];rfl)
def Uf.rd{α:Type}[Qb α]{I:World->α->Prop}(hr:JE P t α I)(h:Uf enc P w t cs):∃y:α,cs=Qb.enc y/\I w y:=by
 obtain⟨fuel,x,hx,hw⟩:=h;exact hr H enc w fuel cs x hx hw
def Uf.int[ht:TU P t (.int .i64)](h:Uf enc P w t cs):∃n,cs=[.int .i64 n]/\X9 n:=h.rd HZ
def Uf.bool[ht:TU P t .bool](h:Uf enc P w t cs):∃b,cs=[.bool b]:=let⟨b,h1,_⟩:=h.rd MW;⟨b,h1⟩
def vJ{α:Type}[Qb α]{I:World->α->Prop}(h:∀(H:Type) (enc:TypeId×Value->H) (w:World) (cs:List Value),Uf enc P w t cs->∃y:α,cs=Qb.enc y/\I w y):JE P t α I:=
 λH enc w fuel cs x hx hw=>h H enc w cs ⟨fuel,x,hx,hw⟩
end
section args
variable{H:Type}{enc:TypeId×Value->H}{P:Program}{W:World}{r:Reach}{base t i off ft:Nat}{v:Value}{d:DataW H}{p:List MemPlace}
def Mk{α:Type}[E:Qb α]{I:World->α->Prop}(i:Nat)[tf:Ae P t i off ft](he:JE P t α I)(hv:Value.okWide P W r base t v)(h:DataW.Trod enc P W 0 (λ_=>true) true t v d p)
  (jC:∀l∈d.weights P t,l<=reachBytes):∃y:α,v= .agg (Qb.enc y).toArray/\I W y:=by
 obtain⟨fs,fd,hu,_⟩:=tf.h;obtain⟨cs,rfl,_⟩:=WideShapes.okWide_struct hu hv;obtain⟨fuel,hf⟩:=h;obtain⟨y,h1,h2⟩:=he H enc W fuel _ _ hf jC;exact⟨y,by rw[<-h1];rfl,h2⟩
end args
end Go.Sl
namespace Go.Proofs.YthebagfahkebiaaGreat
open Go Go.Sl Go.Proofs.Tryz List
def J8{s y:Nat}:yH (s^^^y)=(if(s^^^y) &&& 1=1 then(s/2^1)^^^3988292384 else s/2^1)^^^(y/2):=by
 have h:(s^^^y)/2^1=(s/2^1)^^^(y/2):=Nat.xor_div_two;unfold yH;rw[h];split
 .rw[Nat.xor_assoc,Nat.xor_assoc,Nat.xor_comm (y/2)]
 .rfl
def lT{r:Nat}(hr:r<4294967296)(x:UInt8):Ct prog 320 [.int .u32 (r:Int),.int .u8 (x.toNat:Int)] [] (λv H'=>v= .int .u32 (Ss r x:Int)/\H'=[]):=by
 have hx:=Mh x;refine Tk func320 λg R=>?_;refine W.lo (α:=Nat×Nat) (λy=>y.1<=8/\y.2<4294967296/\OJ y.1 (r^^^x.toNat)=y.2^^^(x.toNat/2^y.1)) (λy=>[(0,.int .u32 (y.2:Int)),(1,.int .u8 (x.toNat:Int)),(5,.int .i64 (y.1:Int))]) (λ_=>[R]) (λy=>8 - y.1) (0,r) ⟨di _,hr,by simp only[Nat.pow_zero,Nat.div_one];rfl⟩ ?_;rintro⟨i,s⟩ ⟨hi,hs,he⟩;simp only[] at hi hs he⊢;by_cases K8:i<8
 .have hq:x.toNat/2^i<=x.toNat:=Nat.div_le_self _ _;have hxs:s^^^(x.toNat/2^i)<4294967296:=Oo hs (by omega)
  have hn:OJ (i+1) (r^^^x.toNat)=(if(s^^^(x.toNat/2^i)) &&& 1=1 then(s/2^1)^^^3988292384 else s/2^1)^^^(x.toNat/2^(i+1)):=by
   show yH (OJ i (r^^^x.toNat))=_;have x6:x.toNat/2^i/2=x.toNat/2^(i+1):=by rw[Nat.div_div_eq_div_mul,<-Nat.pow_succ]
   rw[he,J8,x6]
  have L3:i<=IntKind.u32.bits:=by show i<=32;omega
  by_cases hl:(s^^^(x.toNat/2^i)) &&& 1=1
  .rw[if_pos hl] at hn;repeat' first|refine run ?_|refine WX.conv rfl rfl (IntWalk.u32_in _ (by omega)) ?_|refine WX.Po (a:=x.toNat) (m:=i) rfl rfl L3 rfl ?_|refine WX.Po (m:=1) rfl rfl (by decide) rfl ?_|refine WX.PJ (a:=s) (b:=x.toNat/2^i) rfl rfl hs (by omega) rfl ?_|refine WX.DN (a:=s^^^(x.toNat/2^i)) (b:=1) rfl rfl hxs (by decide) rfl ?_|refine WX.PJ (b:=3988292384) rfl rfl (by omega) (by decide) rfl ?_
   exact D.rd (i+1,(s/2^1)^^^3988292384) ⟨by simp only[];omega,Oo (by omega) (by decide),hn⟩ (by simp only[];omega)
  .rw[if_neg hl] at hn;repeat' first|refine run ?_|refine WX.conv rfl rfl (IntWalk.u32_in _ (by omega)) ?_|refine WX.Po (a:=x.toNat) (m:=i) rfl rfl L3 rfl ?_|refine WX.Po (m:=1) rfl rfl (by decide) rfl ?_|refine WX.PJ (a:=s) (b:=x.toNat/2^i) rfl rfl hs (by omega) rfl ?_|refine WX.DN (a:=s^^^(x.toNat/2^i)) (b:=1) rfl rfl hxs (by decide) rfl ?_
   exact D.rd (i+1,s/2^1) ⟨by simp only[];omega,by simp only[];omega,hn⟩ (by simp only[];omega)
 .obtain rfl:i=8:=by omega
  have h0:x.toNat/2^8=0:=Nat.div_eq_of_lt (by omega);rw[h0,Nat.xor_zero] at he;try refine run ?_
  exact Xa [] rfl rfl ⟨by rw[<-he];rfl,rfl⟩
def QJ{bs:List UInt8}{v:Value}{h:Hp}(hb:Rs bs v h)(hl:bs.length<=1099511627776):
  Ct prog 289 [.int .u32 0,v] [h] (λr H'=>r= .int .u32 (wg bs:Int)/\H'=[h]):=by
 have hs:(0:Nat)<4294967296:=by decide
 refine ce func289 λg R=>?_;repeat' first|refine rn ?_|refine WX.EN (a:=0) rfl hs rfl ?_
 refine W.lo (α:=Nat) (λk=>k<=bs.length) (λk=>[(1,v),(5,.int .u32 (((bs.take k).foldl Ss (4294967295^^^0):Nat):Int)),(6,.int .i64 (k:Int))]) (λ_=>[h,R]) (λk=>bs.length - k) 0 (di _) ?_;intro k hk;have RJ:(bs.take k).foldl Ss (4294967295^^^0)<4294967296:=zH (Oo (by decide) hs);by_cases hlt:k<bs.length
 .obtain⟨x,hx⟩:=Lh hlt;obtain⟨h1,h2⟩:=List.getElem?_eq_some_iff.1 hx
  have Qe:(bs.take (k+1)).foldl Ss (4294967295^^^0)=Ss ((bs.take k).foldl Ss (4294967295^^^0)) x:=by
   rw[take_succ_eq_append_getElem h1,h2,foldl_append];rfl
  try refine run ?_
  refine cq (lT RJ x) ?_;rw[<-Qe];try refine run ?_
  exact D.re (k+1)
 .obtain rfl:k=bs.length:=by omega
  rw[take_length] at RJ⊢;repeat' first|refine run ?_|refine WX.EN rfl RJ rfl ?_
  exact Wi [h]
structure Ch where
 ep:Int
 ms:List Mem
 ln:Option Mem
 deriving DecidableEq
def Ch.all(c:Ch):List Mem:=c.ms++c.ln.toList
def Ch.cfg(c:Ch):Wa:=⟨c.ep,(c.ms.length:Int),c.ms.getD 0 Mem.z,c.ms.getD 1 Mem.z,c.ms.getD 2 Mem.z,c.ms.getD 3 Mem.z,c.ln.isSome,c.ln.getD Mem.z⟩
structure Ag(c:Ch):Prop where
 e1:1<=c.ep
 e2:c.ep<=1099511627776
 l1:1<=c.ms.length
 up:(c.all.map (·.nd)).Pairwise (· ≠ ·)
 rg:∀m∈c.all,0<=m.nd/\m.nd<4/\1<=m.sn/\m.sn<=c.ep
def four:∀{l:List Int},l.Pairwise (· ≠ ·)->(∀x∈l,0<=x/\x<4)->l.length<=4
 |[],_,_=>by decide
 |[_],_,_=>by simp
 |[_,_],_,_=>by simp
 |[_,_,_],_,_=>by simp
 |[_,_,_,_],_,_=>by simp
 |a::b::c::d::e::t,h,k=>by
  have ha:=k a (by simp);have hb:=k b (by simp);have hc:=k c (by simp);have hd:=k d (by simp);have he:=k e (by simp);simp only[pairwise_cons,mem_cons,forall_eq_or_imp] at h;obtain⟨⟨h1,h2,h3,h4,_⟩,⟨h5,h6,h7,_⟩,⟨h8,h9,_⟩,⟨ZV,_⟩,_⟩:=h;exfalso;omega
def Ag.l4{c:Ch}(h:Ag c):c.ms.length+c.ln.toList.length<=4:=by
 have:=four h.up (λx hx=>by
  obtain⟨m,hm,rfl⟩:=mem_map.1 hx;exact⟨(h.rg m hm).1,(h.rg m hm).2.1⟩)
 rw[bf] at this;unfold Ch.all at this;rw[Eb] at this;exact this
def Kc(n:Nat):Ch:=⟨1,(List.range n).map λ(i:Nat)=>⟨(i:Int),1⟩,none⟩
def tS{n:Nat}(h1:1<=n)(h2:n<=4):Ag (Kc n):=by
 refine⟨Int.le_refl 1,by show(1:Int)<=1099511627776;decide,by simpa[Kc] using h1,?_,?_⟩
 .match n,h1,h2 with
  |1,_,_=>decide
  |2,_,_=>decide
  |3,_,_=>decide
  |4,_,_=>decide
 .match n,h1,h2 with
  |1,_,_=>decide
  |2,_,_=>decide
  |3,_,_=>decide
  |4,_,_=>decide
variable{l:List Mem}{m:Mem}{k:Nat}{x:Wa}
def Mem.enc(m:Mem):List Value:=[m.nd,m.sn]
instance:Qb Mem:=⟨2,Mem.enc,λ_=>rfl,λ_=>rfl,by decide⟩
abbrev od(b:Nat)(c:Wa):Hp:=[(b,.cells (List.toArray c.enc) 40 (0,0))]
def FY{c:Ch}(h:c.ms.length<=4):∃post,c.cfg.enc=[.int .i64 c.cfg.ep,.int .i64 c.cfg.n]++(Jb c.ms++post):=by
 obtain⟨ep,ms,ln⟩:=c;simp only[] at h
 match ms,h with
 |[],_=>exact⟨_,rfl⟩
 |[_],_=>exact⟨_,rfl⟩
 |[_,_],_=>exact⟨_,rfl⟩
 |[_,_,_],_=>exact⟨_,rfl⟩
 |[_,_,_,_],_=>exact⟨_,rfl⟩
def GY{c:Ch}(h:c.ms.length<=4)(b:Nat):Rs c.ms (.slice (some ⟨b,2,none⟩) c.ms.length 4) (od b c.cfg):=by
 obtain⟨post,e⟩:=FY h;exact Rs.part e rfl h
def SF{xs:List Mem}{v:Value}{h:Hp}(hs:Rs xs v h)(hl:xs.length<=1000000):
  Ct prog 237 [v] [h] (λr H'=>∃h',ia 37 xs r h'/\H'=[h',h]):=by
 obtain⟨p,c,rfl⟩:=hs.len;refine ce func237 λg R=>?_;simp only[can]
 cases p with
 |none=>
  have hx:xs=[]:=by
   obtain⟨a,c',e,_,f⟩:=hs;cases e
   cases xs with
   |nil=>rfl
   |cons y r=>obtain⟨b,off,e,_⟩:=f 0 y rfl;cases e
  subst hx;repeat' first|refine run ?_|refine WX.uO rfl rfl rfl ?_
  exact Xa [[],h] rfl rfl ⟨_,ia.nil _,rfl⟩
 |some a=>
  repeat' first|refine run ?_|refine WX.uO rfl rfl rfl ?_
  refine WX.lit (ys:=([]:List Mem)) (vs:=[]) rfl rfl rfl rfl rfl rfl (by decide) rfl (λv1 h1 hs1=>?_);try refine run ?_
  refine Jt (zb:=by simp only[td];omega) hs1 hs (λv2 h2 Sa=>?_);rw[nil_append] at Sa;try refine run ?_
  exact Xa [h2,h] rfl rfl ⟨_,Sa,rfl⟩
def Xw{c:Ch}(h4:c.ms.length<=4):
  Ct prog 173 [.agg (List.toArray c.cfg.enc)] [] (λr H'=>∃h',ia 37 c.all r h'/\H'=[h']):=by
 have Mw:=GY h4;obtain⟨ep,ms,ln⟩:=c;simp only[] at h4 Mw;refine ce func173 λg R=>?_;simp only[can]
 cases ln with
 |none=>
  repeat' first|refine run ?_|refine Uc λ_=>?_
  rename_i b;refine WX.B3 (hi:=ms.length) rfl rfl h4 rfl ?_;refine ck (SF (Mw b) (by omega)) ?_;rintro _ _ ⟨h1,hs1,rfl⟩;refine rn ?_
  exact Xa [h1] rfl rfl ⟨h1,by simpa[Ch.all] using hs1,rfl⟩
 |some m=>
  repeat' first|refine run ?_|refine Uc λ_=>?_
  rename_i b;refine WX.B3 (hi:=ms.length) rfl rfl h4 rfl ?_;refine ck (SF (Mw b) (by omega)) ?_;rintro _ _ ⟨h1,hs1,rfl⟩;refine rn ?_;refine Up [m] (λv2 h2 Sa=>?_);refine Jt (zb:=by simp only[Ib,td];omega) hs1 Sa.rs (λv3 h3 Cc=>?_);try refine run ?_
  exact Xa [h3] rfl rfl ⟨h3,by simpa[Ch.all] using Cc,rfl⟩
def Py{c:Ch}(ok:Ag c):
  Ct prog 173 [.agg (List.toArray c.cfg.enc)] [] (λr H'=>∃h',ia 37 c.all r h'/\H'=[h']):=
 Xw (by have:=ok.l4;omega)
def uj(n:Int):Ct prog 236 [n] [] (λr H'=>r= .bool (decide (0<=n/\n<4))/\H'=[]):=by
 refine ce func236 λg R=>?_;simp only[can];by_cases h0:0<=n
 .try refine run ?_
  exact Xa [] rfl rfl ⟨by simp[h0],rfl⟩
 .try refine run ?_
  exact Xa [] rfl rfl ⟨by simp[h0],rfl⟩
def Lj(l:List Mem):List Value:=[.bool (l.any λm=>m.nd==0),.bool (l.any λm=>m.nd==1),.bool (l.any λm=>m.nd==2),.bool (l.any λm=>m.nd==3)]
def zJ{n:Int}(h0:0<=n)(h4:n<4):(Lj l)[n.toNat]? =some (.bool (l.any λm=>m.nd==n)):=by
 rcases(by omega:n=0\/n=1\/n=2\/n=3) with rfl|rfl|rfl|rfl<;>rfl
def AJ(h0:0<=m.nd)(h4:m.nd<4):(Lj l).set m.nd.toNat (.bool true)=Lj (l++[m]):=by
 unfold Lj;rcases(by omega:m.nd=0\/m.nd=1\/m.nd=2\/m.nd=3) with h|h|h|h<;>rw[h]<;>simp[any_append,h]
def RR{c:Ch}(ok:Ag c)(hk:c.all[k]? =some m):((c.all.take k).any λx=>x.nd==m.nd)=false:=by
 rw[any_eq_false];intro x hx;obtain⟨h1,h2⟩:=List.getElem?_eq_some_iff.1 hk;have e:c.all=c.all.take k++m::c.all.drop (k+1):=by rw[<-h2,<-drop_eq_getElem_cons h1,take_append_drop]
 have hp:=ok.up;rw[e,He,map_cons,pairwise_append] at hp;have:=hp.2.2 x.nd (mem_map.2 ⟨x,hx,rfl⟩) m.nd (qf ..);simpa using this
def Wa.Et(x:Wa):List Mem:=[x.f0,x.f1,x.f2,x.f3]
def ff(x:Wa):Ch:=⟨x.ep,x.Et.take x.n.toNat,if x.jo=true then some x.le else none⟩
instance(c:Ch):Decidable (Ag c):=decidable_of_iff (1<=c.ep/\c.ep<=1099511627776/\1<=c.ms.length/\(c.all.map (·.nd)).Pairwise (· ≠ ·)/\∀m∈c.all,0<=m.nd/\m.nd<4/\1<=m.sn/\m.sn<=c.ep)
 ⟨λ⟨a,b,c,d,e⟩=>⟨a,b,c,d,e⟩,λ⟨a,b,c,d,e⟩=>⟨a,b,c,d,e⟩⟩
abbrev Md(x:Wa):Prop:=(1<=x.n/\x.n<=4)/\(ff x).cfg=x/\Ag (ff x)
def Tt{c:Ch}(h:c.ms.length<=4):ff c.cfg=c:=by
 obtain⟨ep,ms,ln⟩:=c;simp only[] at h;have hl:(if(ln.isSome)=true then some (ln.getD Mem.z) else none)=ln:=by cases ln<;>rfl
 have h2:(if(Ch.cfg ⟨ep,ms,ln⟩).jo=true then some (Ch.cfg ⟨ep,ms,ln⟩).le else none)=ln:=hl;unfold ff;rw[h2]
 match ms,h with
 |[],_=>rfl
 |[_],_=>rfl
 |[_,_],_=>rfl
 |[_,_,_],_=>rfl
 |[_,_,_,_],_=>rfl
def Jv{c:Ch}(ok:Ag c):Md c.cfg:=by
 have h4:=ok.l4;have h1:=ok.l1;have e:=Tt (c:=c) (by omega);exact⟨⟨by show(1:Int)<=(c.ms.length:Int);omega,by show(c.ms.length:Int)<=4;omega⟩,by rw[e],by rw[e];exact ok⟩
def bW(x:Wa)(b:Nat)(hk:k<=4):Rs (x.Et.drop k) (.slice (some (aW b 2 2 4 k)) (4 - k) (4 - k)) (od b x):=by
 rcases(by omega:k=0\/k=1\/k=2\/k=3\/k=4) with rfl|rfl|rfl|rfl|rfl
 .exact Rs.part (pre:=x.enc.take 2) (post:=x.enc.drop 10) (xs:=x.Et) rfl rfl (Nat.le_refl _)
 .exact Rs.part (pre:=x.enc.take 4) (post:=x.enc.drop 10) (xs:=x.Et.drop 1) rfl rfl (Nat.le_refl _)
 .exact Rs.part (pre:=x.enc.take 6) (post:=x.enc.drop 10) (xs:=x.Et.drop 2) rfl rfl (Nat.le_refl _)
 .exact Rs.part (pre:=x.enc.take 8) (post:=x.enc.drop 10) (xs:=x.Et.drop 3) rfl rfl (Nat.le_refl _)
 .exact Rs.none _ rfl
def LS(hk:x.n=(k:Int))(FU:k<=4)(h:(ff x).cfg=x):∀m∈x.Et.drop k,m=Mem.z:=by
 obtain⟨ep,n,f0,f1,f2,f3,jo,le⟩:=x;simp only[] at hk;subst hk;rcases(by omega:k=0\/k=1\/k=2\/k=3\/k=4) with rfl|rfl|rfl|rfl|rfl<;>simp[ff,Ch.cfg,Wa.Et] at h⊢<;>grind
def CP(h:(ff x).cfg=x)(hj:x.jo=false):x.le=Mem.z:=by
 have e:(ff x).cfg.le=(if x.jo=true then some x.le else none).getD Mem.z:=rfl;rw[h,hj] at e;exact e
def mI(hk:x.n=(k:Int))(FU:k<=4)(h1:∀m∈x.Et.drop k,m=Mem.z)(h2:x.jo=false->x.le=Mem.z):(ff x).cfg=x:=by
 obtain⟨ep,n,f0,f1,f2,f3,jo,le⟩:=x;simp only[] at hk h2;subst hk;rcases(by omega:k=0\/k=1\/k=2\/k=3\/k=4) with rfl|rfl|rfl|rfl|rfl<;>cases jo<;>simp[ff,Ch.cfg,Wa.Et] at h1 h2⊢<;>simp[h1,h2]
def Tr(c:Ch)(k:Nat):Prop:=∀(i:Nat) (m:Mem),i<k->c.all[i]? =some m->(0<=m.nd/\m.nd<4/\1<=m.sn/\m.sn<=c.ep)/\∀(j:Nat) (m':Mem),j<i->c.all[j]? =some m'->m'.nd≠m.nd
def Tr.all{c:Ch}(h:Tr c c.all.length)(e1:1<=c.ep)(e2:c.ep<=1099511627776)(l1:1<=c.ms.length):Ag c:=by
 refine⟨e1,e2,l1,?_,λm hm=>?_⟩
 .rw[pairwise_iff_getElem];intro i j hi hj hij;rw[bf] at hi hj;rw[getElem_map,getElem_map];exact(h j _ hj (Wg hj)).2 i _ hij (Wg hi)
 .obtain⟨i,hi⟩:=mem_iff_getElem?.1 hm;exact(h i m (List.getElem?_eq_some_iff.1 hi).1 hi).1
def Ag.D3{c:Ch}(ok:Ag c)(k:Nat):Tr c k:=λi m _ hi=>⟨ok.rg m (mem_of_getElem? hi),λj m' hj hm'=>by
 have hp:=ok.up;rw[pairwise_iff_getElem] at hp;obtain⟨a1,a2⟩:=List.getElem?_eq_some_iff.1 hi;obtain⟨b1,b2⟩:=List.getElem?_eq_some_iff.1 hm';have:=hp j i (by rw[bf];exact b1) (by rw[bf];exact a1) hj;rw[getElem_map,getElem_map,a2,b2] at this;exact this⟩
def BJ{c:Ch}(hk:c.all[k]? =some m):((c.all.take k).any λx=>x.nd==m.nd)=false↔∀(j:Nat) (m':Mem),j<k->c.all[j]? =some m'->m'.nd≠m.nd:=by
 rw[any_eq_false];constructor
 .intro h j m' hj hm';have:=h m' (mem_iff_getElem?.2 ⟨j,by rw[List.getElem?_take,if_pos hj];exact hm'⟩);simpa using this
 .intro h x hx;obtain⟨j,hj⟩:=mem_iff_getElem?.1 hx;have hlt:=(List.getElem?_eq_some_iff.1 hj).1;rw[Oe] at hlt;rw[List.getElem?_take,if_pos (by omega)] at hj;have:=h j x (by omega) hj;simpa using this
def Gq(m m':Mem):Ab [.i,.i] m.enc m'.enc=some (decide (m=m')):=by
 obtain⟨a,b⟩:=m;obtain⟨a',b'⟩:=m';obtain⟨r,e,i⟩:=Zh (ks:=[.i,.i]) (xs:=Mem.enc ⟨a,b⟩) (ys:=Mem.enc ⟨a',b'⟩) rfl rfl;rw[e];congr 1
 have h2:(Mem.enc ⟨a,b⟩=Mem.enc ⟨a',b'⟩)↔(Mem.mk a b=Mem.mk a' b'):=by
  constructor
  .intro h;cases h;rfl
  .intro h;cases h;rfl
 rw[h2] at i;by_cases hb:Mem.mk a b=Mem.mk a' b'
 .rw[Mi hb,i.2 hb]
 .rw[rj hb]
  cases r with
  |false=>rfl
  |true=>exact absurd (i.1 rfl) hb
def Bq(x:Wa):Ct prog 172 [.agg (List.toArray x.enc)] [] (λr H'=>r= .bool (decide (Md x))/\H'=[]):=by
 by_cases vk: ¬(1<=x.ep/\x.ep<=1099511627776/\1<=x.n/\x.n<=4)
 .have hno: ¬Md x:=λ⟨h1,h2,h3⟩=>vk ⟨h3.e1,h3.e2,h1⟩;rw[rj hno];clear hno;refine ce func172 λg R=>?_;simp only[can];by_cases g1:x.ep<1
  .repeat' first|refine run ?_|refine Uc λ_=>?_
   exact Wi []
  by_cases g2:1099511627776<x.ep
  .repeat' first|refine run ?_|refine Uc λ_=>?_
   exact Wi []
  by_cases g3:x.n<1
  .repeat' first|refine run ?_|refine Uc λ_=>?_
   exact Wi []
  have g4:4<x.n:=by omega
  repeat' first|refine run ?_|refine Uc λ_=>?_
  exact Wi []
 obtain⟨eX,Y0,ic,OX⟩:=Classical.not_not.1 vk;clear vk;obtain⟨k,hk⟩:∃k:Nat,x.n=(k:Int):=⟨x.n.toNat,by omega⟩;have FU:k<=4:=by omega
 have Om:1<=k:=by omega
 have Mw:=λb=>bW x b FU;have hrl:(x.Et.drop k).length=4 - k:=by rw[length_drop];rfl
 have hzr:=LS hk FU;have A1:=mI hk FU;refine ce func172 λg R=>?_;repeat' first|refine rn ?_|refine Uc λ_=>?_
 rename_i b;refine WX.EY (lo:=k) rfl (by rw[<-hk];rfl) FU rfl ?_;try refine run ?_
 have hz:=Mw b;refine W.lo (α:=Nat) (λj=>j<=4 - k/\∀(i:Nat) (m:Mem),i<j->(x.Et.drop k)[i]? =some m->m=Mem.z) (λj=>[(1,b),(29,.slice (some (aW b 2 2 4 k)) (4 - k) (4 - k)),(30,.int .i64 (4 - k:Nat)),(31,.int .i64 (j:Int))]) (λ_=>[od b x,R]) (λj=>4 - k - j) 0 ⟨di _,λi m hi=>absurd hi (Nat.not_lt_zero _)⟩ ?_;rintro j ⟨hj,hall⟩;by_cases hlt:j<4 - k
 .obtain⟨m,hm⟩:∃m,(x.Et.drop k)[j]? =some m:=⟨_,Wg (by omega)⟩;have tm:=Gq m Mem.z;by_cases BQ:m=Mem.z
  .rw[Mi BQ] at tm;repeat' first|refine run ?_|refine al λ_=>?_|refine WX.aj rfl rfl tm rfl ?_
   refine D.rd (j+1) ⟨by omega,λi p hi hp=>?_⟩ (by omega);rcases Nat.lt_or_ge i j with h|h
   .exact hall i p h hp
   .obtain rfl:i=j:=by omega
    rw[hm] at hp;cases hp;exact BQ
  .have hno: ¬Md x:=λ⟨_,h2,_⟩=>BQ (hzr h2 m (mem_of_getElem? hm));rw[rj BQ] at tm;repeat' first|refine run ?_|refine al λ_=>?_|refine WX.aj rfl rfl tm rfl ?_
   exact Xa [] rfl rfl ⟨by rw[rj hno],rfl⟩
 obtain rfl:j=4 - k:=by omega
 have nI:∀m∈x.Et.drop k,m=Mem.z:=λm hm=>by
  obtain⟨i,hi⟩:=mem_iff_getElem?.1 hm;have:=(List.getElem?_eq_some_iff.1 hi).1;exact hall i m (by omega) hi
 have tl:=Gq x.le Mem.z;by_cases hle:x.jo=false/\x.le≠Mem.z
 .have hno: ¬Md x:=λ⟨_,h2,_⟩=>hle.2 (CP h2 hle.1);rw[rj hle.2] at tl;have hj:=hle.1;try refine run ?_
  rw[hj];repeat' first|refine run ?_|refine WX.aj rfl rfl tl rfl ?_
  exact Xa [] rfl rfl ⟨by rw[rj hno],rfl⟩
 have Xy:=A1 nI (λh=>Classical.byContradiction λh'=>hle ⟨h,h'⟩);obtain⟨c,hc⟩:∃c,ff x=c:=⟨_,rfl⟩;have hiff:Md x↔Ag c:=by rw[<-hc];exact⟨λh=>h.2.2,λh=>⟨⟨ic,OX⟩,Xy,h⟩⟩
 have hd:decide (Md x)=decide (Ag c):=by rw[decide_eq_decide];exact hiff
 rw[hd];rw[hc] at Xy;subst Xy;clear hd hiff A1 nI hzr hc;have Zt:c.ms.length=k:=by have:(c.ms.length:Int)=(k:Int):=hk;omega
 have dR:=Xw (c:=c) (by omega)
 have taa:c.all.length<=5:=by
  unfold Ch.all;rw[Eb];have:c.ln.toList.length<=1:=(by cases c.ln<;>simp);omega
 cases hl:c.ln with
 |none=>
  have hj:c.cfg.jo=false:=by show c.ln.isSome=false;rw[hl];rfl
  have hle:c.cfg.le=Mem.z:=by show c.ln.getD Mem.z=Mem.z;rw[hl];rfl
  try refine run ?_
  rw[hj];try refine run ?_
  refine WX.aj (b:=true) (xs:=Mem.enc c.cfg.le) rfl rfl (by rw[hle];rfl) rfl ?_;repeat' first|refine run ?_|refine al λ_=>?_
  rename_i b5;refine ck dR ?_;rintro _ _ ⟨hm,E3,rfl⟩;have hrm:=E3.rs;obtain⟨vp,vc,rfl⟩:=hrm.len;refine rn ?_;refine W.flat (H':=[hm,[(b5,.cells (List.toArray (Lj (c.all.take 0))) 259 (0,0))],od b c.cfg,R]) rfl ?_;refine W.lo (α:=Nat) (λq=>q<=c.all.length/\Tr c q) (λq=>[(1,b),(5,b5),(49,.slice vp c.all.length vc),(50,.int .i64 (c.all.length:Nat)),(51,.int .i64 (q:Int))]) (λq=>[[(b5,.cells (List.toArray (Lj (c.all.take q))) 259 (0,0))],od b c.cfg,hm,R]) (λq=>c.all.length - q) 0 ⟨di _,λi m hi=>absurd hi (Nat.not_lt_zero _)⟩ ?_;rintro q ⟨hq,hmo⟩;by_cases hlt:q<c.all.length
  .obtain⟨m,hmk⟩:=Lh hlt;have Iq:=BJ hmk
   have cA:∀ok:Ag c,(0<=m.nd/\m.nd<4/\1<=m.sn/\m.sn<=c.ep)/\((c.all.take q).any λx=>x.nd==m.nd)=false:=λok=>by
    obtain⟨w1,w2⟩:=ok.D3 (q+1) q m (by omega) hmk;exact⟨w1,Iq.2 w2⟩
   by_cases r0:0<=m.nd/\m.nd<4
   .obtain⟨r1,r2⟩:=r0;have B8:=zJ (l:=c.all.take q) r1 r2;have gw:(Lj (c.all.take q))[0+m.nd.toNat*1]? =some (.bool ((c.all.take q).any λx=>x.nd==m.nd)):=by rw[Nat.zero_add,Nat.mul_one];exact B8
    have Ue:Nat.blt (0+m.nd.toNat*1) (Lj (c.all.take q)).length=true:=Nat.ble_eq_true_of_le (by show 0+m.nd.toNat*1+1<=4;omega)
    cases iw:((c.all.take q).any λx=>x.nd==m.nd) with
    |true=>
     have hno: ¬Ag c:=λok=>by have:=(cA ok).2;rw[iw] at this;cases this
     rw[iw] at gw;repeat' first|refine run ?_|refine al λ_=>?_
     refine cq (uj m.nd) ?_;rw[Mi (⟨r1,r2⟩:0<=m.nd/\m.nd<4)];try refine run ?_
     refine WX.load rfl gw rfl ?_;try refine run ?_
     exact Xa [] rfl rfl ⟨by rw[rj hno],rfl⟩
    |false=>
     rw[iw] at gw;by_cases r5:1<=m.sn/\m.sn<=c.cfg.ep
     .obtain⟨r3,r4⟩:=r5;have hst:(Lj (c.all.take q)).set (0+m.nd.toNat*1) (.bool true)=Lj (c.all.take (q+1)):=by rw[Nat.zero_add,Nat.mul_one,AJ r1 r2,take_add_one,hmk];rfl
      repeat' first|refine run ?_|refine al λ_=>?_
      refine cq (uj m.nd) ?_;rw[Mi (⟨r1,r2⟩:0<=m.nd/\m.nd<4)];try refine run ?_
      refine WX.load rfl gw rfl ?_;try refine run ?_
      refine WX.store rfl rfl rfl Ue ?_;rw[hst];try refine run ?_
      refine D.rd (q+1) ⟨by omega,λi p hi hp=>?_⟩ (by omega);rcases Nat.lt_or_ge i q with h|h
      .exact hmo i p h hp
      .obtain rfl:i=q:=by omega
       rw[hmk] at hp;cases hp;exact⟨⟨r1,r2,r3,r4⟩,Iq.1 iw⟩
     .have hno: ¬Ag c:=λok=>r5 ⟨(cA ok).1.2.2.1,(cA ok).1.2.2.2⟩;by_cases r3:m.sn<1
      .repeat' first|refine run ?_|refine al λ_=>?_
       refine cq (uj m.nd) ?_;rw[Mi (⟨r1,r2⟩:0<=m.nd/\m.nd<4)];try refine run ?_
       refine WX.load rfl gw rfl ?_;try refine run ?_
       exact Xa [] rfl rfl ⟨by rw[rj hno],rfl⟩
      .have r4:c.cfg.ep<m.sn:=by omega
       repeat' first|refine run ?_|refine al λ_=>?_
       refine cq (uj m.nd) ?_;rw[Mi (⟨r1,r2⟩:0<=m.nd/\m.nd<4)];try refine run ?_
       refine WX.load rfl gw rfl ?_;try refine run ?_
       exact Xa [] rfl rfl ⟨by rw[rj hno],rfl⟩
   .have hno: ¬Ag c:=λok=>r0 ⟨(cA ok).1.1,(cA ok).1.2.1⟩;repeat' first|refine run ?_|refine al λ_=>?_
    refine cq (uj m.nd) ?_;rw[rj r0];try refine run ?_
    exact Xa [] rfl rfl ⟨by rw[rj hno],rfl⟩
  .obtain rfl:q=c.all.length:=by omega
   have hyes:Ag c:=hmo.all eX Y0 (by omega);try refine run ?_
   exact Xa [] rfl rfl ⟨by rw[Mi hyes],rfl⟩
 |some m=>
  have hj:c.cfg.jo=true:=by show c.ln.isSome=true;rw[hl];rfl
  try refine run ?_
  rw[hj];repeat' first|refine run ?_|refine al λ_=>?_
  rename_i b5;refine ck dR ?_;rintro _ _ ⟨hm,E3,rfl⟩;have hrm:=E3.rs;obtain⟨vp,vc,rfl⟩:=hrm.len;refine rn ?_;refine W.flat (H':=[hm,[(b5,.cells (List.toArray (Lj (c.all.take 0))) 259 (0,0))],od b c.cfg,R]) rfl ?_;refine W.lo (α:=Nat) (λq=>q<=c.all.length/\Tr c q) (λq=>[(1,b),(5,b5),(49,.slice vp c.all.length vc),(50,.int .i64 (c.all.length:Nat)),(51,.int .i64 (q:Int))]) (λq=>[[(b5,.cells (List.toArray (Lj (c.all.take q))) 259 (0,0))],od b c.cfg,hm,R]) (λq=>c.all.length - q) 0 ⟨di _,λi m hi=>absurd hi (Nat.not_lt_zero _)⟩ ?_;rintro q ⟨hq,hmo⟩;by_cases hlt:q<c.all.length
  .obtain⟨m,hmk⟩:=Lh hlt;have Iq:=BJ hmk
   have cA:∀ok:Ag c,(0<=m.nd/\m.nd<4/\1<=m.sn/\m.sn<=c.ep)/\((c.all.take q).any λx=>x.nd==m.nd)=false:=λok=>by
    obtain⟨w1,w2⟩:=ok.D3 (q+1) q m (by omega) hmk;exact⟨w1,Iq.2 w2⟩
   by_cases r0:0<=m.nd/\m.nd<4
   .obtain⟨r1,r2⟩:=r0;have B8:=zJ (l:=c.all.take q) r1 r2;have gw:(Lj (c.all.take q))[0+m.nd.toNat*1]? =some (.bool ((c.all.take q).any λx=>x.nd==m.nd)):=by rw[Nat.zero_add,Nat.mul_one];exact B8
    have Ue:Nat.blt (0+m.nd.toNat*1) (Lj (c.all.take q)).length=true:=Nat.ble_eq_true_of_le (by show 0+m.nd.toNat*1+1<=4;omega)
    cases iw:((c.all.take q).any λx=>x.nd==m.nd) with
    |true=>
     have hno: ¬Ag c:=λok=>by have:=(cA ok).2;rw[iw] at this;cases this
     rw[iw] at gw;repeat' first|refine run ?_|refine al λ_=>?_
     refine cq (uj m.nd) ?_;rw[Mi (⟨r1,r2⟩:0<=m.nd/\m.nd<4)];try refine run ?_
     refine WX.load rfl gw rfl ?_;try refine run ?_
     exact Xa [] rfl rfl ⟨by rw[rj hno],rfl⟩
    |false=>
     rw[iw] at gw;by_cases r5:1<=m.sn/\m.sn<=c.cfg.ep
     .obtain⟨r3,r4⟩:=r5;have hst:(Lj (c.all.take q)).set (0+m.nd.toNat*1) (.bool true)=Lj (c.all.take (q+1)):=by rw[Nat.zero_add,Nat.mul_one,AJ r1 r2,take_add_one,hmk];rfl
      repeat' first|refine run ?_|refine al λ_=>?_
      refine cq (uj m.nd) ?_;rw[Mi (⟨r1,r2⟩:0<=m.nd/\m.nd<4)];try refine run ?_
      refine WX.load rfl gw rfl ?_;try refine run ?_
      refine WX.store rfl rfl rfl Ue ?_;rw[hst];try refine run ?_
      refine D.rd (q+1) ⟨by omega,λi p hi hp=>?_⟩ (by omega);rcases Nat.lt_or_ge i q with h|h
      .exact hmo i p h hp
      .obtain rfl:i=q:=by omega
       rw[hmk] at hp;cases hp;exact⟨⟨r1,r2,r3,r4⟩,Iq.1 iw⟩
     .have hno: ¬Ag c:=λok=>r5 ⟨(cA ok).1.2.2.1,(cA ok).1.2.2.2⟩;by_cases r3:m.sn<1
      .repeat' first|refine run ?_|refine al λ_=>?_
       refine cq (uj m.nd) ?_;rw[Mi (⟨r1,r2⟩:0<=m.nd/\m.nd<4)];try refine run ?_
       refine WX.load rfl gw rfl ?_;try refine run ?_
       exact Xa [] rfl rfl ⟨by rw[rj hno],rfl⟩
      .have r4:c.cfg.ep<m.sn:=by omega
       repeat' first|refine run ?_|refine al λ_=>?_
       refine cq (uj m.nd) ?_;rw[Mi (⟨r1,r2⟩:0<=m.nd/\m.nd<4)];try refine run ?_
       refine WX.load rfl gw rfl ?_;try refine run ?_
       exact Xa [] rfl rfl ⟨by rw[rj hno],rfl⟩
   .have hno: ¬Ag c:=λok=>r0 ⟨(cA ok).1.1,(cA ok).1.2.1⟩;repeat' first|refine run ?_|refine al λ_=>?_
    refine cq (uj m.nd) ?_;rw[rj r0];try refine run ?_
    exact Xa [] rfl rfl ⟨by rw[rj hno],rfl⟩
  .obtain rfl:q=c.all.length:=by omega
   have hyes:Ag c:=hmo.all eX Y0 (by omega);try refine run ?_
   exact Xa [] rfl rfl ⟨by rw[Mi hyes],rfl⟩
def MS{c:Ch}(ok:Ag c):Ct prog 172 [.agg (List.toArray c.cfg.enc)] [] (λr H'=>r= .bool true/\H'=[]):=by
 have h:=Bq c.cfg;rw[Mi (Jv ok)] at h;exact h
end Go.Proofs.YthebagfahkebiaaGreat
