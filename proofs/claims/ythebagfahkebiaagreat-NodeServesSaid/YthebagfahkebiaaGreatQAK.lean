/- Texts of one road. -/
import Derived.Test.YthebagfahkebiaaGreatQAJ
set_option linter.all false
set_option maxHeartbeats 8000000
set_option maxRecDepth 20000
namespace Go.Proofs.YthebagfahkebiaaGreat
open Go Go.Sl Go.Proofs.Tryz List
variable{d:Nat}{h:Hp}
def qz{l:List Lf}(ok:Ge l)(hd:Od (dk l) d h):
  Ct prog 82 [d] [h] (λres H'=>∃w u h' ho,res= .tuple #[.pointer (some ⟨w,0,none⟩),u]/\H'=[qf w d (ua l) 0,h',ho]/\Od (dk l) d h'/\ia 140 (we (Ta l)) u ho):=by
 have hc:=Ik ok.good;have hu:=ok.used;refine XN (pre:=l) (ns:=[]) hd (by rw[Wp ok,append_nil]) (by rw[ok.Kr];exact ok.len) (λf hf=>?_) ok.good (by rw[Wp ok,We];exact ok.len) (by omega) (.inl ⟨rfl,rfl,rfl,rfl,rfl⟩);obtain⟨a,b,rfl⟩:=append_of_mem hf;refine⟨by unfold ze.Jt;rw[Uo ok.toKu];rfl,?_⟩;rw[Qe] at hu;simp only[Ae,map_cons,sum_append,sum_cons] at hu;omega
def GP{pre:List Lf}{x:xd}{post:List xd}(ox:uw pre x post){rs:List Rec}{t:List UInt8}(hb:x.b=bytes rs++t)(hs:x.s=x.b.length)(hg:∀r∈rs,r.code=0)(hsh:zA t)(ht:t≠[])(hd:Od (Ln pre x post) d h):
  Ct prog 82 [d] [h] (λres H'=>∃w u h' ho,res= .tuple #[.pointer (some ⟨w,0,none⟩),u]/\H'=[qf w d x.n ((t.length+(post.map (·.b.length)).sum:Nat):Int),h',ho]/\Od (dk (pre++[⟨x.n,rs,rs.length⟩])) d h'/\ia 140 (we (Ta pre++rs)) u ho):=by
 have hu:=ox.used;have hl:=ox.len;have hc:=Ik (l:=pre) ox.good;rw[Qe] at hc
 have Dn:(pre.map (λf=>(bytes f.rs).length)).sum<=1048576:=by
  unfold ze.used Ln at hu;simp only[Ae,map_cons,sum_append,sum_cons,map_map] at hu;have:(pre.map ((λx=>x.b.length)∘Lf.file))=pre.map (λf=>(bytes f.rs).length):=rfl;rw[this] at hu;omega
 have hlen:(pre.map Lf.file++x::post).length<=64:=hl
 have hnl:(Ln pre x post).names.length<=64:=by
  rw[ox.names];simp only[Cb,We,Gb] at hl⊢;omega
 refine XN (pre:=pre) (ns:=x.n::post.map (·.n)) hd ox.names hl (λf hf=>?_) ox.good hnl (by omega) (.inr ⟨x,post,rs,t,rfl,ox,hb,hs,hg,hsh,ht,rfl,rfl,rfl,rfl⟩);obtain⟨a,b,e⟩:=append_of_mem hf;refine⟨by unfold ze.Jt;rw[ox.U5 e];rfl,?_⟩;have:=Mo (mem_map.2 ⟨f,hf,rfl⟩:(bytes f.rs).length∈pre.map (λf=>(bytes f.rs).length));omega
variable{n:Int}{a b:List Lf}
def oe:List Lf->Nat->List xd
 |[],_=>[]
 |f::t,q=>⟨f.n,(bytes f.rs).take ((bytes (f.rs.take f.k)).length+min q (bytes (f.rs.drop f.k)).length),(bytes (f.rs.take f.k)).length+min q (bytes (f.rs.drop f.k)).length⟩::oe t (q - min q (bytes (f.rs.drop f.k)).length)
def SZ{keep:Int}{m:Nat}:tO keep ⟨n,(m:Int)⟩=(min keep.toNat m:Nat):=by
 unfold tO;simp only[];split<;>split at* <;>omega
def UZ{a b:List xd}(ha:∀x∈a,x.n≠n)(hb:∀x∈b,x.n≠n){bs:List UInt8}:∀(ms:List Nat) (s:Nat) (keep lost:Int),
  ∃lost',(ms.map λ(m:Nat)=>(⟨n,(m:Int)⟩:Pc)).foldl Lm (a++⟨n,bs,s⟩::b,keep,lost)=(a++⟨n,bs,s+min keep.toNat ms.sum⟩::b,keep - (min keep.toNat ms.sum:Nat),lost'):=by
 intro ms
 induction ms with
 |nil=>intro s keep lost;exact⟨lost,by simp⟩
 |cons m t ih=>
  intro s keep lost
  have h1:∀l:List xd,(∀x∈l,x.n≠n)->(l.map λf=>if f.n=n then{f with s:=f.s+(tO keep ⟨n,(m:Int)⟩).toNat} else f)=l:=by
   intro l hl
   have:(l.map λf=>if f.n=n then{f with s:=f.s+(tO keep ⟨n,(m:Int)⟩).toNat} else f)=l.map id:=by
    apply map_congr_left;intro x hx;exact if_neg (hl x hx)
   rw[this,map_id]
  have h2:Lm (a++⟨n,bs,s⟩::b,keep,lost) ⟨n,(m:Int)⟩=(a++⟨n,bs,s+min keep.toNat m⟩::b,keep - (min keep.toNat m:Nat),lost+((m:Int) - (min keep.toNat m:Nat))):=by
   unfold Lm;simp only[Ae,map_cons,h1 a ha,h1 b hb,if_true];rw[SZ];simp
  rw[map_cons,foldl_cons,h2];obtain⟨lost',h3⟩:=ih (s+min keep.toNat m) (keep - (min keep.toNat m:Nat)) (lost+((m:Int) - (min keep.toNat m:Nat)));have h4:min keep.toNat m+min (keep - (min keep.toNat m:Nat)).toNat t.sum=min keep.toNat (m+t.sum):=by omega
  refine⟨lost',?_⟩;rw[h3,sum_cons,Nat.add_assoc,h4];congr 2;omega
def W5(f:Lf):f.ps=((f.rs.drop f.k).map λr=>r.fr.length).map λ(m:Nat)=>(⟨f.n,(m:Int)⟩:Pc):=by
 unfold Lf.ps;rw[map_map];rfl
def XW:∀(l:List Lf) (a:List xd) (keep lost:Int),(l.map (·.n)).Pairwise (· ≠ ·)->(∀x∈a,∀f∈l,x.n≠f.n)->
  ∃fs k' lost',((l.map Lf.ps).flatten).foldl Lm (a++l.map Lf.file,keep,lost)=(a++fs,k',lost')/\fs.map (λf=>{f with b:=f.b.take f.s})=oe l keep.toNat:=by
 intro l
 induction l with
 |nil=>intro a keep lost _ _;exact⟨[],keep,lost,by simp,rfl⟩
 |cons f t ih=>
  intro a keep lost hp ha;rw[map_cons,pairwise_cons] at hp
  have hb:∀x∈t.map Lf.file,x.n≠f.n:=by
   intro x hx;obtain⟨y,hy,rfl⟩:=mem_map.1 hx;exact λe=>hp.1 y.n (mem_map.2 ⟨y,hy,rfl⟩) e.symm
  obtain⟨l1,h1⟩:=UZ (n:=f.n) (a:=a) (b:=t.map Lf.file) (λx hx=>ha x hx f (zf ..)) hb (bs:=bytes f.rs) ((f.rs.drop f.k).map λr=>r.fr.length) (bytes (f.rs.take f.k)).length keep lost;rw[<-W5,<-fQ] at h1;have h2:a++(f::t).map Lf.file=a++⟨f.n,bytes f.rs,(bytes (f.rs.take f.k)).length⟩::t.map Lf.file:=rfl;rw[map_cons (f:=Lf.ps),flatten_cons,foldl_append,h2,h1]
  obtain⟨fs,k',lost',h3,h4⟩:=ih (a++[⟨f.n,bytes f.rs,(bytes (f.rs.take f.k)).length+min keep.toNat (bytes (f.rs.drop f.k)).length⟩]) (keep - (min keep.toNat (bytes (f.rs.drop f.k)).length:Nat)) l1 hp.2 (λx hx g hg=>by
   rcases mem_append.1 hx with hx|hx
   .exact ha x hx g (Rn _ hg)
   .rw[mem_singleton.1 hx];exact hp.1 g.n (mem_map.2 ⟨g,hg,rfl⟩))
  simp only[Oc,singleton_append] at h3;refine⟨_::fs,k',lost',h3,?_⟩;rw[map_cons,h4,show(keep - (min keep.toNat (bytes (f.rs.drop f.k)).length:Nat)).toNat=keep.toNat - min keep.toNat (bytes (f.rs.drop f.k)).length from by omega];rfl
def wU{l:List Lf}(ok:Ge l)(keep:Int):(dk l).Pb keep=⟨oe l keep.toNat,[]⟩:=by
 obtain⟨fs,k',lost',h1,h2⟩:=XW l [] keep 0 (pairwise_map.2 (ok.up.imp λh=>by omega)) (by simp);unfold ze.Pb ze.Oy;rw[show(dk l).loose=(l.map Lf.ps).flatten from rfl,show(dk l).fs=[]++l.map Lf.file from rfl,h1];simp only[na];rw[h2]
def frN:List Rec->Nat->Nat
 |[],_=>0
 |r::u,q=>if q<r.fr.length then 0 else frN u (q - r.fr.length)+1
def Xt:List Lf->Nat->Nat
 |[],_=>0
 |f::t,q=>if(bytes (f.rs.drop f.k)).length<=q then f.rs.length+Xt t (q - (bytes (f.rs.drop f.k)).length) else f.k+frN (f.rs.drop f.k) q
def Av(l:List Lf):Nat:=(l.map λf=>(bytes (f.rs.drop f.k)).length).sum
def qK:∀(rs:List Rec) (q:Nat),(∀r∈rs,r.code=0)->q<=(bytes rs).length->∃j t,j<=rs.length/\(bytes rs).take q=bytes (rs.take j)++t/\(t=[]\/(zA t/\t≠[]))/\j=frN rs q:=by
 intro rs
 induction rs with
 |nil=>intro q _ hq;exact⟨0,[],Nat.le_refl _,by simp[bytes],.inl rfl,rfl⟩
 |cons r u ih=>
  intro q hg hq;by_cases h:q<r.fr.length
  .refine⟨0,r.fr.take q,Gi _,?_,?_,(if_pos h).symm⟩
   .rw[qe,take_append_of_le_length (by omega)];simp[bytes]
   .by_cases h0:q=0
    .left;rw[h0];rfl
    .right;refine⟨⟨r,q,hg r (zf ..),h,rfl⟩,λe=>?_⟩
     have h5:min q r.fr.length=0:=by
      have:=congrArg List.length e;rwa [Fe,jd] at this
     omega
  .rw[qe,Cb] at hq;obtain⟨j,t,h1,h2,h3,h4⟩:=ih (q - r.fr.length) (λx hx=>hg x (Rn _ hx)) (by omega);refine⟨j+1,t,by simpa using h1,?_,h3,by rw[h4];exact(if_neg h).symm⟩;rw[take_succ_cons,qe,qe,take_append,take_of_length_le (by omega),h2,Oc]
inductive Pn:List Lf->List Lf->Prop
 |nil:Pn [] []
 |cons {a b:List Lf} {f:Lf} {m:Nat} (h:Pn a b):Pn (⟨f.n,f.rs.take m,(f.rs.take m).length⟩::a) (f::b)
def Pn.names(h:Pn a b):a.map (·.n)=b.map (·.n):=by
 induction h with
 |nil=>rfl
 |cons h ih=>simp only[map_cons,ih]
def Pn.full{a b:List Lf}(h:Pn a b):∀f∈a,f.full=f:=by
 induction h with
 |nil=>simp
 |cons h ih=>
  intro f hf;rcases mem_cons.1 hf with rfl|hf
  .rfl
  .exact ih f hf
def Pn.good(h:Pn a b)(hg:∀f∈b,∀r∈f.rs,r.code=0):∀f∈a,∀r∈f.rs,r.code=0:=by
 induction h with
 |nil=>simp
 |cons h ih=>
  intro f hf r hr;rcases mem_cons.1 hf with rfl|hf
  .exact hg _ (zf ..) r (mem_of_mem_take hr)
  .exact ih (λx hx=>hg x (Rn _ hx)) f hf r hr
def Pn.used(h:Pn a b):(a.map λf=>(bytes f.rs).length).sum<=(b.map λf=>(bytes f.rs).length).sum:=by
 induction h with
 |nil=>simp
 | @cons a b f m h ih=>
  have:=Jf f.rs m;simp only[map_cons,sum_cons];omega
def Pn.len(h:Pn a b):a.length=b.length:=by have:=congrArg List.length h.names;simpa using this
def Pn.ok{a b:List Lf}(h:Pn a b)(ok:Ge b):Ge a where
 up:=by
  have h1:=pairwise_map (f:=λx:Lf=>x.n) (R:=λx y:Int=>x<y) (l:=a);rw[h.names] at h1;exact h1.1 (pairwise_map.2 ok.up)
 good:=h.good ok.good
 k:=λf hf=>by rw[<-h.full f hf];exact Nat.le_refl _
 tail:=by
  refine pairwise_of_forall_mem_list λx hx y hy hlt=>?_;rw[<-h.full x hx] at hlt;exact absurd hlt (Nat.lt_irrefl _)
 lo:=λf hf=>by
  have:f.n∈b.map (·.n):=by rw[<-h.names];exact mem_map.2 ⟨f,hf,rfl⟩
  obtain⟨g,hg,e⟩:=mem_map.1 this;rw[<-e];exact ok.lo g hg
 hi:=λf hf=>by
  have:f.n∈b.map (·.n):=by rw[<-h.names];exact mem_map.2 ⟨f,hf,rfl⟩
  obtain⟨g,hg,e⟩:=mem_map.1 this;rw[<-e];exact ok.hi g hg
 used:=by have:=ok.used;rw[Qe] at this⊢;have:=h.used;omega
 len:=by rw[h.len];exact ok.len
def Pn.ua{a b:List Lf}(h:Pn a b):Go.Proofs.YthebagfahkebiaaGreat.ua a=Go.Proofs.YthebagfahkebiaaGreat.ua b:=by
 have h1:∀l:List Lf,Go.Proofs.YthebagfahkebiaaGreat.ua l=((l.map (·.n)).getLast?).getD 0:=by
  intro l;rcases eq_nil_or_concat l with rfl|⟨p,f,rfl⟩
  .rfl
  .rw[concat_eq_append,Kb,Ae,map_cons,map_nil,List.getLast?_concat];rfl
 rw[h1,h1,h.names]
def Pn.zero(b:List Lf):Pn (b.map λf=>⟨f.n,[],0⟩) b:=by
 induction b with
 |nil=>exact .nil
 |cons f t ih=>exact Pn.cons (f:=f) (m:=0) ih
def xM:∀(l:List Lf),(∀f∈l,f.k=0)->oe l 0=(l.map λf=>(⟨f.n,[],0⟩:Lf)).map Lf.file:=by
 intro l
 induction l with
 |nil=>intro _;rfl
 |cons f t ih=>
  intro h;have hk:=h f (zf ..);unfold oe;rw[hk];have h1:bytes (f.rs.take 0)=[]:=rfl;rw[h1];simp only[jd,Nat.zero_min,Nat.zero_add,Nat.zero_sub,take_zero,map_cons];rw[ih λx hx=>h x (Rn _ hx)];rfl
def DH:∀(l:List Lf) (q:Nat),(∀f∈l,∀r∈f.rs,r.code=0)->(∀f∈l,f.k<=f.rs.length)->(l.Pairwise λa b=>a.k<a.rs.length->b.k=0)->
  (∃l' m,oe l q=l'.map Lf.file/\Pn l' l/\Dg l<=m/\m<=(Ta l).length/\Ta l'=(Ta l).take m/\m=Xt l q)\/
  (∃a f b pre j t m,l=a++f::b/\Pn pre a/\oe l q=pre.map Lf.file++⟨f.n,bytes (f.rs.take j)++t,(bytes (f.rs.take j)++t).length⟩::b.map (λg=>⟨g.n,[],0⟩)/\zA t/\t≠[]/\(bytes (f.rs.take j)++t).length<=(bytes f.rs).length/\
   Dg l<=m/\m<=(Ta l).length/\Ta pre++f.rs.take j=(Ta l).take m/\m=Xt l q/\q<Av l):=by
 intro l
 induction l with
 |nil=>intro q _ _ _;exact .inl ⟨[],0,rfl,.nil,Nat.le_refl _,Nat.le_refl _,rfl,rfl⟩
 |cons f t ih=>
  intro q hg hk ht;have hgf:=hg f (zf ..);have zU:=hk f (zf ..);rw[pairwise_cons] at ht;have hR:Ta (f::t)=f.rs++Ta t:=by unfold Ta;simp
  have hS:Dg (f::t)=f.k+Dg t:=by unfold Dg;simp
  have iM:=congrArg List.length (Ld f.rs f.k);rw[Cb] at iM;have hlb:Av (f::t)=(bytes (f.rs.drop f.k)).length+Av t:=by unfold Av;simp
  by_cases hq:(bytes (f.rs.drop f.k)).length<=q
  .have hc:oe (f::t) q=Lf.file f.full::oe t (q - (bytes (f.rs.drop f.k)).length):=by
    conv=>lhs;unfold oe
    rw[Nat.min_eq_right hq,iM,take_length];simp[Lf.file,Lf.full]
   have qaa:∀{x:List Lf},Pn x t->Pn (f.full::x) (f::t):=λh=>by
    have:=Pn.cons (f:=f) (m:=f.rs.length) h;rw[take_length] at this;exact this
   rcases ih (q - (bytes (f.rs.drop f.k)).length) (λx hx=>hg x (Rn _ hx)) (λx hx=>hk x (Rn _ hx)) ht.2 with⟨l',m,h1,h2,h3,h4,h5,h6⟩|⟨a,g,b,pre,j,u,m,h1,h2,h3,h4,h5,h7,h8,h9,SV,h11,h12⟩
   .refine .inl ⟨f.full::l',f.rs.length+m,by rw[hc,h1];rfl,qaa h2,by rw[hS];omega,by rw[hR,Cb];omega,?_,by rw[h6];exact(if_pos hq).symm⟩;rw[hR,take_length_add_append,<-h5];unfold Ta;simp[Lf.full]
   .refine .inr ⟨f::a,g,b,f.full::pre,j,u,f.rs.length+m,by rw[h1];rfl,?_,by rw[hc,h3];rfl,h4,h5,h7,by rw[hS];omega,by rw[hR,Cb];omega,?_,by rw[h11];exact(if_pos hq).symm,by rw[hlb];omega⟩
    .have:=Pn.cons (f:=f) (m:=f.rs.length) h2;rw[take_length] at this;exact this
    .rw[hR,take_length_add_append,<-SV];unfold Ta;simp[Lf.full]
  .have DT:=hq;have hq:q<(bytes (f.rs.drop f.k)).length:=by omega
   have hlt:f.k<f.rs.length:=by
    rcases Nat.lt_or_ge f.k f.rs.length with h|h
    .exact h
    .rw[drop_eq_nil_of_le h] at hq;simp[bytes] at hq
   have hz:∀g∈t,g.k=0:=λg hg=>ht.1 g hg hlt
   have hS0:Dg t=0:=by
    unfold Dg;clear hR hS hlb ih ht hk hg
    induction t with
    |nil=>rfl
    |cons g t ih=>
     rw[map_cons,sum_cons,hz g (zf ..),ih λx hx=>hz x (Rn _ hx)]
   obtain⟨j,u,h1,h2,h3,hj⟩:=qK (f.rs.drop f.k) q (λr hr=>hgf r (mem_of_mem_drop hr)) (by omega);rw[length_drop] at h1
   have th:(bytes f.rs).take ((bytes (f.rs.take f.k)).length+q)=bytes (f.rs.take (f.k+j))++u:=by
    rw[<-Ld f.rs f.k,take_length_add_append,h2,<-Oc,<-aj,take_add]
   have hlen:(bytes (f.rs.take (f.k+j))++u).length=(bytes (f.rs.take f.k)).length+q:=by
    rw[<-th,Fe];omega
   have hc:oe (f::t) q=⟨f.n,bytes (f.rs.take (f.k+j))++u,(bytes (f.rs.take (f.k+j))++u).length⟩::(t.map λg=>(⟨g.n,[],0⟩:Lf)).map Lf.file:=by
    conv=>lhs;unfold oe
    rw[Nat.min_eq_left (by omega),th,Nat.sub_self,xM t hz,hlen]
   have hm:(Ta (f::t)).take (f.k+j)=f.rs.take (f.k+j):=by rw[hR,take_append_of_le_length (by omega)]
   have hm2:f.k+j<=(Ta (f::t)).length:=by rw[hR,Cb];omega
   rcases h3 with rfl|⟨h3,h4⟩
   .refine .inl ⟨⟨f.n,f.rs.take (f.k+j),(f.rs.take (f.k+j)).length⟩::t.map (λg=>⟨g.n,[],0⟩),f.k+j,?_,Pn.cons (Pn.zero t),by rw[hS,hS0];omega,hm2,?_,by rw[hj];exact(if_neg DT).symm⟩
    .rw[hc];simp only[append_nil,map_cons,Lf.file,take_length]
    .rw[hm];unfold Ta;simp only[map_cons,flatten_cons,map_map]
     have:(t.map (Lf.rs∘λg=>(⟨g.n,[],0⟩:Lf))).flatten=[]:=by
      rw[flatten_eq_nil_iff];intro x hx;obtain⟨g,hg,rfl⟩:=mem_map.1 hx;rfl
     rw[this,append_nil]
   .refine .inr ⟨[],f,t,[],f.k+j,u,f.k+j,rfl,.nil,?_,h3,h4,by rw[hlen];omega,by rw[hS,hS0];omega,hm2,by rw[hm];rfl,by rw[hj];exact(if_neg DT).symm,by rw[hlb];omega⟩;rw[hc,map_map];rfl
variable{l:List Lf}
def yM(k:Int)(a b:List Pc):pn k (a++b)=pn k a+pn k b:=by unfold pn;simp
def FX(f:Lf):pn f.n f.ps=((bytes (f.rs.drop f.k)).length:Int):=by
 have h1:f.ps.filter (λp=>decide (p.f=f.n))=f.ps:=by
  rw[filter_eq_self];intro p hp;exact Fi (Iq hp)
 have h2:∀l:List Rec,((l.map λr=>(⟨f.n,(r.fr.length:Int)⟩:Pc)).map (·.n)).sum=((bytes l).length:Int):=by
  intro l
  induction l with
  |nil=>rfl
  |cons r t ih=>rw[map_cons,map_cons,sum_cons,ih,qe,Cb];simp
 unfold pn;rw[h1];exact h2 _
def rK{n:Int}:∀{l:List Lf},(∀f∈l,f.n≠n)->pn n (l.map Lf.ps).flatten=0:=by
 intro l
 induction l with
 |nil=>intro _;rfl
 |cons f t ih=>
  intro h;rw[map_cons,flatten_cons,yM,ih λx hx=>h x (Rn _ hx)]
  have:f.ps.filter (λp=>decide (p.f=n))=[]:=by
   rw[filter_eq_nil_iff];intro p hp;rw[Iq hp];simpa using h f (zf ..)
  unfold pn;rw[this];rfl
def X5(ok:Ge l):ZZ (dk l).fs (dk l).loose:=by
 refine⟨λp hp=>?_,λx hx=>?_⟩
 .obtain⟨y,hy,hpy⟩:=mem_flatten.1 hp;obtain⟨f,hf,rfl⟩:=mem_map.1 hy;have hn:=Iq hpy;unfold Lf.ps at hpy;obtain⟨r,hr,rfl⟩:=mem_map.1 hpy;exact⟨by simp only[];omega,f.file,mem_map.2 ⟨f,hf,rfl⟩,rfl⟩
 .obtain⟨f,hf,rfl⟩:=mem_map.1 hx;obtain⟨a,b,rfl⟩:=append_of_mem hf;have hm:=ok.To;show(((bytes (f.rs.take f.k)).length:Nat):Int)+pn f.n ((a++f::b).map Lf.ps).flatten<=(bytes f.rs).length;rw[Ae,flatten_append,map_cons,flatten_cons,yM,yM,rK (l:=a) λx hx=>by have:=hm.1 x hx;omega,rK (l:=b) λx hx=>by have:=hm.2 x hx;omega,FX];have:=congrArg List.length (Ld f.rs f.k);rw[Cb] at this;omega
def lQ:((dk l).loose.map (·.n)).sum<=((dk l).used:Int):=by
 rw[Qe];unfold dk;simp only[]
 induction l with
 |nil=>simp
 |cons f t ih=>
  have h1:=FX f
  have h2:f.ps.filter (λp=>decide (p.f=f.n))=f.ps:=by
   rw[filter_eq_self];intro p hp;exact Fi (Iq hp)
  unfold pn at h1;rw[h2] at h1;have h3:=congrArg List.length (Ld f.rs f.k);rw[Cb] at h3;simp only[map_cons,flatten_cons,Ae,sum_append,sum_cons,h1];omega
def NO(ok:Ge l){d:Nat}{h:Hp}(hd:Od (dk l) d h){keep:Int}(Lt: -9223372036854775808<=keep)(hk2:keep<=9223372036854775807):
  Ct prog 165 [d,keep] [h] (λr H'=>∃h',r= .int .i64 ((dk l).lost keep)/\H'=[h']/\Od ⟨oe l keep.toNat,[]⟩ d h'):=by
 have hu:=ok.used;have hs:=lQ (l:=l);rw[<-wU ok];exact lR hd Lt hk2 (X5 ok) (by omega) ok.loose (by omega)
def Pn.append{a b c d:List Lf}(h:Pn a b)(k:Pn c d):Pn (a++c) (b++d):=by
 induction h with
 |nil=>exact k
 |cons h ih=>exact .cons ih
def FP{a b pre:List Lf}{f:Lf}{t:List UInt8}{j:Nat}(ok:Ge l)(hl:l=a++f::b)(hb:Pn pre a)(hlen:(bytes (f.rs.take j)++t).length<=(bytes f.rs).length):
  uw pre ⟨f.n,bytes (f.rs.take j)++t,(bytes (f.rs.take j)++t).length⟩ (b.map (λg=>⟨g.n,[],0⟩))/\Ge (pre++[⟨f.n,f.rs.take j,(f.rs.take j).length⟩]):=by
 subst hl
 have hnm:(pre.map Lf.file++⟨f.n,bytes (f.rs.take j)++t,(bytes (f.rs.take j)++t).length⟩::b.map (λg=>(⟨g.n,[],0⟩:xd))).map (·.n)=(a++f::b).map (·.n):=by
  have h1:=hb.names;simp only[Ae,map_cons,map_map] at h1⊢;have h2:pre.map ((λx:xd=>x.n)∘Lf.file)=pre.map (·.n):=rfl;have h3:b.map ((λx:xd=>x.n)∘λg:Lf=>(⟨g.n,[],0⟩:xd))=b.map (·.n):=rfl;rw[h2,h3,h1]
 have hmem:∀x∈pre.map Lf.file++⟨f.n,bytes (f.rs.take j)++t,(bytes (f.rs.take j)++t).length⟩::b.map (λg=>(⟨g.n,[],0⟩:xd)),∃g∈a++f::b,g.n=x.n:=by
  intro x hx;have:x.n∈(a++f::b).map (·.n):=by rw[<-hnm];exact mem_map.2 ⟨x,hx,rfl⟩
  obtain⟨g,hg,e⟩:=mem_map.1 this;exact⟨g,hg,e⟩
 have vK:Pn (pre++[⟨f.n,f.rs.take j,(f.rs.take j).length⟩]) (a++[f]):=hb.append (.cons .nil);refine⟨⟨by rw[hnm];exact pairwise_map.2 ok.up,λx hx=>?_,?_,hb.full,?_,?_⟩,vK.ok (Ge.ini (post:=b) (by simpa using ok))⟩
 .obtain⟨g,hg,e⟩:=hmem x hx;rw[<-e];exact⟨ok.lo g hg,ok.hi g hg⟩
 .exact hb.good λg hg=>ok.good g (mem_append_left _ hg)
 .have h1:=ok.used;have h2:=hb.used
  have h3:((b.map λg:Lf=>(⟨g.n,[],0⟩:xd)).map (·.b.length)).sum=0:=by
   clear hnm hmem vK h1 h2 ok
   induction b with
   |nil=>rfl
   |cons y z ih=>simpa using ih
  have h4:((pre.map Lf.file).map (·.b.length)).sum=(pre.map λf=>(bytes f.rs).length).sum:=by rw[map_map];rfl
  rw[Qe] at h1;unfold ze.used Ln;simp only[Ae,map_cons,sum_append,sum_cons] at h1⊢;rw[h3,h4];omega
 .have h1:=ok.len;have h2:=hb.len;simp only[Cb,Gb,We] at h1⊢;omega
def Ce(l:List Lf)(n:Int):Bool:=decide (0<=n/\n<=2048/\l.length<63/\((dk l).used:Int)<1048576 - n*512)
def UM{l:List Lf}(ok:Ge l){d:Nat}{h:Hp}(hd:Od (dk l) d h){w:Nat}{seg Aa:Int}(n:Int):
  Ct prog 126 [w,n] [qf w d seg Aa,h] (λres H'=>res= .bool (Ce l n)/\H'=[qf w d seg Aa,h]):=by
 have hu1:=ok.used;have jg:=ok.len;have CC:=Kt hd (by rw[ok.Kr];omega);rw[Wp ok] at CC;have hnl:(l.map (·.n)).length=l.length:=We _;have L0:=GM hd (by omega);refine ce func126 λg R=>?_;simp only[can];unfold Ce;by_cases h0:0<=n
 .by_cases h2:n<=2048
  .try refine run ?_
   refine ck CC ?_;rintro u _ ⟨hn,rfl,hs⟩;have hr:=hs.rs;simp only[can];by_cases h63:l.length<63
   .try refine run ?_
    refine cq L0 ?_;repeat' first|refine run ?_|refine WX.mul rfl rfl rfl (by omega) ?_
    exact Wa [qf w d seg Aa,h] rfl rfl ⟨by congr 1;rw[decide_eq_decide];omega,rfl⟩
   .try refine run ?_
    exact Wa [qf w d seg Aa,h] rfl rfl ⟨by rw[gj (by omega)],rfl⟩
  .try refine run ?_
   exact Wa [qf w d seg Aa,h] rfl rfl ⟨by rw[gj (by omega)],rfl⟩
 .try refine run ?_
  exact Wa [qf w d seg Aa,h] rfl rfl ⟨by rw[gj (by omega)],rfl⟩
end Go.Proofs.YthebagfahkebiaaGreat
namespace Go.Sl
open Go
section
variable{g:World}{P:Program}{ops:Array Oper}{Q:Exit->Act->World->Prop}{n:Nat}{rest:List Oper}{L:Fm}{H:HH}{q:Bool}
variable{d:Nat}{ty:TypeId}{pos:String}{af:Array Edge}{x y:Operand}{t t' a b:Nat}{i j:Int}
def WX.kY(hx:ev L x=some (i))(hy:ev L y=some (j))(e:i=(a:Int))(e':j=(b:Int))(hb:0<b)(ha:a<=4611686018427387904)(hd:Nat.blt d n=true)
  (k:WX q g P ops Q n rest ((d,.int .i64 ((a/b:Nat):Int))::L) H):WX q g P ops Q n (⟨some d,.binOp .quo t x y t',ty,pos,af,none⟩::rest) L H:=by
 subst e;subst e';refine WX.quo hx hy hd (by omega) ?_
 have h1:IntKind.i64.wrap ((a:Int).tdiv (b:Int))=((a/b:Nat):Int):=by
  have h2:((a:Int).tdiv (b:Int))=((a/b:Nat):Int):=rfl;have h3:a/b<=a:=Nat.div_le_self _ _;rw[h2];generalize a/b=c at h3⊢;exact IntWalk.i64_in _ (by omega)
 rw[h1];exact k
end
end Go.Sl
namespace Go.Proofs.YthebagfahkebiaaGreat
open Go Go.Sl Go.Proofs.Tryz List
variable{l:List Lf}{n:Int}{r:Rec}
structure Rb where
 x:Va
 (sn bs:Int)
 es:List ya
def Rb.z:Rb:=⟨Va.z,0,0,[]⟩
def Kh(nd:Int)(f:Rb)(r:Rec):Rb:=
 if r.k=1 then⟨f.x,f.sn,f.bs,f.es++[r.e]⟩
 else⟨r.c,if 0<Zb (some (bf r.c)) nd then Zb (some (bf r.c)) nd else f.sn,r.base,f.es⟩
def Oh(nd:Int)(rs:List Rec):Rb:=rs.foldl (Kh nd) Rb.z
def FG(nd:Int)(a b:List Rec):Oh nd (a++b)=b.foldl (Kh nd) (Oh nd a):=by unfold Oh;rw[foldl_append]
def iz(nd:Int)(a:List Rec)(r:Rec):Oh nd (a++[r])=Kh nd (Oh nd a) r:=by rw[FG];rfl
def GG(nd:Int):∀(rs:List Rec) (f:Rb),(∀r∈rs,r.k=1)->rs.foldl (Kh nd) f=⟨f.x,f.sn,f.bs,f.es++rs.map (·.e)⟩
 |[],f,_=>by simp
 |r::t,f,h=>by
  rw[foldl_cons,GG nd t _ λx hx=>h x (Rn _ hx)];unfold Kh;rw[if_pos (h r (zf ..))];simp
def Xq(a b:List Rec)(h:∀r∈b,r.k=1):we (a++b)=we a++b:=by
 induction b generalizing a with
 |nil=>simp
 |cons r t ih=>
  have h1:=h r (zf ..);rw[show a++r::t=(a++[r])++t by simp,ih _ λx hx=>h x (Rn _ hx),Xi,if_neg (by omega)];simp
def J2(r:Rec):Prop:=r.k=1/\Xc r.e\/r.k=2/\Nd r.c\/r.k=3
structure tV(l:List Lf):Prop where
 ok:Ge l
 re:∀r∈Ta l,J2 r
 loose:∀r∈(Ta l).drop (Dg l),r.k=1
 top:Dg l<=(Ta l).length
structure L2(l:List Lf)(c:CS):Prop where
 x:(Oh c.nd (we (Ta l))).x=Yb c.co
 sn:(Oh c.nd (we (Ta l))).sn=c.sn
 bs:(Oh c.nd (we (Ta l))).bs=c.bs
 es:(Oh c.nd (we (Ta l))).es=c.lg
 du:(Ta l).length - Dg l<=c.lg.length - c.du.toNat
def MI(h:Ce l n=true):l.length<63/\((dk l).used:Int)<1048576 - n*512:=by
 unfold Ce at h;have:=of_decide_eq_true h;exact⟨this.2.2.1,this.2.2.2⟩
def Ue(l:List Lf):Ta (Xe l)=Ta l:=by
 unfold Ta Xe;rw[map_map];rfl
def Yi(l:List Lf):Dg (Xe l)=(Ta l).length:=by
 induction l with
 |nil=>rfl
 |cons f t ih=>
  have h1:Dg (Xe (f::t))=f.rs.length+Dg (Xe t):=by unfold Dg Xe;simp[Lf.full]
  have h2:(Ta (f::t)).length=f.rs.length+(Ta t).length:=by unfold Ta;simp
  rw[h1,h2,ih]
def xF(ok:Ge l)(hn:1<=n)(hrm:Ce l n=true)(KO:ua l<1099511627776)(hc:r.code=0):
  (Bb l r).2=0/\Ta (Bb l r).1=Ta l++[r]/\Dg (Bb l r).1=Dg l/\ua (Bb l r).1<=ua l+1:=by
 obtain⟨h1,h2⟩:=MI hrm;have hle:=(Rec.good hc).yh;unfold Bb;rw[if_neg (by simpa using hc)];rcases eq_nil_or_concat l with rfl|⟨pre,f,rfl⟩
 .exact⟨rfl,rfl,rfl,show(0:Int)<=0+1 by decide⟩
 .rw[concat_eq_append] at KO h1 h2⊢;simp only[List.getLast?_concat,dropLast_concat];rw[Kb] at KO⊢;have hk:Dg (pre++[f])=Dg pre+f.k:=by unfold Dg;simp
  by_cases h4:4096<=(bytes f.rs).length
  .rw[if_pos h4,if_neg (by omega)];refine⟨rfl,by rw[si,Gk],?_,?_⟩
   .unfold Dg;simp
   .rw[Kb];exact Int.le_refl _
  .rw[if_neg h4,if_neg (by omega)];refine⟨rfl,by rw[si,si,Gk,Gk,Oc],?_,?_⟩
   .unfold Dg;simp
   .rw[Kb];show f.n<=f.n+1;omega
def HG:Ep l [r]=Bb l r:=by
 unfold Ep;split
 .rfl
 .rename_i h;unfold Ep;exact Prod.ext rfl (by simpa using Eq.symm (Classical.not_not.1 h))
def ov(ok:Ge l)(hrm:Ce l 2=true)(KO:ua l+1<1099511627776)(hlo:0<=ua l):Qj l=([⟨ua l+1,[Nc],1⟩],0):=by
 obtain⟨h1,h2⟩:=MI hrm;have hle:=(Rec.good Ph).yh
 have he:(dk l).Jg (ua l+1) Nc.fr.length=0:=by
  unfold ze.Jg;have h3:=ok.Kr;rw[if_neg (by omega),if_neg (by rw[h3];omega)]
 unfold Qj;rw[if_neg (by simpa using he)]
variable{hv:Hp}
def yG(s:CS)(b:Nat){v:Value}(hs:Rs s.lg v hv):Ct prog 145 [b] [oa b s v] (λr H'=>r= .int .i64 s.len/\H'=[oa b s v]):=by
 obtain⟨p,c,rfl⟩:=hs.len;refine wj func145 λg R=>?_;exact vj [oa b s _]
def Vn(s:CS)(b:Nat)(v:Value):Ct prog 26 [b] [oa b s v] (λr H'=>r= .int .i64 s.du/\H'=[oa b s v]):=by
 refine wj func26 λg R=>?_;exact vj [oa b s v]
def Ag(s:CS)(b:Nat)(v:Value):Ct prog 27 [b] [oa b s v] (λr H'=>r= .int .i64 s.st/\H'=[oa b s v]):=by
 refine wj func27 λg R=>?_;exact vj [oa b s v]
def ZH(s:CS)(b:Nat)(v:Value):Ct prog 130 [b] [oa b s v] (λr H'=>r= .int .i64 s.bs/\H'=[oa b s v]):=by
 refine wj func130 λg R=>?_;exact vj [oa b s v]
def Si(s:CS)(b:Nat)(v:Value):Ct prog 25 [b] [oa b s v] (λr H'=>r= .int .i64 (Yb s.co).ep/\H'=[oa b s v]):=by
 refine wj func25 λg R=>?_;exact vj [oa b s v]
def jk(s:CS)(b:Nat)(v:Value):Ct prog 29 [b] [oa b s v] (λr H'=>r= .agg (List.toArray (Yb s.co).enc)/\H'=[oa b s v]):=by
 refine ce func29 λg R=>?_;repeat' first|refine vb ?_|refine al λ_=>?_|refine Of (s.cells v) (Yb s.co).enc ?_|refine nh Va.z.enc (Yb s.co).enc ?_
 exact D.Dc [oa b s v] _ rfl (.Ua rfl rfl .nil) ⟨rfl,rfl⟩
def Tu{xs:List ya}{v:Value}{h:Hp}(hs:Rs xs v h)(hl:xs.length<=1000000):
  Ct prog 113 [v] [h] (λr H'=>∃h',ia 49 xs r h'/\H'=[h',h]):=by
 obtain⟨p,c,rfl⟩:=hs.len;refine ce func113 λg R=>?_;simp only[can]
 cases p with
 |none=>
  have hx:xs=[]:=by
   obtain⟨a,c',e,_,f⟩:=hs;cases e
   cases xs with
   |nil=>rfl
   |cons y r=>obtain⟨b,off,e,_⟩:=f 0 y rfl;cases e
  subst hx;repeat' first|refine run ?_|refine WX.cO rfl rfl rfl ?_
  exact Wa [[],h] rfl rfl ⟨_,ia.nil _,rfl⟩
 |some a=>
  repeat' first|refine run ?_|refine WX.cO rfl rfl rfl ?_
  refine WX.lit (ys:=([]:List ya)) (vs:=[]) rfl rfl rfl rfl rfl rfl (by decide) rfl (λv1 h1 hs1=>?_);try refine run ?_
  refine Ys (zb:=by simp only[jd];omega) hs1 hs (λv2 h2 Oa=>?_);rw[nil_append] at Oa;try refine run ?_
  exact Wa [h2,h] rfl rfl ⟨_,Oa,rfl⟩
def ym(s:CS)(b:Nat){v:Value}(hs:Rs s.lg v hv)(hl:s.lg.length<=1000000):Ct prog 36 [b] [oa b s v,hv] (λr H'=>∃h',ia 49 s.lg r h'/\H'=[h',oa b s v,hv]):=by
 refine wj func36 λg R=>?_;refine ck (Tu hs hl) ?_;rintro _ _ ⟨h1,hs1,rfl⟩;refine vb ?_;exact Wa [h1,oa b s v,hv] rfl rfl ⟨h1,hs1,rfl⟩
def JK(s:CS)(b:Nat){v:Value}(hs:Rs s.lg v hv)(hl:s.lg.length<=1000000)(i:Int)(hi: -4611686018427387904<=i/\i<=4611686018427387904):Ct prog 163 [b,i] [oa b s v,hv]
   (λr H'=>r= .tuple #[.agg (List.toArray (if 1<=i/\i<=s.len then s.lg.getD (i.toNat - 1) ya.z else ya.z).enc),.bool (decide (1<=i/\i<=s.len))]/\H'=[oa b s v,hv]):=by
 have hlen:s.len=(s.lg.length:Int):=rfl;refine ce func163 λg R=>?_;simp only[can];by_cases h1:1<=i
 .by_cases h2:i<=s.len
  .obtain⟨x,hx⟩:∃x,s.lg[(i - 1).toNat]? =some x:=⟨_,oh (by omega)⟩
   have e1:(if 1<=i/\i<=s.len then s.lg.getD (i.toNat - 1) ya.z else ya.z)=x:=by
    rw[if_pos ⟨h1,h2⟩,getD_eq_getElem?_getD,show i.toNat - 1=(i - 1).toNat by omega,hx];rfl
   rw[e1,Fi (⟨h1,h2⟩:1<=i/\i<=s.len)];repeat' first|refine ga ?_|refine al λ_=>?_|refine rG hs hx ?_|refine nh ya.z.enc x.enc ?_
   exact D.yg [oa b s v,hv] _ rfl (.Ua rfl rfl (.tmp rfl .nil)) rfl ⟨rfl,rfl⟩
  .rw[if_neg (λh=>h2 h.2),gj (λh=>h2 h.2)];repeat' first|refine ga ?_|refine al λ_=>?_|refine Vf (t:=49) ya.z.enc ?_|refine nh ya.z.enc ya.z.enc ?_
   exact D.yg [oa b s v,hv] _ rfl (.Ua rfl rfl (.tmp rfl .nil)) rfl ⟨rfl,rfl⟩
 .rw[if_neg (λh=>h1 h.1),gj (λh=>h1 h.1)];repeat' first|refine ga ?_|refine al λ_=>?_|refine Vf (t:=49) ya.z.enc ?_|refine nh ya.z.enc ya.z.enc ?_
  exact D.yg [oa b s v,hv] _ rfl (.Ua rfl rfl (.tmp rfl .nil)) rfl ⟨rfl,rfl⟩
def dO{s:CS}(ok:Lb s)(b:Nat)(v:Value)(fr ep du st:Int):
  Ct prog 65 [b,fr,ep,du,st] [oa b s v] (λr H'=>r= .bool (s.heard fr ep du st).1/\H'=[oa b (s.heard fr ep du st).2 v]):=by
 have Qs:=Nu ok.co s.nd;have KK:=UH ok.co fr;by_cases hT:ep=(Yb s.co).ep/\0<=fr/\fr=Wc s.co s.nd
 .have e0:s.heard fr ep du st=(true,(s.Mb fr (mn du s.du) (mn st s.du)).settle):=if_pos hT;rw[e0];obtain⟨t1,t2,t3⟩:=hT;generalize Wc s.co s.nd=bh at Qs t3;refine wj func65 λg R=>?_
  cases hf:xm s.co fr with
  |true=>
   rw[hf] at KK;have e1:s.Mb fr (mn du s.du) (mn st s.du)={s with ak:=mx s.ak (mn du s.du),st:=mx s.st (mn st s.du)}:=if_pos hf;rw[e1];refine wq ?_;repeat' first|refine ga ?_|refine Of (t:=40) (s.cells v) (Yb s.co).enc ?_|refine cq Qs ?_
   refine ij ?_;refine Wh (s.cells v) (CS.cells {s with ak:=mx s.ak (mn du s.du)} v) ?_;repeat' first|refine ga ?_|refine Of (t:=40) (CS.cells {s with ak:=mx s.ak (mn du s.du)} v) (Yb s.co).enc ?_|refine cq KK ?_
   refine Wh (CS.cells {s with ak:=mx s.ak (mn du s.du)} v) (CS.cells {s with ak:=mx s.ak (mn du s.du),st:=mx s.st (mn st s.du)} v) ?_;try refine ga ?_
   refine ck (Te (s:={s with ak:=mx s.ak (mn du s.du),st:=mx s.st (mn st s.du)}) ok.co b v) ?_;rintro _ _ ⟨rfl,rfl⟩;refine vb ?_
   exact vj [oa b (CS.settle ({s with ak:=mx s.ak (mn du s.du),st:=mx s.st (mn st s.du)})) v]
  |false=>
   rw[hf] at KK
   cases hsu:s.su with
   |true=>
    have e1:s.Mb fr (mn du s.du) (mn st s.du)={s with ak:=mx s.ak (mn du s.du),su:=true,st:=mx (mx s.st s.bs) (mn du s.du)}:=by unfold CS.Mb;rw[if_neg (by rw[hf];decide),if_pos (.inl hsu)]
    rw[e1];clear e0 e1;refine wq ?_;repeat' first|refine ga ?_|refine Of (t:=40) (s.cells v) (Yb s.co).enc ?_|refine cq Qs ?_
    refine ij ?_;refine Wh (s.cells v) (CS.cells {s with ak:=mx s.ak (mn du s.du)} v) ?_;repeat' first|refine ga ?_|refine Of (t:=40) (CS.cells {s with ak:=mx s.ak (mn du s.du)} v) (Yb s.co).enc ?_|refine cq KK ?_
    refine WX.as 77 (.bool true) rfl (by rw[hsu]) ?_;try refine ga ?_
    refine Wh (CS.cells {s with ak:=mx s.ak (mn du s.du)} v) (CS.cells {s with ak:=mx s.ak (mn du s.du),su:=true} v) ?_;try refine ga ?_
    refine sK (ml [11]) [oa b {s with ak:=mx s.ak (mn du s.du),su:=true} v] ?_;repeat' first|refine ga ?_|refine WX.KQ rfl rfl rfl rfl ?_
    refine Wh (CS.cells {s with ak:=mx s.ak (mn du s.du),su:=true} v) (CS.cells {s with ak:=mx s.ak (mn du s.du),su:=true,st:=mx (mx s.st s.bs) (mn du s.du)} v) ?_;try refine ga ?_
    refine ck (Te (s:={s with ak:=mx s.ak (mn du s.du),su:=true,st:=mx (mx s.st s.bs) (mn du s.du)}) ok.co b v) ?_;rintro _ _ ⟨rfl,rfl⟩;refine vb ?_
    exact vj [oa b (CS.settle ({s with ak:=mx s.ak (mn du s.du),su:=true,st:=mx (mx s.st s.bs) (mn du s.du)})) v]
   |false=>
    by_cases hw:(if s.du<du then s.du else du)>=s.ow
    .have e1:s.Mb fr (mn du s.du) (mn st s.du)={s with ak:=mx s.ak (mn du s.du),su:=true,st:=mx (mx s.st s.bs) (mn du s.du)}:=by unfold CS.Mb;rw[if_neg (by rw[hf];decide),if_pos (.inr hw)]
     rw[e1];clear e0 e1;refine wq ?_;repeat' first|refine ga ?_|refine Of (t:=40) (s.cells v) (Yb s.co).enc ?_|refine cq Qs ?_
     refine ij ?_;refine Wh (s.cells v) (CS.cells {s with ak:=mx s.ak (mn du s.du)} v) ?_;repeat' first|refine ga ?_|refine Of (t:=40) (CS.cells {s with ak:=mx s.ak (mn du s.du)} v) (Yb s.co).enc ?_|refine cq KK ?_
     refine WX.as 77 (.bool false) rfl (by rw[hsu]) ?_;try refine ga ?_
     refine Wh (CS.cells {s with ak:=mx s.ak (mn du s.du)} v) (CS.cells {s with ak:=mx s.ak (mn du s.du),su:=true} v) ?_;try refine ga ?_
     refine sK (ml [11]) [oa b {s with ak:=mx s.ak (mn du s.du),su:=true} v] ?_;repeat' first|refine ga ?_|refine WX.KQ rfl rfl rfl rfl ?_
     refine Wh (CS.cells {s with ak:=mx s.ak (mn du s.du),su:=true} v) (CS.cells {s with ak:=mx s.ak (mn du s.du),su:=true,st:=mx (mx s.st s.bs) (mn du s.du)} v) ?_;try refine ga ?_
     refine ck (Te (s:={s with ak:=mx s.ak (mn du s.du),su:=true,st:=mx (mx s.st s.bs) (mn du s.du)}) ok.co b v) ?_;rintro _ _ ⟨rfl,rfl⟩;refine vb ?_;exact vj [oa b (CS.settle ({s with ak:=mx s.ak (mn du s.du),su:=true,st:=mx (mx s.st s.bs) (mn du s.du)})) v]
    .have e1:s.Mb fr (mn du s.du) (mn st s.du)={s with ak:=mx s.ak (mn du s.du)}:=by
      unfold CS.Mb;rw[if_neg (by rw[hf];decide),if_neg (λh=>h.elim (λh=>by rw[hsu] at h;cases h) hw)]
     rw[e1];clear e0 e1;refine wq ?_;repeat' first|refine ga ?_|refine Of (t:=40) (s.cells v) (Yb s.co).enc ?_|refine cq Qs ?_
     refine ij ?_;refine Wh (s.cells v) (CS.cells {s with ak:=mx s.ak (mn du s.du)} v) ?_;repeat' first|refine ga ?_|refine Of (t:=40) (CS.cells {s with ak:=mx s.ak (mn du s.du)} v) (Yb s.co).enc ?_|refine cq KK ?_
     refine WX.as 77 (.bool false) rfl (by rw[hsu]) ?_;try refine ga ?_
     refine ck (Te (s:={s with ak:=mx s.ak (mn du s.du)}) ok.co b v) ?_;rintro _ _ ⟨rfl,rfl⟩;refine vb ?_;exact vj [oa b (CS.settle ({s with ak:=mx s.ak (mn du s.du)})) v]
 .have e0:s.heard fr ep du st=(false,s):=if_neg hT;rw[e0];clear e0;refine wj func65 λg R=>?_;refine wq ?_;by_cases t1:ep=(Yb s.co).ep;rotate_left
  .try refine ga ?_
   exact vj [oa b s v]
  by_cases t2:0<=fr;rotate_left
  .try refine ga ?_
   exact vj [oa b s v]
  by_cases t3:fr=Wc s.co s.nd
  .exact absurd ⟨t1,t2,t3⟩ hT
  .repeat' first|refine ga ?_|refine Of (t:=40) (s.cells v) (Yb s.co).enc ?_|refine cq Qs ?_
   exact vj [oa b s v]
def Ti{x:Va}(h:Nd x):∃c,x=c.cfg/\xg c/\bf x=c:=⟨bf x,h.2.1.symm,h.2.2,rfl⟩
def zw(dc rg nd:Int)(x:Va)(sn bs:Int){es:List ya}{u:Value}{h:Hp}(hs:Rs es u h)(hl:es.length<=1000000):
  Ct prog 83 [dc,rg,nd,.agg (List.toArray x.enc),sn,bs,u] [h]
   (λr H'=>∃b v hv,r= .pointer (some ⟨b,0,none⟩)/\H'=[oa b (CS.restore dc rg nd x sn bs es) v,hv,h]/\ia 49 (CS.restore dc rg nd x sn bs es).lg v hv):=by
 have Su:(CS.restore dc rg nd x sn bs es).lg=es:=(Ja (CS.eg dc rg nd x sn bs es)).2.2.2.2.2.2.1;have jx:=pq x;by_cases hR:Nd x
 .rw[Fi hR] at jx;obtain⟨c,Gy,ob,hch⟩:=Ti hR
  have fF:CS.restore dc rg nd x sn bs es=CS.settle ⟨dc,rg,nd,some c,sn,mx 0 (mn bs (es.length:Int)),es,(es.length:Int),0,0,(es.length:Int),false⟩:=by
   unfold CS.restore CS.eg;rw[if_pos hR,hch]
  have hO:Ii (some c):=Ii.some ob;rw[fF] at Su⊢;subst Gy;clear hch fF hR;refine ce func83 λg R=>?_;repeat' first|refine vb ?_|refine Ud λ_=>?_|refine yj c.cfg.enc ?_|refine cq jx ?_
  rename_i KX;refine WX.h0 [Mc KX (Yb (some c)),h,R] ?_;refine ck (Kx dc rg nd) ?_;rintro _ _ ⟨b,rfl,rfl⟩;refine vb ?_;refine sK (ml [6,1,2,1,2,1]) [Mc KX (Yb (some c))] ?_;repeat' first|refine ga ?_|refine Of (Yb (some c)).enc (Yb (some c)).enc ?_
  refine ck (Tu hs (by omega)) ?_;rintro _ _ ⟨h1,hs1,rfl⟩;obtain⟨p1,c1,e1⟩:=hs1.rs.len;subst e1;refine vb ?_;refine NQ ((CS.new dc rg nd).cells (.slice none 0 0)) (Yb (some c)).enc (CS.cells ⟨dc,rg,nd,(some c),0,0,[],0,0,0,0,false⟩ (.slice none 0 0)) rfl rfl ?_;try refine ga ?_
  refine Wh (CS.cells ⟨dc,rg,nd,(some c),0,0,[],0,0,0,0,false⟩ (.slice none 0 0)) (CS.cells ⟨dc,rg,nd,(some c),sn,0,[],0,0,0,0,false⟩ (.slice none 0 0)) ?_;try refine ga ?_
  refine Wh (CS.cells ⟨dc,rg,nd,(some c),sn,0,[],0,0,0,0,false⟩ (.slice none 0 0)) (CS.cells ⟨dc,rg,nd,(some c),sn,0,es,0,0,0,0,false⟩ (.slice p1 es.length c1)) ?_;try refine ga ?_
  refine Wh (CS.cells ⟨dc,rg,nd,(some c),sn,0,es,0,0,0,0,false⟩ (.slice p1 es.length c1)) (CS.cells ⟨dc,rg,nd,(some c),sn,0,es,(es.length:Int),0,0,0,false⟩ (.slice p1 es.length c1)) ?_;try refine ga ?_
  refine Wh (CS.cells ⟨dc,rg,nd,(some c),sn,0,es,(es.length:Int),0,0,0,false⟩ (.slice p1 es.length c1)) (CS.cells ⟨dc,rg,nd,(some c),sn,0,es,(es.length:Int),0,0,(es.length:Int),false⟩ (.slice p1 es.length c1)) ?_;try refine ga ?_
  refine Wh (CS.cells ⟨dc,rg,nd,(some c),sn,0,es,(es.length:Int),0,0,(es.length:Int),false⟩ (.slice p1 es.length c1)) (CS.cells ⟨dc,rg,nd,(some c),sn,mx 0 (mn bs (es.length:Int)),es,(es.length:Int),0,0,(es.length:Int),false⟩ (.slice p1 es.length c1)) ?_;try refine ga ?_
  refine ck (Te (s:=⟨dc,rg,nd,(some c),sn,mx 0 (mn bs (es.length:Int)),es,(es.length:Int),0,0,(es.length:Int),false⟩) hO b (.slice p1 es.length c1)) ?_;rintro _ _ ⟨rfl,rfl⟩;refine vb ?_;refine Wa [oa b (CS.settle ⟨dc,rg,nd,(some c),sn,mx 0 (mn bs (es.length:Int)),es,(es.length:Int),0,0,(es.length:Int),false⟩) (.slice p1 es.length c1),h1,h] rfl rfl ⟨b,.slice p1 es.length c1,h1,rfl,?_,?_⟩
  .rfl
  .rw[Su];exact hs1
 .rw[gj hR] at jx
  have fF:CS.restore dc rg nd x sn bs es=CS.settle ⟨dc,rg,nd,none,sn,mx 0 (mn bs (es.length:Int)),es,(es.length:Int),0,0,(es.length:Int),false⟩:=by
   unfold CS.restore CS.eg;rw[if_neg hR]
  have hO:Ii none:=Ii.none;rw[fF] at Su⊢;clear fF;refine ce func83 λg R=>?_;repeat' first|refine vb ?_|refine Ud λ_=>?_|refine yj x.enc ?_|refine cq jx ?_|refine Vf (t:=40) Va.z.enc ?_|refine nh x.enc (Yb none).enc ?_
  rename_i KX;refine WX.h0 [Mc KX (Yb none),h,R] ?_;refine ck (Kx dc rg nd) ?_;rintro _ _ ⟨b,rfl,rfl⟩;refine vb ?_;refine sK (ml [6,1,2,1,2,1]) [Mc KX (Yb none)] ?_;repeat' first|refine ga ?_|refine Of (Yb none).enc (Yb none).enc ?_
  refine ck (Tu hs (by omega)) ?_;rintro _ _ ⟨h1,hs1,rfl⟩;obtain⟨p1,c1,e1⟩:=hs1.rs.len;subst e1;refine vb ?_;refine NQ ((CS.new dc rg nd).cells (.slice none 0 0)) (Yb none).enc (CS.cells ⟨dc,rg,nd,none,0,0,[],0,0,0,0,false⟩ (.slice none 0 0)) rfl rfl ?_;try refine ga ?_
  refine Wh (CS.cells ⟨dc,rg,nd,none,0,0,[],0,0,0,0,false⟩ (.slice none 0 0)) (CS.cells ⟨dc,rg,nd,none,sn,0,[],0,0,0,0,false⟩ (.slice none 0 0)) ?_;try refine ga ?_
  refine Wh (CS.cells ⟨dc,rg,nd,none,sn,0,[],0,0,0,0,false⟩ (.slice none 0 0)) (CS.cells ⟨dc,rg,nd,none,sn,0,es,0,0,0,0,false⟩ (.slice p1 es.length c1)) ?_;try refine ga ?_
  refine Wh (CS.cells ⟨dc,rg,nd,none,sn,0,es,0,0,0,0,false⟩ (.slice p1 es.length c1)) (CS.cells ⟨dc,rg,nd,none,sn,0,es,(es.length:Int),0,0,0,false⟩ (.slice p1 es.length c1)) ?_;try refine ga ?_
  refine Wh (CS.cells ⟨dc,rg,nd,none,sn,0,es,(es.length:Int),0,0,0,false⟩ (.slice p1 es.length c1)) (CS.cells ⟨dc,rg,nd,none,sn,0,es,(es.length:Int),0,0,(es.length:Int),false⟩ (.slice p1 es.length c1)) ?_;try refine ga ?_
  refine Wh (CS.cells ⟨dc,rg,nd,none,sn,0,es,(es.length:Int),0,0,(es.length:Int),false⟩ (.slice p1 es.length c1)) (CS.cells ⟨dc,rg,nd,none,sn,mx 0 (mn bs (es.length:Int)),es,(es.length:Int),0,0,(es.length:Int),false⟩ (.slice p1 es.length c1)) ?_;try refine ga ?_
  refine ck (Te (s:=⟨dc,rg,nd,none,sn,mx 0 (mn bs (es.length:Int)),es,(es.length:Int),0,0,(es.length:Int),false⟩) hO b (.slice p1 es.length c1)) ?_;rintro _ _ ⟨rfl,rfl⟩;refine vb ?_;refine Wa [oa b (CS.settle ⟨dc,rg,nd,none,sn,mx 0 (mn bs (es.length:Int)),es,(es.length:Int),0,0,(es.length:Int),false⟩) (.slice p1 es.length c1),h1,h] rfl rfl ⟨b,.slice p1 es.length c1,h1,rfl,?_,?_⟩
  .rfl
  .rw[Su];exact hs1
def eO{s:CS}(ok:Lb s)(b:Nat){v:Value}{hv:Hp}(hs:ia 49 s.lg v hv)(x:Va):
  Ct prog 127 [b,.agg (List.toArray x.enc)] [oa b s v,hv] (λr H'=>r= .tuple #[.bool (s.enter x).1.1,.int .i64 (s.enter x).1.2]/\Fy (s.enter x).2 b H'):=by
 have hr:=hs.rs;have jx:=pq x;by_cases hR:Nd x;rotate_left
 .rw[gj hR] at jx;have e0:s.enter x=((false,1),s):=if_pos hR;rw[e0];refine ce func127 λg R=>?_;repeat' first|refine vb ?_|refine Ud λ_=>?_|refine yj x.enc ?_|refine cq jx ?_
  exact D.Vb [oa b s v,hv] _ rfl rfl rfl ⟨rfl,v,hv,rfl,hs⟩
 rw[Fi hR] at jx;by_cases xU:x.ep<=(Yb s.co).ep
 .have e0:s.enter x=((false,80),s):=by unfold CS.enter;rw[if_neg (λh=>h hR),if_pos xU]
  rw[e0];refine ce func127 λg R=>?_;repeat' first|refine vb ?_|refine Ud λ_=>?_|refine yj x.enc ?_|refine cq jx ?_
  refine ij ?_;exact D.Vb [oa b s v,hv] _ rfl rfl rfl ⟨rfl,v,hv,rfl,hs⟩
 have e0:s.enter x=((s.Zh x,0),(s.Qc x).settle):=by unfold CS.enter;rw[if_neg (λh=>h hR),if_neg xU]
 rw[e0];obtain⟨c,Gy,ob,hch⟩:=Ti hR;have hsi:=Ou (Ii.some ob) s.nd;subst Gy;by_cases h1:Zb (some c) s.nd≠0/\Zb (some c) s.nd≠s.sn
 .have e1:s.Qc c.cfg=⟨s.dc,s.rg,s.nd,some c,Zb (some c) s.nd,0,[],0,0,0,0,true⟩:=by unfold CS.Qc;rw[hch,if_pos h1]
  have e2:s.Zh c.cfg=true:=by unfold CS.Zh;rw[hch];exact Fi h1
  rw[e1,e2];obtain⟨k1,k2⟩:=h1;clear e0 e1 e2 hch;generalize Zb (some c) s.nd=z at hsi k1 k2⊢;refine ce func127 λg R=>?_;repeat' first|refine vb ?_|refine Ud λ_=>?_|refine yj c.cfg.enc ?_|refine cq jx ?_
  rename_i b3;refine ij ?_;refine wq ?_;repeat' first|refine ga ?_|refine yj c.cfg.enc ?_|refine cq hsi ?_
  refine Wh (CS.cells s v) (CS.cells ⟨s.dc,s.rg,s.nd,s.co,s.sn,s.bs,[],s.du,s.st,s.ak,s.ow,s.su⟩ (.slice none 0 0)) ?_;try refine ga ?_
  refine Wh (CS.cells ⟨s.dc,s.rg,s.nd,s.co,s.sn,s.bs,[],s.du,s.st,s.ak,s.ow,s.su⟩ (.slice none 0 0)) (CS.cells ⟨s.dc,s.rg,s.nd,s.co,s.sn,s.bs,[],s.du,0,s.ak,s.ow,s.su⟩ (.slice none 0 0)) ?_;try refine ga ?_
  refine Wh (CS.cells ⟨s.dc,s.rg,s.nd,s.co,s.sn,s.bs,[],s.du,0,s.ak,s.ow,s.su⟩ (.slice none 0 0)) (CS.cells ⟨s.dc,s.rg,s.nd,s.co,z,s.bs,[],s.du,0,s.ak,s.ow,s.su⟩ (.slice none 0 0)) ?_;repeat' first|refine ga ?_|refine yj c.cfg.enc ?_
  refine NQ (CS.cells ⟨s.dc,s.rg,s.nd,s.co,z,s.bs,([]:List ya),s.du,0,s.ak,s.ow,s.su⟩ (.slice none 0 0)) c.cfg.enc (CS.cells ⟨s.dc,s.rg,s.nd,some c,z,s.bs,([]:List ya),s.du,0,s.ak,s.ow,s.su⟩ (.slice none 0 0)) rfl rfl ?_;try refine ga ?_
  have hc1:∀(g:World) w,Cf g (λi:Int=>[oa b ⟨s.dc,s.rg,s.nd,some c,z,s.bs,([]:List ya),i,0,s.ak,s.ow,s.su⟩ (.slice none 0 0)]) w->w.cell? ⟨b,0+18,none⟩=some (.slice none 0 0):=λg w hw=>by
   obtain⟨i,h⟩:=hw;have h1:=h.2.2 b _ (zf ..);rw[vg h1];rfl
  refine W.h0 [Mc b3 c.cfg,oa b ⟨s.dc,s.rg,s.nd,some c,z,s.bs,([]:List ya),s.du,0,s.ak,s.ow,s.su⟩ (.slice none 0 0),hv,R] ?_;refine W.RU (List.replicate 14 true++[false]) (Cf g (λi:Int=>[oa b ⟨s.dc,s.rg,s.nd,some c,z,s.bs,([]:List ya),i,0,s.ak,s.ow,s.su⟩ (.slice none 0 0)])) (λw h=>Cf.of s.du h) Tryz.mix (by kernel_rfl) ?_;repeat' first|refine ga ?_|refine WN.load rfl (hc1 g) rfl ?_|refine WN.Y5 (λ_ h=>Cf.Z5 h) ?_|refine WN.CM ?_|refine WN.an ?_
  refine Wh (CS.cells ⟨s.dc,s.rg,s.nd,some c,z,s.bs,([]:List ya),s.du,0,s.ak,s.ow,s.su⟩ (.slice none 0 0)) (CS.cells ⟨s.dc,s.rg,s.nd,some c,z,s.bs,([]:List ya),(0:Int),0,s.ak,s.ow,s.su⟩ (.slice none 0 0)) ?_;try refine ga ?_
  refine WN.back (λw h=>Cf.of (0:Int) h) ?_;repeat' first|refine ga ?_|refine WN.nil ?_
  refine Wh (CS.cells ⟨s.dc,s.rg,s.nd,some c,z,s.bs,([]:List ya),(0:Int),0,s.ak,s.ow,s.su⟩ (.slice none 0 0)) (CS.cells ⟨s.dc,s.rg,s.nd,some c,z,(0:Int),([]:List ya),(0:Int),0,s.ak,s.ow,s.su⟩ (.slice none 0 0)) ?_;try refine ga ?_
  refine Wh (CS.cells ⟨s.dc,s.rg,s.nd,some c,z,(0:Int),([]:List ya),(0:Int),0,s.ak,s.ow,s.su⟩ (.slice none 0 0)) (CS.cells ⟨s.dc,s.rg,s.nd,some c,z,(0:Int),([]:List ya),(0:Int),0,0,s.ow,s.su⟩ (.slice none 0 0)) ?_;try refine ga ?_
  refine Wh (CS.cells ⟨s.dc,s.rg,s.nd,some c,z,(0:Int),([]:List ya),(0:Int),0,0,s.ow,s.su⟩ (.slice none 0 0)) (CS.cells ⟨s.dc,s.rg,s.nd,some c,z,(0:Int),([]:List ya),(0:Int),0,0,0,s.su⟩ (.slice none 0 0)) ?_;try refine ga ?_
  refine Wh (CS.cells ⟨s.dc,s.rg,s.nd,some c,z,(0:Int),([]:List ya),(0:Int),0,0,0,s.su⟩ (.slice none 0 0)) (CS.cells ⟨s.dc,s.rg,s.nd,some c,z,(0:Int),([]:List ya),(0:Int),0,0,0,true⟩ (.slice none 0 0)) ?_;try refine ga ?_
  refine ck (Te (s:=⟨s.dc,s.rg,s.nd,some c,z,(0:Int),([]:List ya),(0:Int),0,0,0,true⟩) (Ii.some ob) b (.slice none 0 0)) ?_;rintro _ _ ⟨rfl,rfl⟩;refine vb ?_;refine D.Ke ?_;exact D.Vb [oa b (CS.settle ⟨s.dc,s.rg,s.nd,some c,z,0,[],0,0,0,0,true⟩) (.slice none 0 0),[]] _ rfl rfl rfl ⟨rfl,_,[],rfl,by rw[(Ja _).2.2.2.2.2.2.1];exact ia.nil _⟩
 .have e1:s.Qc c.cfg=⟨s.dc,s.rg,s.nd,some c,s.sn,s.len,s.lg,s.len,s.st,0,0,true⟩:=by unfold CS.Qc;rw[hch,if_neg h1]
  have e2:s.Zh c.cfg=false:=by unfold CS.Zh;rw[hch];exact gj h1
  rw[e1,e2];clear e0 e1 e2 hch;generalize Zb (some c) s.nd=z at hsi h1;refine ce func127 λg R=>?_;repeat' first|refine vb ?_|refine Ud λ_=>?_|refine yj c.cfg.enc ?_|refine cq jx ?_
  rename_i b3;refine ij ?_;refine wq ?_;by_cases k1:z≠0
  .have k2:z=s.sn:=Classical.byContradiction λh=>h1 ⟨k1,h⟩;repeat' first|refine ga ?_|refine yj c.cfg.enc ?_|refine cq hsi ?_
   refine NQ (CS.cells ⟨s.dc,s.rg,s.nd,s.co,s.sn,s.bs,s.lg,s.du,s.st,s.ak,s.ow,s.su⟩ v) c.cfg.enc (CS.cells ⟨s.dc,s.rg,s.nd,some c,s.sn,s.bs,s.lg,s.du,s.st,s.ak,s.ow,s.su⟩ v) rfl rfl ?_;try refine ga ?_
   have hc1:∀(g:World) w,Cf g (λi:Int=>[oa b ⟨s.dc,s.rg,s.nd,some c,s.sn,s.bs,s.lg,i,s.st,s.ak,s.ow,s.su⟩ v]) w->w.cell? ⟨b,0+18,none⟩=some v:=λg w hw=>by
    obtain⟨i,h⟩:=hw;have h1:=h.2.2 b _ (zf ..);rw[vg h1];rfl
   refine W.h0 [Mc b3 c.cfg,oa b ⟨s.dc,s.rg,s.nd,some c,s.sn,s.bs,s.lg,s.du,s.st,s.ak,s.ow,s.su⟩ v,hv,R] ?_;refine W.RU (List.replicate 14 true++[false]) (Cf g (λi:Int=>[oa b ⟨s.dc,s.rg,s.nd,some c,s.sn,s.bs,s.lg,i,s.st,s.ak,s.ow,s.su⟩ v])) (λw h=>Cf.of s.du h) Tryz.mix (by kernel_rfl) ?_;repeat' first|refine ga ?_|refine WN.load rfl (hc1 g) rfl ?_|refine WN.Y5 (λ_ h=>Cf.Z5 h) ?_|refine WN.CM ?_|refine WN.an ?_
   refine Wh (CS.cells ⟨s.dc,s.rg,s.nd,some c,s.sn,s.bs,s.lg,s.du,s.st,s.ak,s.ow,s.su⟩ v) (CS.cells ⟨s.dc,s.rg,s.nd,some c,s.sn,s.bs,s.lg,(s.len:Int),s.st,s.ak,s.ow,s.su⟩ v) ?_;try refine ga ?_
   refine WN.back (λw h=>Cf.of (s.len:Int) h) ?_;repeat' first|refine ga ?_|refine WN.nil ?_
   refine Wh (CS.cells ⟨s.dc,s.rg,s.nd,some c,s.sn,s.bs,s.lg,(s.len:Int),s.st,s.ak,s.ow,s.su⟩ v) (CS.cells ⟨s.dc,s.rg,s.nd,some c,s.sn,(s.len:Int),s.lg,(s.len:Int),s.st,s.ak,s.ow,s.su⟩ v) ?_;try refine ga ?_
   refine Wh (CS.cells ⟨s.dc,s.rg,s.nd,some c,s.sn,(s.len:Int),s.lg,(s.len:Int),s.st,s.ak,s.ow,s.su⟩ v) (CS.cells ⟨s.dc,s.rg,s.nd,some c,s.sn,(s.len:Int),s.lg,(s.len:Int),s.st,0,s.ow,s.su⟩ v) ?_;try refine ga ?_
   refine Wh (CS.cells ⟨s.dc,s.rg,s.nd,some c,s.sn,(s.len:Int),s.lg,(s.len:Int),s.st,0,s.ow,s.su⟩ v) (CS.cells ⟨s.dc,s.rg,s.nd,some c,s.sn,(s.len:Int),s.lg,(s.len:Int),s.st,0,0,s.su⟩ v) ?_;try refine ga ?_
   refine Wh (CS.cells ⟨s.dc,s.rg,s.nd,some c,s.sn,(s.len:Int),s.lg,(s.len:Int),s.st,0,0,s.su⟩ v) (CS.cells ⟨s.dc,s.rg,s.nd,some c,s.sn,(s.len:Int),s.lg,(s.len:Int),s.st,0,0,true⟩ v) ?_;try refine ga ?_
   refine ck (Te (s:=⟨s.dc,s.rg,s.nd,some c,s.sn,(s.len:Int),s.lg,(s.len:Int),s.st,0,0,true⟩) (Ii.some ob) b v) ?_;rintro _ _ ⟨rfl,rfl⟩;refine vb ?_;exact D.Vb [oa b (CS.settle ⟨s.dc,s.rg,s.nd,some c,s.sn,s.len,s.lg,s.len,s.st,0,0,true⟩) v,hv] _ rfl rfl rfl ⟨rfl,v,hv,rfl,by rw[(Ja _).2.2.2.2.2.2.1];exact hs⟩
  .have k2:z=0:=Classical.not_not.1 k1;repeat' first|refine ga ?_|refine yj c.cfg.enc ?_|refine cq hsi ?_
   refine NQ (CS.cells ⟨s.dc,s.rg,s.nd,s.co,s.sn,s.bs,s.lg,s.du,s.st,s.ak,s.ow,s.su⟩ v) c.cfg.enc (CS.cells ⟨s.dc,s.rg,s.nd,some c,s.sn,s.bs,s.lg,s.du,s.st,s.ak,s.ow,s.su⟩ v) rfl rfl ?_;try refine ga ?_
   have hc1:∀(g:World) w,Cf g (λi:Int=>[oa b ⟨s.dc,s.rg,s.nd,some c,s.sn,s.bs,s.lg,i,s.st,s.ak,s.ow,s.su⟩ v]) w->w.cell? ⟨b,0+18,none⟩=some v:=λg w hw=>by
    obtain⟨i,h⟩:=hw;have h1:=h.2.2 b _ (zf ..);rw[vg h1];rfl
   refine W.h0 [Mc b3 c.cfg,oa b ⟨s.dc,s.rg,s.nd,some c,s.sn,s.bs,s.lg,s.du,s.st,s.ak,s.ow,s.su⟩ v,hv,R] ?_;refine W.RU (List.replicate 14 true++[false]) (Cf g (λi:Int=>[oa b ⟨s.dc,s.rg,s.nd,some c,s.sn,s.bs,s.lg,i,s.st,s.ak,s.ow,s.su⟩ v])) (λw h=>Cf.of s.du h) Tryz.mix (by kernel_rfl) ?_;repeat' first|refine ga ?_|refine WN.load rfl (hc1 g) rfl ?_|refine WN.Y5 (λ_ h=>Cf.Z5 h) ?_|refine WN.CM ?_|refine WN.an ?_
   refine Wh (CS.cells ⟨s.dc,s.rg,s.nd,some c,s.sn,s.bs,s.lg,s.du,s.st,s.ak,s.ow,s.su⟩ v) (CS.cells ⟨s.dc,s.rg,s.nd,some c,s.sn,s.bs,s.lg,(s.len:Int),s.st,s.ak,s.ow,s.su⟩ v) ?_;try refine ga ?_
   refine WN.back (λw h=>Cf.of (s.len:Int) h) ?_;repeat' first|refine ga ?_|refine WN.nil ?_
   refine Wh (CS.cells ⟨s.dc,s.rg,s.nd,some c,s.sn,s.bs,s.lg,(s.len:Int),s.st,s.ak,s.ow,s.su⟩ v) (CS.cells ⟨s.dc,s.rg,s.nd,some c,s.sn,(s.len:Int),s.lg,(s.len:Int),s.st,s.ak,s.ow,s.su⟩ v) ?_;try refine ga ?_
   refine Wh (CS.cells ⟨s.dc,s.rg,s.nd,some c,s.sn,(s.len:Int),s.lg,(s.len:Int),s.st,s.ak,s.ow,s.su⟩ v) (CS.cells ⟨s.dc,s.rg,s.nd,some c,s.sn,(s.len:Int),s.lg,(s.len:Int),s.st,0,s.ow,s.su⟩ v) ?_;try refine ga ?_
   refine Wh (CS.cells ⟨s.dc,s.rg,s.nd,some c,s.sn,(s.len:Int),s.lg,(s.len:Int),s.st,0,s.ow,s.su⟩ v) (CS.cells ⟨s.dc,s.rg,s.nd,some c,s.sn,(s.len:Int),s.lg,(s.len:Int),s.st,0,0,s.su⟩ v) ?_;try refine ga ?_
   refine Wh (CS.cells ⟨s.dc,s.rg,s.nd,some c,s.sn,(s.len:Int),s.lg,(s.len:Int),s.st,0,0,s.su⟩ v) (CS.cells ⟨s.dc,s.rg,s.nd,some c,s.sn,(s.len:Int),s.lg,(s.len:Int),s.st,0,0,true⟩ v) ?_;try refine ga ?_
   refine ck (Te (s:=⟨s.dc,s.rg,s.nd,some c,s.sn,(s.len:Int),s.lg,(s.len:Int),s.st,0,0,true⟩) (Ii.some ob) b v) ?_;rintro _ _ ⟨rfl,rfl⟩;refine vb ?_;exact D.Vb [oa b (CS.settle ⟨s.dc,s.rg,s.nd,some c,s.sn,s.len,s.lg,s.len,s.st,0,0,true⟩) v,hv] _ rfl rfl rfl ⟨rfl,v,hv,rfl,by rw[(Ja _).2.2.2.2.2.2.1];exact hs⟩
end Go.Proofs.YthebagfahkebiaaGreat
namespace Go.Sl
open Go
section
variable{g:World}{P:Program}{ops:Array Oper}{Q:Exit->Act->World->Prop}{q:Bool}{n d ty:Nat}{pos:String}{af:Array Edge}{rest:List Oper}{L:Fm}{H:HH}{v:Value}
def WX.EE{x y:Operand}{t e len j:Nat}{i:Int}{kd:IntKind}{cs:List Value}(hx:ev L x=some (.agg cs.toArray))(hy:ev L y=some (.int kd i))(hi:i=(j:Int))[ht:TU P t (.array len e)][tl:TL P e 1 false](hj:j<len)(hc:cs[j]? =some v)(hd:Nat.blt d n=true)
  (k:WX q g P ops Q n rest ((d,v)::L) H):WX q g P ops Q n (⟨some d,.index t x y,ty,pos,af,none⟩::rest) L H:=by
 subst hi;exact WX.Z0 hx hy hj hc hd k
end
end Go.Sl
namespace Go.Proofs.YthebagfahkebiaaGreat
open Go Go.Sl Go.Proofs.Tryz List
def V3.zG(v:V3){k i:Nat}(hk:k<3)(hi:i<3)(x:Int):(v.put k x).at i=if i=k then x else v.at i:=by
 rcases(by omega:k=0\/k=1\/k=2) with rfl|rfl|rfl<;>rcases(by omega:i=0\/i=1\/i=2) with rfl|rfl|rfl<;>rfl
def Ui(rg:Int){es:List ya}(h:∀e∈es,Xc e){k:Nat}(hk:k<3):0<=(ic rg es).at k/\(ic rg es).at k<=MC:=by
 have key:∀(es:List ya) (c:V3),(∀e∈es,Xc e)->(∀i,i<3->0<=c.at i/\c.at i<=MC)->∀i,i<3->0<=(es.foldl (Ze rg) c).at i/\(es.foldl (Ze rg) c).at i<=MC:=by
  intro es
  induction es with
  |nil=>intro c _ hc;exact hc
  |cons e t ih=>
   intro c h hc;refine ih _ (λx hx=>h x (Rn _ hx)) λi hi=>?_;have he:=h e (zf ..);unfold Ze;split
   .rename_i hg;have hd:e.dc.toNat<3:=by have:=hg.2.1;have:=hg.2.2.1;omega
    rw[V3.zG _ hd hi];split
    .have h1:=hc e.dc.toNat hd;have h2:=he.sq;unfold mx;split
     .exact⟨by omega,h2.2⟩
     .exact h1
    .exact hc i hi
   .exact hc i hi
 refine key es V3.z h (λi hi=>?_) k hk;rcases(by omega:i=0\/i=1\/i=2) with rfl|rfl|rfl<;>exact⟨by decide,by decide⟩
def LK{s:CS}(ok:Lb s)(b:Nat){v:Value}{hv:Hp}(hs:ia 49 s.lg v hv)(e:ya):
  Ct prog 226 [b,.agg (List.toArray e.enc)] [oa b s v,hv] (λr H'=>r= .int .i64 (s.Xb e).1/\Fy (s.Xb e).2 b H'):=by
 have hr:=hs.rs;have jg:=ok.len;have hlen:s.len=(s.lg.length:Int):=rfl;have hih:=bn ok.co b v;have kj:=Jx e;have ee:=vr s b hr (by omega);have Lx:=Ey s b hr (by omega) e.dp;by_cases c1:s.head;rotate_left
 .have e0:s.Xb e=(90,s):=if_pos c1;rw[e0];rw[gj c1] at hih;clear Lx ee kj;refine ce func226 λg R=>?_;repeat' first|refine vb ?_|refine Ud λ_=>?_|refine cq hih ?_
  exact Wa [oa b s v,hv] rfl rfl ⟨rfl,v,hv,rfl,hs⟩
 rw[Fi c1] at hih;by_cases c2:Xc e/\e.rg=s.rg/\ ¬e.dc=s.dc;rotate_left
 .have e0:s.Xb e=(1,s):=by
   unfold CS.Xb;rw[if_neg (λh=>h c1),if_pos];by_cases k1:Xc e
   .by_cases k2:e.rg=s.rg
    .exact .inr (.inr (Classical.byContradiction λk3=>c2 ⟨k1,k2,k3⟩))
    .exact .inr (.inl k2)
   .exact .inl k1
  rw[e0];refine ce func226 λg R=>?_;repeat' first|refine vb ?_|refine Ud λ_=>?_|refine cq hih ?_
  refine wq ?_;by_cases k1:Xc e
  .rw[Fi k1] at kj;by_cases k2:e.rg=s.rg
   .have k3:e.dc=s.dc:=Classical.byContradiction λk3=>c2 ⟨k1,k2,k3⟩;repeat' first|refine ga ?_|refine Of (t:=49) e.enc e.enc ?_|refine cq kj ?_
    exact Wa [oa b s v,hv] rfl rfl ⟨rfl,v,hv,rfl,hs⟩
   .repeat' first|refine ga ?_|refine Of (t:=49) e.enc e.enc ?_|refine cq kj ?_
    exact Wa [oa b s v,hv] rfl rfl ⟨rfl,v,hv,rfl,hs⟩
  .rw[gj k1] at kj;repeat' first|refine ga ?_|refine Of (t:=49) e.enc e.enc ?_|refine cq kj ?_
   exact Wa [oa b s v,hv] rfl rfl ⟨rfl,v,hv,rfl,hs⟩
 obtain⟨k1,k2,k3⟩:=c2;rw[Fi k1] at kj
 have yc: ¬(¬Xc e\/e.rg≠s.rg\/e.dc=s.dc):=by
  rintro(h|h|h)
  .exact h k1
  .exact h k2
  .exact k3 h
 obtain⟨j,hj⟩:∃j:Nat,e.dc=(j:Int):=⟨e.dc.toNat,by have:=k1.ch.1;omega⟩;have fO:j<3:=by have:=k1.ch.2.1;omega
 have hjn:e.dc.toNat=j:=by omega
 have zj:=(ic s.rg s.lg).Vd fO;have cB:=Ui s.rg ok.es fO;simp only[MC] at cB;obtain⟨y,hy⟩:∃y,(ic s.rg s.lg).at j=y:=⟨_,rfl⟩;rw[hy] at zj cB;by_cases c3:e.sq<=y
 .have e0:s.Xb e=(80,s):=by unfold CS.Xb;rw[if_neg (λh=>h c1),if_neg yc,hjn,hy,if_pos c3]
  rw[e0];refine ce func226 λg R=>?_;repeat' first|refine vb ?_|refine Ud λ_=>?_|refine cq hih ?_
  refine wq ?_;repeat' first|refine ga ?_|refine Of (t:=49) e.enc e.enc ?_|refine cq kj ?_
  refine wq ?_;repeat' first|refine ga ?_|refine cq ee ?_|refine WX.EE rfl rfl hj (by omega) zj rfl ?_
  exact Wa [oa b s v,hv] rfl rfl ⟨rfl,v,hv,rfl,hs⟩
 by_cases c4:e.sq>y+1
 .have e0:s.Xb e=(91,s):=by unfold CS.Xb;rw[if_neg (λh=>h c1),if_neg yc,hjn,hy,if_neg c3,if_pos c4]
  rw[e0];refine ce func226 λg R=>?_;repeat' first|refine vb ?_|refine Ud λ_=>?_|refine cq hih ?_
  refine wq ?_;repeat' first|refine ga ?_|refine Of (t:=49) e.enc e.enc ?_|refine cq kj ?_
  refine wq ?_;repeat' first|refine ga ?_|refine cq ee ?_|refine WX.EE rfl rfl hj (by omega) zj rfl ?_
  exact Wa [oa b s v,hv] rfl rfl ⟨rfl,v,hv,rfl,hs⟩
 by_cases c5:s.Tn e.dp;rotate_left
 .have e0:s.Xb e=(91,s):=by unfold CS.Xb;rw[if_neg (λh=>h c1),if_neg yc,hjn,hy,if_neg c3,if_neg c4,if_pos c5]
  rw[e0];rw[Fi c5] at Lx;refine ce func226 λg R=>?_;repeat' first|refine vb ?_|refine Ud λ_=>?_|refine cq hih ?_
  refine wq ?_;repeat' first|refine ga ?_|refine Of (t:=49) e.enc e.enc ?_|refine cq kj ?_
  refine wq ?_;repeat' first|refine ga ?_|refine al λ_=>?_|refine Of (t:=47) e.enc e.dp.enc ?_|refine Of (t:=47) e.dp.enc e.dp.enc ?_|refine cq ee ?_|refine cq Lx ?_|refine WX.EE rfl rfl hj (by omega) zj rfl ?_|refine nh V9.z.enc e.dp.enc ?_
  exact Wa [oa b s v,hv] rfl rfl ⟨rfl,v,hv,rfl,hs⟩
 rw[gj (λh=>h c5)] at Lx;by_cases c6:256<=s.len
 .have e0:s.Xb e=(2,s):=by unfold CS.Xb;rw[if_neg (λh=>h c1),if_neg yc,hjn,hy,if_neg c3,if_neg c4,if_neg (λh=>h c5),if_pos c6]
  rw[e0];refine ce func226 λg R=>?_;repeat' first|refine vb ?_|refine Ud λ_=>?_|refine cq hih ?_
  refine wq ?_;repeat' first|refine ga ?_|refine Of (t:=49) e.enc e.enc ?_|refine cq kj ?_
  refine wq ?_;repeat' first|refine ga ?_|refine al λ_=>?_|refine Of (t:=47) e.enc e.dp.enc ?_|refine Of (t:=47) e.dp.enc e.dp.enc ?_|refine cq ee ?_|refine cq Lx ?_|refine WX.EE rfl rfl hj (by omega) zj rfl ?_|refine nh V9.z.enc e.dp.enc ?_
  exact Wa [oa b s v,hv] rfl rfl ⟨rfl,v,hv,rfl,hs⟩
 have e0:s.Xb e=(0,(s.push e).settle):=by unfold CS.Xb;rw[if_neg (λh=>h c1),if_neg yc,hjn,hy,if_neg c3,if_neg c4,if_neg (λh=>h c5),if_neg c6]
 rw[e0];have ZA:=λv'=>Te (s:=s.push e) ok.co b v';refine ce func226 λg R=>?_;repeat' first|refine vb ?_|refine Ud λ_=>?_|refine cq hih ?_
 rename_i b3;refine wq ?_;repeat' first|refine ga ?_|refine Of (t:=49) e.enc e.enc ?_|refine cq kj ?_
 refine wq ?_;repeat' first|refine ga ?_|refine al λ_=>?_|refine Of (t:=47) e.enc e.dp.enc ?_|refine Of (t:=47) e.dp.enc e.dp.enc ?_|refine cq ee ?_|refine cq Lx ?_|refine WX.EE rfl rfl hj (by omega) zj rfl ?_|refine nh V9.z.enc e.dp.enc ?_
 refine sK (ml [6,2]) [oa b s v,Fb b3 e] ?_;repeat' first|refine ga ?_|refine Of (t:=49) e.enc e.enc ?_
 refine Kp [e] (λv2 h2 Oa=>?_);try refine ga ?_
 refine Ys (zb:=by simp only[Gb,jd];omega) hs Oa.rs (λv3 h3 Fc=>?_);obtain⟨p3,MK,e3⟩:=Fc.rs.len;subst e3;try refine ga ?_
 refine Wh (s.cells v) (CS.cells (s.push e) (.slice p3 (s.lg++[e]).length MK)) ?_;try refine ga ?_
 refine ck (ZA (.slice p3 (s.lg++[e]).length MK)) ?_;rintro _ _ ⟨rfl,rfl⟩;refine vb ?_;exact Wa [oa b (s.push e).settle (.slice p3 (s.lg++[e]).length MK),h3] rfl rfl ⟨rfl,_,h3,rfl,by rw[wG];exact Fc⟩
end Go.Proofs.YthebagfahkebiaaGreat
