/- Texts of one road. -/
import Derived.Test.YthebagfahkebiaaGreatRAJ
set_option linter.all false
set_option maxHeartbeats 8000000
set_option maxRecDepth 20000
namespace Go.Proofs.YthebagfahkebiaaGreat
open Go Go.Sl Go.Proofs.Tryz List
variable{d:Nat}{h:Hp}
def Jz{l:List Lf}(ok:Ie l)(hd:Od (dk l) d h):
  Ct prog 82 [d] [h] (λres H'=>∃w u h' ho,res= .tuple #[.pointer (some ⟨w,0,none⟩),u]/\H'=[zf w d (va l) 0,h',ho]/\Od (dk l) d h'/\ia 140 (ye (Ua l)) u ho):=by
 have hc:=Jk ok.good;have hu:=ok.used;refine oO (pre:=l) (ns:=[]) hd (by rw[mq ok,append_nil]) (by rw[ok.Zr];exact ok.len) (λf hf=>?_) ok.good (by rw[mq ok,bf];exact ok.len) (by omega) (.inl ⟨rfl,rfl,rfl,rfl,rfl⟩);obtain⟨a,b,rfl⟩:=append_of_mem hf;refine⟨by unfold Be.Xt;rw[zp ok.toXu];rfl,?_⟩;rw[Se] at hu;simp only[He,map_cons,sum_append,sum_cons] at hu;omega
def XP{pre:List Lf}{x:yd}{post:List yd}(ox:Jw pre x post){rs:List Rec}{t:List UInt8}(hb:x.b=bytes rs++t)(hs:x.s=x.b.length)(hg:∀r∈rs,r.code=0)(hsh:zA t)(ht:t≠[])(hd:Od (Qn pre x post) d h):
  Ct prog 82 [d] [h] (λres H'=>∃w u h' ho,res= .tuple #[.pointer (some ⟨w,0,none⟩),u]/\H'=[zf w d x.n ((t.length+(post.map (·.b.length)).sum:Nat):Int),h',ho]/\Od (dk (pre++[⟨x.n,rs,rs.length⟩])) d h'/\ia 140 (ye (Ua pre++rs)) u ho):=by
 have hu:=ox.used;have hl:=ox.len;have hc:=Jk (l:=pre) ox.good;rw[Se] at hc
 have Uk:(pre.map (λf=>(bytes f.rs).length)).sum<=1048576:=by
  unfold Be.used Qn at hu;simp only[He,map_cons,sum_append,sum_cons,map_map] at hu;have:(pre.map ((λx=>x.b.length)∘Lf.file))=pre.map (λf=>(bytes f.rs).length):=rfl;rw[this] at hu;omega
 have hlen:(pre.map Lf.file++x::post).length<=64:=hl
 have hnl:(Qn pre x post).names.length<=64:=by
  rw[ox.names];simp only[Eb,bf,Ib] at hl⊢;omega
 refine oO (pre:=pre) (ns:=x.n::post.map (·.n)) hd ox.names hl (λf hf=>?_) ox.good hnl (by omega) (.inr ⟨x,post,rs,t,rfl,ox,hb,hs,hg,hsh,ht,rfl,rfl,rfl,rfl⟩);obtain⟨a,b,e⟩:=append_of_mem hf;refine⟨by unfold Be.Xt;rw[ox.L5 e];rfl,?_⟩;have:=Vo (mem_map.2 ⟨f,hf,rfl⟩:(bytes f.rs).length∈pre.map (λf=>(bytes f.rs).length));omega
variable{n:Int}{a b:List Lf}
def qe:List Lf->Nat->List yd
 |[],_=>[]
 |f::t,q=>⟨f.n,(bytes f.rs).take ((bytes (f.rs.take f.k)).length+min q (bytes (f.rs.drop f.k)).length),(bytes (f.rs.take f.k)).length+min q (bytes (f.rs.drop f.k)).length⟩::qe t (q - min q (bytes (f.rs.drop f.k)).length)
def VZ{keep:Int}{m:Nat}:JO keep ⟨n,(m:Int)⟩=(min keep.toNat m:Nat):=by
 unfold JO;simp only[];split<;>split at* <;>omega
def WZ{a b:List yd}(ha:∀x∈a,x.n≠n)(hb:∀x∈b,x.n≠n){bs:List UInt8}:∀(ms:List Nat) (s:Nat) (keep lost:Int),
  ∃lost',(ms.map λ(m:Nat)=>(⟨n,(m:Int)⟩:Pc)).foldl Pm (a++⟨n,bs,s⟩::b,keep,lost)=(a++⟨n,bs,s+min keep.toNat ms.sum⟩::b,keep - (min keep.toNat ms.sum:Nat),lost'):=by
 intro ms
 induction ms with
 |nil=>intro s keep lost;exact⟨lost,by simp⟩
 |cons m t ih=>
  intro s keep lost
  have h1:∀l:List yd,(∀x∈l,x.n≠n)->(l.map λf=>if f.n=n then{f with s:=f.s+(JO keep ⟨n,(m:Int)⟩).toNat} else f)=l:=by
   intro l hl
   have:(l.map λf=>if f.n=n then{f with s:=f.s+(JO keep ⟨n,(m:Int)⟩).toNat} else f)=l.map id:=by
    apply map_congr_left;intro x hx;exact if_neg (hl x hx)
   rw[this,map_id]
  have h2:Pm (a++⟨n,bs,s⟩::b,keep,lost) ⟨n,(m:Int)⟩=(a++⟨n,bs,s+min keep.toNat m⟩::b,keep - (min keep.toNat m:Nat),lost+((m:Int) - (min keep.toNat m:Nat))):=by
   unfold Pm;simp only[He,map_cons,h1 a ha,h1 b hb,if_true];rw[VZ];simp
  rw[map_cons,foldl_cons,h2];obtain⟨lost',h3⟩:=ih (s+min keep.toNat m) (keep - (min keep.toNat m:Nat)) (lost+((m:Int) - (min keep.toNat m:Nat)));have h4:min keep.toNat m+min (keep - (min keep.toNat m:Nat)).toNat t.sum=min keep.toNat (m+t.sum):=by omega
  refine⟨lost',?_⟩;rw[h3,sum_cons,Nat.add_assoc,h4];congr 2;omega
def N5(f:Lf):f.ps=((f.rs.drop f.k).map λr=>r.fr.length).map λ(m:Nat)=>(⟨f.n,(m:Int)⟩:Pc):=by
 unfold Lf.ps;rw[map_map];rfl
def dX:∀(l:List Lf) (a:List yd) (keep lost:Int),(l.map (·.n)).Pairwise (· ≠ ·)->(∀x∈a,∀f∈l,x.n≠f.n)->
  ∃fs k' lost',((l.map Lf.ps).flatten).foldl Pm (a++l.map Lf.file,keep,lost)=(a++fs,k',lost')/\fs.map (λf=>{f with b:=f.b.take f.s})=qe l keep.toNat:=by
 intro l
 induction l with
 |nil=>intro a keep lost _ _;exact⟨[],keep,lost,by simp,rfl⟩
 |cons f t ih=>
  intro a keep lost hp ha;rw[map_cons,pairwise_cons] at hp
  have hb:∀x∈t.map Lf.file,x.n≠f.n:=by
   intro x hx;obtain⟨y,hy,rfl⟩:=mem_map.1 hx;exact λe=>hp.1 y.n (mem_map.2 ⟨y,hy,rfl⟩) e.symm
  obtain⟨l1,h1⟩:=WZ (n:=f.n) (a:=a) (b:=t.map Lf.file) (λx hx=>ha x hx f (qf ..)) hb (bs:=bytes f.rs) ((f.rs.drop f.k).map λr=>r.fr.length) (bytes (f.rs.take f.k)).length keep lost;rw[<-N5,<-tQ] at h1;have h2:a++(f::t).map Lf.file=a++⟨f.n,bytes f.rs,(bytes (f.rs.take f.k)).length⟩::t.map Lf.file:=rfl;rw[map_cons (f:=Lf.ps),flatten_cons,foldl_append,h2,h1]
  obtain⟨fs,k',lost',h3,h4⟩:=ih (a++[⟨f.n,bytes f.rs,(bytes (f.rs.take f.k)).length+min keep.toNat (bytes (f.rs.drop f.k)).length⟩]) (keep - (min keep.toNat (bytes (f.rs.drop f.k)).length:Nat)) l1 hp.2 (λx hx g hg=>by
   rcases mem_append.1 hx with hx|hx
   .exact ha x hx g (Vn _ hg)
   .rw[mem_singleton.1 hx];exact hp.1 g.n (mem_map.2 ⟨g,hg,rfl⟩))
  simp only[Sc,singleton_append] at h3;refine⟨_::fs,k',lost',h3,?_⟩;rw[map_cons,h4,show(keep - (min keep.toNat (bytes (f.rs.drop f.k)).length:Nat)).toNat=keep.toNat - min keep.toNat (bytes (f.rs.drop f.k)).length from by omega];rfl
def CU{l:List Lf}(ok:Ie l)(keep:Int):(dk l).Dc keep=⟨qe l keep.toNat,[]⟩:=by
 obtain⟨fs,k',lost',h1,h2⟩:=dX l [] keep 0 (pairwise_map.2 (ok.up.imp λh=>by omega)) (by simp);unfold Be.Dc Be.iz;rw[show(dk l).loose=(l.map Lf.ps).flatten from rfl,show(dk l).fs=[]++l.map Lf.file from rfl,h1];simp only[na];rw[h2]
def frN:List Rec->Nat->Nat
 |[],_=>0
 |r::u,q=>if q<r.fr.length then 0 else frN u (q - r.fr.length)+1
def qu:List Lf->Nat->Nat
 |[],_=>0
 |f::t,q=>if(bytes (f.rs.drop f.k)).length<=q then f.rs.length+qu t (q - (bytes (f.rs.drop f.k)).length) else f.k+frN (f.rs.drop f.k) q
def Mv(l:List Lf):Nat:=(l.map λf=>(bytes (f.rs.drop f.k)).length).sum
def IK:∀(rs:List Rec) (q:Nat),(∀r∈rs,r.code=0)->q<=(bytes rs).length->∃j t,j<=rs.length/\(bytes rs).take q=bytes (rs.take j)++t/\(t=[]\/(zA t/\t≠[]))/\j=frN rs q:=by
 intro rs
 induction rs with
 |nil=>intro q _ hq;exact⟨0,[],Nat.le_refl _,by simp[bytes],.inl rfl,rfl⟩
 |cons r u ih=>
  intro q hg hq;by_cases h:q<r.fr.length
  .refine⟨0,r.fr.take q,di _,?_,?_,(if_pos h).symm⟩
   .rw[ve,take_append_of_le_length (by omega)];simp[bytes]
   .by_cases h0:q=0
    .left;rw[h0];rfl
    .right;refine⟨⟨r,q,hg r (qf ..),h,rfl⟩,λe=>?_⟩
     have h5:min q r.fr.length=0:=by
      have:=congrArg List.length e;rwa [Oe,td] at this
     omega
  .rw[ve,Eb] at hq;obtain⟨j,t,h1,h2,h3,h4⟩:=ih (q - r.fr.length) (λx hx=>hg x (Vn _ hx)) (by omega);refine⟨j+1,t,by simpa using h1,?_,h3,by rw[h4];exact(if_neg h).symm⟩;rw[take_succ_cons,ve,ve,take_append,take_of_length_le (by omega),h2,Sc]
inductive Un:List Lf->List Lf->Prop
 |nil:Un [] []
 |cons {a b:List Lf} {f:Lf} {m:Nat} (h:Un a b):Un (⟨f.n,f.rs.take m,(f.rs.take m).length⟩::a) (f::b)
def Un.names(h:Un a b):a.map (·.n)=b.map (·.n):=by
 induction h with
 |nil=>rfl
 |cons h ih=>simp only[map_cons,ih]
def Un.full{a b:List Lf}(h:Un a b):∀f∈a,f.full=f:=by
 induction h with
 |nil=>simp
 |cons h ih=>
  intro f hf;rcases mem_cons.1 hf with rfl|hf
  .rfl
  .exact ih f hf
def Un.good(h:Un a b)(hg:∀f∈b,∀r∈f.rs,r.code=0):∀f∈a,∀r∈f.rs,r.code=0:=by
 induction h with
 |nil=>simp
 |cons h ih=>
  intro f hf r hr;rcases mem_cons.1 hf with rfl|hf
  .exact hg _ (qf ..) r (mem_of_mem_take hr)
  .exact ih (λx hx=>hg x (Vn _ hx)) f hf r hr
def Un.used(h:Un a b):(a.map λf=>(bytes f.rs).length).sum<=(b.map λf=>(bytes f.rs).length).sum:=by
 induction h with
 |nil=>simp
 | @cons a b f m h ih=>
  have:=Pf f.rs m;simp only[map_cons,sum_cons];omega
def Un.len(h:Un a b):a.length=b.length:=by have:=congrArg List.length h.names;simpa using this
def Un.ok{a b:List Lf}(h:Un a b)(ok:Ie b):Ie a where
 up:=by
  have h1:=pairwise_map (f:=λx:Lf=>x.n) (R:=λx y:Int=>x<y) (l:=a);rw[h.names] at h1;exact h1.1 (pairwise_map.2 ok.up)
 good:=h.good ok.good
 k:=λf hf=>by rw[<-h.full f hf];exact Nat.le_refl _
 tail:=by
  refine pairwise_of_forall_mem_list λx hx y hy hlt=>?_;rw[<-h.full x hx] at hlt;exact absurd hlt (Nat.lt_irrefl _)
 lo:=λf hf=>by
  have:f.n∈b.map (·.n):=by rw[<-h.names];exact mem_map.2 ⟨f,hf,rfl⟩
  obtain⟨g,hg,e⟩:=mem_map.1 this;rw[<-e];exact ok.lo g hg
 hi:=λf hf=>by
  have:f.n∈b.map (·.n):=by rw[<-h.names];exact mem_map.2 ⟨f,hf,rfl⟩
  obtain⟨g,hg,e⟩:=mem_map.1 this;rw[<-e];exact ok.hi g hg
 used:=by have:=ok.used;rw[Se] at this⊢;have:=h.used;omega
 len:=by rw[h.len];exact ok.len
def Un.va{a b:List Lf}(h:Un a b):Go.Proofs.YthebagfahkebiaaGreat.va a=Go.Proofs.YthebagfahkebiaaGreat.va b:=by
 have h1:∀l:List Lf,Go.Proofs.YthebagfahkebiaaGreat.va l=((l.map (·.n)).getLast?).getD 0:=by
  intro l;rcases eq_nil_or_concat l with rfl|⟨p,f,rfl⟩
  .rfl
  .rw[concat_eq_append,Nb,He,map_cons,map_nil,List.getLast?_concat];rfl
 rw[h1,h1,h.names]
def Un.zero(b:List Lf):Un (b.map λf=>⟨f.n,[],0⟩) b:=by
 induction b with
 |nil=>exact .nil
 |cons f t ih=>exact Un.cons (f:=f) (m:=0) ih
def IM:∀(l:List Lf),(∀f∈l,f.k=0)->qe l 0=(l.map λf=>(⟨f.n,[],0⟩:Lf)).map Lf.file:=by
 intro l
 induction l with
 |nil=>intro _;rfl
 |cons f t ih=>
  intro h;have hk:=h f (qf ..);unfold qe;rw[hk];have h1:bytes (f.rs.take 0)=[]:=rfl;rw[h1];simp only[td,Nat.zero_min,Nat.zero_add,Nat.zero_sub,take_zero,map_cons];rw[ih λx hx=>h x (Vn _ hx)];rfl
def LH:∀(l:List Lf) (q:Nat),(∀f∈l,∀r∈f.rs,r.code=0)->(∀f∈l,f.k<=f.rs.length)->(l.Pairwise λa b=>a.k<a.rs.length->b.k=0)->
  (∃l' m,qe l q=l'.map Lf.file/\Un l' l/\Kg l<=m/\m<=(Ua l).length/\Ua l'=(Ua l).take m/\m=qu l q)\/
  (∃a f b pre j t m,l=a++f::b/\Un pre a/\qe l q=pre.map Lf.file++⟨f.n,bytes (f.rs.take j)++t,(bytes (f.rs.take j)++t).length⟩::b.map (λg=>⟨g.n,[],0⟩)/\zA t/\t≠[]/\(bytes (f.rs.take j)++t).length<=(bytes f.rs).length/\
   Kg l<=m/\m<=(Ua l).length/\Ua pre++f.rs.take j=(Ua l).take m/\m=qu l q/\q<Mv l):=by
 intro l
 induction l with
 |nil=>intro q _ _ _;exact .inl ⟨[],0,rfl,.nil,Nat.le_refl _,Nat.le_refl _,rfl,rfl⟩
 |cons f t ih=>
  intro q hg hk ht;have hgf:=hg f (qf ..);have GU:=hk f (qf ..);rw[pairwise_cons] at ht;have hR:Ua (f::t)=f.rs++Ua t:=by unfold Ua;simp
  have hS:Kg (f::t)=f.k+Kg t:=by unfold Kg;simp
  have rM:=congrArg List.length (Kd f.rs f.k);rw[Eb] at rM;have hlb:Mv (f::t)=(bytes (f.rs.drop f.k)).length+Mv t:=by unfold Mv;simp
  by_cases hq:(bytes (f.rs.drop f.k)).length<=q
  .have hc:qe (f::t) q=Lf.file f.full::qe t (q - (bytes (f.rs.drop f.k)).length):=by
    conv=>lhs;unfold qe
    rw[Nat.min_eq_right hq,rM,take_length];simp[Lf.file,Lf.full]
   have jaa:∀{x:List Lf},Un x t->Un (f.full::x) (f::t):=λh=>by
    have:=Un.cons (f:=f) (m:=f.rs.length) h;rw[take_length] at this;exact this
   rcases ih (q - (bytes (f.rs.drop f.k)).length) (λx hx=>hg x (Vn _ hx)) (λx hx=>hk x (Vn _ hx)) ht.2 with⟨l',m,h1,h2,h3,h4,h5,h6⟩|⟨a,g,b,pre,j,u,m,h1,h2,h3,h4,h5,h7,h8,h9,ZV,h11,h12⟩
   .refine .inl ⟨f.full::l',f.rs.length+m,by rw[hc,h1];rfl,jaa h2,by rw[hS];omega,by rw[hR,Eb];omega,?_,by rw[h6];exact(if_pos hq).symm⟩;rw[hR,take_length_add_append,<-h5];unfold Ua;simp[Lf.full]
   .refine .inr ⟨f::a,g,b,f.full::pre,j,u,f.rs.length+m,by rw[h1];rfl,?_,by rw[hc,h3];rfl,h4,h5,h7,by rw[hS];omega,by rw[hR,Eb];omega,?_,by rw[h11];exact(if_pos hq).symm,by rw[hlb];omega⟩
    .have:=Un.cons (f:=f) (m:=f.rs.length) h2;rw[take_length] at this;exact this
    .rw[hR,take_length_add_append,<-ZV];unfold Ua;simp[Lf.full]
  .have MT:=hq;have hq:q<(bytes (f.rs.drop f.k)).length:=by omega
   have hlt:f.k<f.rs.length:=by
    rcases Nat.lt_or_ge f.k f.rs.length with h|h
    .exact h
    .rw[drop_eq_nil_of_le h] at hq;simp[bytes] at hq
   have hz:∀g∈t,g.k=0:=λg hg=>ht.1 g hg hlt
   have hS0:Kg t=0:=by
    unfold Kg;clear hR hS hlb ih ht hk hg
    induction t with
    |nil=>rfl
    |cons g t ih=>
     rw[map_cons,sum_cons,hz g (qf ..),ih λx hx=>hz x (Vn _ hx)]
   obtain⟨j,u,h1,h2,h3,hj⟩:=IK (f.rs.drop f.k) q (λr hr=>hgf r (mem_of_mem_drop hr)) (by omega);rw[length_drop] at h1
   have Fh:(bytes f.rs).take ((bytes (f.rs.take f.k)).length+q)=bytes (f.rs.take (f.k+j))++u:=by
    rw[<-Kd f.rs f.k,take_length_add_append,h2,<-Sc,<-mj,take_add]
   have hlen:(bytes (f.rs.take (f.k+j))++u).length=(bytes (f.rs.take f.k)).length+q:=by
    rw[<-Fh,Oe];omega
   have hc:qe (f::t) q=⟨f.n,bytes (f.rs.take (f.k+j))++u,(bytes (f.rs.take (f.k+j))++u).length⟩::(t.map λg=>(⟨g.n,[],0⟩:Lf)).map Lf.file:=by
    conv=>lhs;unfold qe
    rw[Nat.min_eq_left (by omega),Fh,Nat.sub_self,IM t hz,hlen]
   have hm:(Ua (f::t)).take (f.k+j)=f.rs.take (f.k+j):=by rw[hR,take_append_of_le_length (by omega)]
   have hm2:f.k+j<=(Ua (f::t)).length:=by rw[hR,Eb];omega
   rcases h3 with rfl|⟨h3,h4⟩
   .refine .inl ⟨⟨f.n,f.rs.take (f.k+j),(f.rs.take (f.k+j)).length⟩::t.map (λg=>⟨g.n,[],0⟩),f.k+j,?_,Un.cons (Un.zero t),by rw[hS,hS0];omega,hm2,?_,by rw[hj];exact(if_neg MT).symm⟩
    .rw[hc];simp only[append_nil,map_cons,Lf.file,take_length]
    .rw[hm];unfold Ua;simp only[map_cons,flatten_cons,map_map]
     have:(t.map (Lf.rs∘λg=>(⟨g.n,[],0⟩:Lf))).flatten=[]:=by
      rw[flatten_eq_nil_iff];intro x hx;obtain⟨g,hg,rfl⟩:=mem_map.1 hx;rfl
     rw[this,append_nil]
   .refine .inr ⟨[],f,t,[],f.k+j,u,f.k+j,rfl,.nil,?_,h3,h4,by rw[hlen];omega,by rw[hS,hS0];omega,hm2,by rw[hm];rfl,by rw[hj];exact(if_neg MT).symm,by rw[hlb];omega⟩;rw[hc,map_map];rfl
variable{l:List Lf}
def JM(k:Int)(a b:List Pc):pn k (a++b)=pn k a+pn k b:=by unfold pn;simp
def IX(f:Lf):pn f.n f.ps=((bytes (f.rs.drop f.k)).length:Int):=by
 have h1:f.ps.filter (λp=>decide (p.f=f.n))=f.ps:=by
  rw[filter_eq_self];intro p hp;exact Mi (Wq hp)
 have h2:∀l:List Rec,((l.map λr=>(⟨f.n,(r.fr.length:Int)⟩:Pc)).map (·.n)).sum=((bytes l).length:Int):=by
  intro l
  induction l with
  |nil=>rfl
  |cons r t ih=>rw[map_cons,map_cons,sum_cons,ih,ve,Eb];simp
 unfold pn;rw[h1];exact h2 _
def JK{n:Int}:∀{l:List Lf},(∀f∈l,f.n≠n)->pn n (l.map Lf.ps).flatten=0:=by
 intro l
 induction l with
 |nil=>intro _;rfl
 |cons f t ih=>
  intro h;rw[map_cons,flatten_cons,JM,ih λx hx=>h x (Vn _ hx)]
  have:f.ps.filter (λp=>decide (p.f=n))=[]:=by
   rw[filter_eq_nil_iff];intro p hp;rw[Wq hp];simpa using h f (qf ..)
  unfold pn;rw[this];rfl
def O5(ok:Ie l):j0 (dk l).fs (dk l).loose:=by
 refine⟨λp hp=>?_,λx hx=>?_⟩
 .obtain⟨y,hy,hpy⟩:=mem_flatten.1 hp;obtain⟨f,hf,rfl⟩:=mem_map.1 hy;have hn:=Wq hpy;unfold Lf.ps at hpy;obtain⟨r,hr,rfl⟩:=mem_map.1 hpy;exact⟨by simp only[];omega,f.file,mem_map.2 ⟨f,hf,rfl⟩,rfl⟩
 .obtain⟨f,hf,rfl⟩:=mem_map.1 hx;obtain⟨a,b,rfl⟩:=append_of_mem hf;have hm:=ok.yp;show(((bytes (f.rs.take f.k)).length:Nat):Int)+pn f.n ((a++f::b).map Lf.ps).flatten<=(bytes f.rs).length;rw[He,flatten_append,map_cons,flatten_cons,JM,JM,JK (l:=a) λx hx=>by have:=hm.1 x hx;omega,JK (l:=b) λx hx=>by have:=hm.2 x hx;omega,IX];have:=congrArg List.length (Kd f.rs f.k);rw[Eb] at this;omega
def yQ:((dk l).loose.map (·.n)).sum<=((dk l).used:Int):=by
 rw[Se];unfold dk;simp only[]
 induction l with
 |nil=>simp
 |cons f t ih=>
  have h1:=IX f
  have h2:f.ps.filter (λp=>decide (p.f=f.n))=f.ps:=by
   rw[filter_eq_self];intro p hp;exact Mi (Wq hp)
  unfold pn at h1;rw[h2] at h1;have h3:=congrArg List.length (Kd f.rs f.k);rw[Eb] at h3;simp only[map_cons,flatten_cons,He,sum_append,sum_cons,h1];omega
def eP(ok:Ie l){d:Nat}{h:Hp}(hd:Od (dk l) d h){keep:Int}(Om: -9223372036854775808<=keep)(hk2:keep<=9223372036854775807):
  Ct prog 165 [d,keep] [h] (λr H'=>∃h',r= .int .i64 ((dk l).lost keep)/\H'=[h']/\Od ⟨qe l keep.toNat,[]⟩ d h'):=by
 have hu:=ok.used;have hs:=yQ (l:=l);rw[<-CU ok];exact vR hd Om hk2 (O5 ok) (by omega) ok.loose (by omega)
def Un.append{a b c d:List Lf}(h:Un a b)(k:Un c d):Un (a++c) (b++d):=by
 induction h with
 |nil=>exact k
 |cons h ih=>exact .cons ih
def VP{a b pre:List Lf}{f:Lf}{t:List UInt8}{j:Nat}(ok:Ie l)(hl:l=a++f::b)(hb:Un pre a)(hlen:(bytes (f.rs.take j)++t).length<=(bytes f.rs).length):
  Jw pre ⟨f.n,bytes (f.rs.take j)++t,(bytes (f.rs.take j)++t).length⟩ (b.map (λg=>⟨g.n,[],0⟩))/\Ie (pre++[⟨f.n,f.rs.take j,(f.rs.take j).length⟩]):=by
 subst hl
 have hnm:(pre.map Lf.file++⟨f.n,bytes (f.rs.take j)++t,(bytes (f.rs.take j)++t).length⟩::b.map (λg=>(⟨g.n,[],0⟩:yd))).map (·.n)=(a++f::b).map (·.n):=by
  have h1:=hb.names;simp only[He,map_cons,map_map] at h1⊢;have h2:pre.map ((λx:yd=>x.n)∘Lf.file)=pre.map (·.n):=rfl;have h3:b.map ((λx:yd=>x.n)∘λg:Lf=>(⟨g.n,[],0⟩:yd))=b.map (·.n):=rfl;rw[h2,h3,h1]
 have hmem:∀x∈pre.map Lf.file++⟨f.n,bytes (f.rs.take j)++t,(bytes (f.rs.take j)++t).length⟩::b.map (λg=>(⟨g.n,[],0⟩:yd)),∃g∈a++f::b,g.n=x.n:=by
  intro x hx;have:x.n∈(a++f::b).map (·.n):=by rw[<-hnm];exact mem_map.2 ⟨x,hx,rfl⟩
  obtain⟨g,hg,e⟩:=mem_map.1 this;exact⟨g,hg,e⟩
 have dy:Un (pre++[⟨f.n,f.rs.take j,(f.rs.take j).length⟩]) (a++[f]):=hb.append (.cons .nil);refine⟨⟨by rw[hnm];exact pairwise_map.2 ok.up,λx hx=>?_,?_,hb.full,?_,?_⟩,dy.ok (Ie.ini (post:=b) (by simpa using ok))⟩
 .obtain⟨g,hg,e⟩:=hmem x hx;rw[<-e];exact⟨ok.lo g hg,ok.hi g hg⟩
 .exact hb.good λg hg=>ok.good g (mem_append_left _ hg)
 .have h1:=ok.used;have h2:=hb.used
  have h3:((b.map λg:Lf=>(⟨g.n,[],0⟩:yd)).map (·.b.length)).sum=0:=by
   clear hnm hmem dy h1 h2 ok
   induction b with
   |nil=>rfl
   |cons y z ih=>simpa using ih
  have h4:((pre.map Lf.file).map (·.b.length)).sum=(pre.map λf=>(bytes f.rs).length).sum:=by rw[map_map];rfl
  rw[Se] at h1;unfold Be.used Qn;simp only[He,map_cons,sum_append,sum_cons] at h1⊢;rw[h3,h4];omega
 .have h1:=ok.len;have h2:=hb.len;simp only[Eb,Ib,bf] at h1⊢;omega
def Ee(l:List Lf)(n:Int):Bool:=decide (0<=n/\n<=2048/\l.length<63/\((dk l).used:Int)<1048576 - n*512)
def jN{l:List Lf}(ok:Ie l){d:Nat}{h:Hp}(hd:Od (dk l) d h){w:Nat}{seg Ba:Int}(n:Int):
  Ct prog 126 [w,n] [zf w d seg Ba,h] (λres H'=>res= .bool (Ee l n)/\H'=[zf w d seg Ba,h]):=by
 have hu1:=ok.used;have tg:=ok.len;have zC:=Yt hd (by rw[ok.Zr];omega);rw[mq ok] at zC;have hnl:(l.map (·.n)).length=l.length:=bf _;have K0:=SM hd (by omega);refine ce func126 λg R=>?_;simp only[can];unfold Ee;by_cases h0:0<=n
 .by_cases h2:n<=2048
  .try refine run ?_
   refine ck zC ?_;rintro u _ ⟨hn,rfl,hs⟩;have hr:=hs.rs;simp only[can];by_cases h63:l.length<63
   .try refine run ?_
    refine cq K0 ?_;repeat' first|refine run ?_|refine WX.mul rfl rfl rfl (by omega) ?_
    exact Xa [zf w d seg Ba,h] rfl rfl ⟨by congr 1;rw[decide_eq_decide];omega,rfl⟩
   .try refine run ?_
    exact Xa [zf w d seg Ba,h] rfl rfl ⟨by rw[rj (by omega)],rfl⟩
  .try refine run ?_
   exact Xa [zf w d seg Ba,h] rfl rfl ⟨by rw[rj (by omega)],rfl⟩
 .try refine run ?_
  exact Xa [zf w d seg Ba,h] rfl rfl ⟨by rw[rj (by omega)],rfl⟩
end Go.Proofs.YthebagfahkebiaaGreat
namespace Go.Sl
open Go
section
variable{g:World}{P:Program}{ops:Array Oper}{Q:Exit->Act->World->Prop}{n:Nat}{rest:List Oper}{L:Fm}{H:HH}{q:Bool}
variable{d:Nat}{ty:TypeId}{pos:String}{af:Array Edge}{x y:Operand}{t t' a b:Nat}{i j:Int}
def WX.mY(hx:ev L x=some (i))(hy:ev L y=some (j))(e:i=(a:Int))(e':j=(b:Int))(hb:0<b)(ha:a<=4611686018427387904)(hd:Nat.blt d n=true)
  (k:WX q g P ops Q n rest ((d,.int .i64 ((a/b:Nat):Int))::L) H):WX q g P ops Q n (⟨some d,.binOp .quo t x y t',ty,pos,af,none⟩::rest) L H:=by
 subst e;subst e';refine WX.quo hx hy hd (by omega) ?_
 have h1:IntKind.i64.wrap ((a:Int).tdiv (b:Int))=((a/b:Nat):Int):=by
  have h2:((a:Int).tdiv (b:Int))=((a/b:Nat):Int):=rfl;have h3:a/b<=a:=Nat.div_le_self _ _;rw[h2];generalize a/b=c at h3⊢;exact IntWalk.i64_in _ (by omega)
 rw[h1];exact k
end
end Go.Sl
namespace Go.Proofs.YthebagfahkebiaaGreat
open Go Go.Sl Go.Proofs.Tryz List
variable{l:List Lf}{n:Int}{r:Rec}
structure Rb where
 x:Wa
 (sn bs:Int)
 es:List ya
def Rb.z:Rb:=⟨Wa.z,0,0,[]⟩
def Th(nd:Int)(f:Rb)(r:Rec):Rb:=
 if r.k=1 then⟨f.x,f.sn,f.bs,f.es++[r.e]⟩
 else⟨r.c,if 0<Zb (some (ff r.c)) nd then Zb (some (ff r.c)) nd else f.sn,r.base,f.es⟩
def Xh(nd:Int)(rs:List Rec):Rb:=rs.foldl (Th nd) Rb.z
def KG(nd:Int)(a b:List Rec):Xh nd (a++b)=b.foldl (Th nd) (Xh nd a):=by unfold Xh;rw[foldl_append]
def Dz(nd:Int)(a:List Rec)(r:Rec):Xh nd (a++[r])=Th nd (Xh nd a) r:=by rw[KG];rfl
def LG(nd:Int):∀(rs:List Rec) (f:Rb),(∀r∈rs,r.k=1)->rs.foldl (Th nd) f=⟨f.x,f.sn,f.bs,f.es++rs.map (·.e)⟩
 |[],f,_=>by simp
 |r::t,f,h=>by
  rw[foldl_cons,LG nd t _ λx hx=>h x (Vn _ hx)];unfold Th;rw[if_pos (h r (qf ..))];simp
def Gr(a b:List Rec)(h:∀r∈b,r.k=1):ye (a++b)=ye a++b:=by
 induction b generalizing a with
 |nil=>simp
 |cons r t ih=>
  have h1:=h r (qf ..);rw[show a++r::t=(a++[r])++t by simp,ih _ λx hx=>h x (Vn _ hx),gj,if_neg (by omega)];simp
def D2(r:Rec):Prop:=r.k=1/\ud r.e\/r.k=2/\Md r.c\/r.k=3
structure xV(l:List Lf):Prop where
 ok:Ie l
 re:∀r∈Ua l,D2 r
 loose:∀r∈(Ua l).drop (Kg l),r.k=1
 top:Kg l<=(Ua l).length
structure E2(l:List Lf)(c:CS):Prop where
 x:(Xh c.nd (ye (Ua l))).x=jc c.co
 sn:(Xh c.nd (ye (Ua l))).sn=c.sn
 bs:(Xh c.nd (ye (Ua l))).bs=c.bs
 es:(Xh c.nd (ye (Ua l))).es=c.lg
 du:(Ua l).length - Kg l<=c.lg.length - c.du.toNat
def XI(h:Ee l n=true):l.length<63/\((dk l).used:Int)<1048576 - n*512:=by
 unfold Ee at h;have:=of_decide_eq_true h;exact⟨this.2.2.1,this.2.2.2⟩
def Xe(l:List Lf):Ua (Ze l)=Ua l:=by
 unfold Ua Ze;rw[map_map];rfl
def ij(l:List Lf):Kg (Ze l)=(Ua l).length:=by
 induction l with
 |nil=>rfl
 |cons f t ih=>
  have h1:Kg (Ze (f::t))=f.rs.length+Kg (Ze t):=by unfold Kg Ze;simp[Lf.full]
  have h2:(Ua (f::t)).length=f.rs.length+(Ua t).length:=by unfold Ua;simp
  rw[h1,h2,ih]
def DF(ok:Ie l)(hn:1<=n)(hrm:Ee l n=true)(aP:va l<1099511627776)(hc:r.code=0):
  (Db l r).2=0/\Ua (Db l r).1=Ua l++[r]/\Kg (Db l r).1=Kg l/\va (Db l r).1<=va l+1:=by
 obtain⟨h1,h2⟩:=XI hrm;have hle:=(Rec.good hc).Jh;unfold Db;rw[if_neg (by simpa using hc)];rcases eq_nil_or_concat l with rfl|⟨pre,f,rfl⟩
 .exact⟨rfl,rfl,rfl,show(0:Int)<=0+1 by decide⟩
 .rw[concat_eq_append] at aP h1 h2⊢;simp only[List.getLast?_concat,dropLast_concat];rw[Nb] at aP⊢;have hk:Kg (pre++[f])=Kg pre+f.k:=by unfold Kg;simp
  by_cases h4:4096<=(bytes f.rs).length
  .rw[if_pos h4,if_neg (by omega)];refine⟨rfl,by rw[Ci,Ik],?_,?_⟩
   .unfold Kg;simp
   .rw[Nb];exact Int.le_refl _
  .rw[if_neg h4,if_neg (by omega)];refine⟨rfl,by rw[Ci,Ci,Ik,Ik,Sc],?_,?_⟩
   .unfold Kg;simp
   .rw[Nb];show f.n<=f.n+1;omega
def MG:Pp l [r]=Db l r:=by
 unfold Pp;split
 .rfl
 .rename_i h;unfold Pp;exact Prod.ext rfl (by simpa using Eq.symm (Classical.not_not.1 h))
def Fv(ok:Ie l)(hrm:Ee l 2=true)(aP:va l+1<1099511627776)(hlo:0<=va l):Tj l=([⟨va l+1,[Qc],1⟩],0):=by
 obtain⟨h1,h2⟩:=XI hrm;have hle:=(Rec.good Yh).Jh
 have he:(dk l).Tg (va l+1) Qc.fr.length=0:=by
  unfold Be.Tg;have h3:=ok.Zr;rw[if_neg (by omega),if_neg (by rw[h3];omega)]
 unfold Tj;rw[if_neg (by simpa using he)]
variable{hv:Hp}
def CG(s:CS)(b:Nat){v:Value}(hs:Rs s.lg v hv):Ct prog 145 [b] [ja b s v] (λr H'=>r= .int .i64 s.len/\H'=[ja b s v]):=by
 obtain⟨p,c,rfl⟩:=hs.len;refine ng func145 λg R=>?_;exact Wi [ja b s _]
def Bm(s:CS)(b:Nat)(v:Value):Ct prog 26 [b] [ja b s v] (λr H'=>r= .int .i64 s.du/\H'=[ja b s v]):=by
 refine ng func26 λg R=>?_;exact Wi [ja b s v]
def Gg(s:CS)(b:Nat)(v:Value):Ct prog 27 [b] [ja b s v] (λr H'=>r= .int .i64 s.st/\H'=[ja b s v]):=by
 refine ng func27 λg R=>?_;exact Wi [ja b s v]
def kI(s:CS)(b:Nat)(v:Value):Ct prog 130 [b] [ja b s v] (λr H'=>r= .int .i64 s.bs/\H'=[ja b s v]):=by
 refine ng func130 λg R=>?_;exact Wi [ja b s v]
def Sg(s:CS)(b:Nat)(v:Value):Ct prog 25 [b] [ja b s v] (λr H'=>r= .int .i64 (jc s.co).ep/\H'=[ja b s v]):=by
 refine ng func25 λg R=>?_;exact Wi [ja b s v]
def eo(s:CS)(b:Nat)(v:Value):Ct prog 29 [b] [ja b s v] (λr H'=>r= .agg (List.toArray (jc s.co).enc)/\H'=[ja b s v]):=by
 refine ce func29 λg R=>?_;repeat' first|refine Za ?_|refine al λ_=>?_|refine Xf (s.cells v) (jc s.co).enc ?_|refine xg Wa.z.enc (jc s.co).enc ?_
 exact D.Gc [ja b s v] _ rfl (.Va rfl rfl .nil) ⟨rfl,rfl⟩
def wv{xs:List ya}{v:Value}{h:Hp}(hs:Rs xs v h)(hl:xs.length<=1000000):
  Ct prog 113 [v] [h] (λr H'=>∃h',ia 49 xs r h'/\H'=[h',h]):=by
 obtain⟨p,c,rfl⟩:=hs.len;refine ce func113 λg R=>?_;simp only[can]
 cases p with
 |none=>
  have hx:xs=[]:=by
   obtain⟨a,c',e,_,f⟩:=hs;cases e
   cases xs with
   |nil=>rfl
   |cons y r=>obtain⟨b,off,e,_⟩:=f 0 y rfl;cases e
  subst hx;repeat' first|refine run ?_|refine WX.uO rfl rfl rfl ?_
  exact Xa [[],h] rfl rfl ⟨_,ia.nil _,rfl⟩
 |some a=>
  repeat' first|refine run ?_|refine WX.uO rfl rfl rfl ?_
  refine WX.lit (ys:=([]:List ya)) (vs:=[]) rfl rfl rfl rfl rfl rfl (by decide) rfl (λv1 h1 hs1=>?_);try refine run ?_
  refine Jt (zb:=by simp only[td];omega) hs1 hs (λv2 h2 Sa=>?_);rw[nil_append] at Sa;try refine run ?_
  exact Xa [h2,h] rfl rfl ⟨_,Sa,rfl⟩
def Fq(s:CS)(b:Nat){v:Value}(hs:Rs s.lg v hv)(hl:s.lg.length<=1000000):Ct prog 36 [b] [ja b s v,hv] (λr H'=>∃h',ia 49 s.lg r h'/\H'=[h',ja b s v,hv]):=by
 refine ng func36 λg R=>?_;refine ck (wv hs hl) ?_;rintro _ _ ⟨h1,hs1,rfl⟩;refine Za ?_;exact Xa [h1,ja b s v,hv] rfl rfl ⟨h1,hs1,rfl⟩
def XK(s:CS)(b:Nat){v:Value}(hs:Rs s.lg v hv)(hl:s.lg.length<=1000000)(i:Int)(hi: -4611686018427387904<=i/\i<=4611686018427387904):Ct prog 163 [b,i] [ja b s v,hv]
   (λr H'=>r= .tuple #[.agg (List.toArray (if 1<=i/\i<=s.len then s.lg.getD (i.toNat - 1) ya.z else ya.z).enc),.bool (decide (1<=i/\i<=s.len))]/\H'=[ja b s v,hv]):=by
 have hlen:s.len=(s.lg.length:Int):=rfl;refine ce func163 λg R=>?_;simp only[can];by_cases h1:1<=i
 .by_cases h2:i<=s.len
  .obtain⟨x,hx⟩:∃x,s.lg[(i - 1).toNat]? =some x:=⟨_,Wg (by omega)⟩
   have e1:(if 1<=i/\i<=s.len then s.lg.getD (i.toNat - 1) ya.z else ya.z)=x:=by
    rw[if_pos ⟨h1,h2⟩,getD_eq_getElem?_getD,show i.toNat - 1=(i - 1).toNat by omega,hx];rfl
   rw[e1,Mi (⟨h1,h2⟩:1<=i/\i<=s.len)];repeat' first|refine ga ?_|refine al λ_=>?_|refine Vx hs hx ?_|refine xg ya.z.enc x.enc ?_
   exact D.Bg [ja b s v,hv] _ rfl (.Va rfl rfl (.tmp rfl .nil)) rfl ⟨rfl,rfl⟩
  .rw[if_neg (λh=>h2 h.2),rj (λh=>h2 h.2)];repeat' first|refine ga ?_|refine al λ_=>?_|refine jf (t:=49) ya.z.enc ?_|refine xg ya.z.enc ya.z.enc ?_
   exact D.Bg [ja b s v,hv] _ rfl (.Va rfl rfl (.tmp rfl .nil)) rfl ⟨rfl,rfl⟩
 .rw[if_neg (λh=>h1 h.1),rj (λh=>h1 h.1)];repeat' first|refine ga ?_|refine al λ_=>?_|refine jf (t:=49) ya.z.enc ?_|refine xg ya.z.enc ya.z.enc ?_
  exact D.Bg [ja b s v,hv] _ rfl (.Va rfl rfl (.tmp rfl .nil)) rfl ⟨rfl,rfl⟩
def vO{s:CS}(ok:Ob s)(b:Nat)(v:Value)(fr ep du st:Int):
  Ct prog 65 [b,fr,ep,du,st] [ja b s v] (λr H'=>r= .bool (s.heard fr ep du st).1/\H'=[ja b (s.heard fr ep du st).2 v]):=by
 have Bt:=gv ok.co s.nd;have YK:=cI ok.co fr;by_cases hT:ep=(jc s.co).ep/\0<=fr/\fr=Vc s.co s.nd
 .have e0:s.heard fr ep du st=(true,(s.Pb fr (mn du s.du) (mn st s.du)).settle):=if_pos hT;rw[e0];obtain⟨t1,t2,t3⟩:=hT;generalize Vc s.co s.nd=bh at Bt t3;refine ng func65 λg R=>?_
  cases hf:sk s.co fr with
  |true=>
   rw[hf] at YK;have e1:s.Pb fr (mn du s.du) (mn st s.du)={s with ak:=mx s.ak (mn du s.du),st:=mx s.st (mn st s.du)}:=if_pos hf;rw[e1];refine wq ?_;repeat' first|refine ga ?_|refine Xf (t:=40) (s.cells v) (jc s.co).enc ?_|refine cq Bt ?_
   refine sj ?_;refine ei (s.cells v) (CS.cells {s with ak:=mx s.ak (mn du s.du)} v) ?_;repeat' first|refine ga ?_|refine Xf (t:=40) (CS.cells {s with ak:=mx s.ak (mn du s.du)} v) (jc s.co).enc ?_|refine cq YK ?_
   refine ei (CS.cells {s with ak:=mx s.ak (mn du s.du)} v) (CS.cells {s with ak:=mx s.ak (mn du s.du),st:=mx s.st (mn st s.du)} v) ?_;try refine ga ?_
   refine ck (Ve (s:={s with ak:=mx s.ak (mn du s.du),st:=mx s.st (mn st s.du)}) ok.co b v) ?_;rintro _ _ ⟨rfl,rfl⟩;refine Za ?_
   exact Wi [ja b (CS.settle ({s with ak:=mx s.ak (mn du s.du),st:=mx s.st (mn st s.du)})) v]
  |false=>
   rw[hf] at YK
   cases hsu:s.su with
   |true=>
    have e1:s.Pb fr (mn du s.du) (mn st s.du)={s with ak:=mx s.ak (mn du s.du),su:=true,st:=mx (mx s.st s.bs) (mn du s.du)}:=by unfold CS.Pb;rw[if_neg (by rw[hf];decide),if_pos (.inl hsu)]
    rw[e1];clear e0 e1;refine wq ?_;repeat' first|refine ga ?_|refine Xf (t:=40) (s.cells v) (jc s.co).enc ?_|refine cq Bt ?_
    refine sj ?_;refine ei (s.cells v) (CS.cells {s with ak:=mx s.ak (mn du s.du)} v) ?_;repeat' first|refine ga ?_|refine Xf (t:=40) (CS.cells {s with ak:=mx s.ak (mn du s.du)} v) (jc s.co).enc ?_|refine cq YK ?_
    refine WX.as 77 (.bool true) rfl (by rw[hsu]) ?_;try refine ga ?_
    refine ei (CS.cells {s with ak:=mx s.ak (mn du s.du)} v) (CS.cells {s with ak:=mx s.ak (mn du s.du),su:=true} v) ?_;try refine ga ?_
    refine KK (ml [11]) [ja b {s with ak:=mx s.ak (mn du s.du),su:=true} v] ?_;repeat' first|refine ga ?_|refine WX.WQ rfl rfl rfl rfl ?_
    refine ei (CS.cells {s with ak:=mx s.ak (mn du s.du),su:=true} v) (CS.cells {s with ak:=mx s.ak (mn du s.du),su:=true,st:=mx (mx s.st s.bs) (mn du s.du)} v) ?_;try refine ga ?_
    refine ck (Ve (s:={s with ak:=mx s.ak (mn du s.du),su:=true,st:=mx (mx s.st s.bs) (mn du s.du)}) ok.co b v) ?_;rintro _ _ ⟨rfl,rfl⟩;refine Za ?_
    exact Wi [ja b (CS.settle ({s with ak:=mx s.ak (mn du s.du),su:=true,st:=mx (mx s.st s.bs) (mn du s.du)})) v]
   |false=>
    by_cases hw:(if s.du<du then s.du else du)>=s.ow
    .have e1:s.Pb fr (mn du s.du) (mn st s.du)={s with ak:=mx s.ak (mn du s.du),su:=true,st:=mx (mx s.st s.bs) (mn du s.du)}:=by unfold CS.Pb;rw[if_neg (by rw[hf];decide),if_pos (.inr hw)]
     rw[e1];clear e0 e1;refine wq ?_;repeat' first|refine ga ?_|refine Xf (t:=40) (s.cells v) (jc s.co).enc ?_|refine cq Bt ?_
     refine sj ?_;refine ei (s.cells v) (CS.cells {s with ak:=mx s.ak (mn du s.du)} v) ?_;repeat' first|refine ga ?_|refine Xf (t:=40) (CS.cells {s with ak:=mx s.ak (mn du s.du)} v) (jc s.co).enc ?_|refine cq YK ?_
     refine WX.as 77 (.bool false) rfl (by rw[hsu]) ?_;try refine ga ?_
     refine ei (CS.cells {s with ak:=mx s.ak (mn du s.du)} v) (CS.cells {s with ak:=mx s.ak (mn du s.du),su:=true} v) ?_;try refine ga ?_
     refine KK (ml [11]) [ja b {s with ak:=mx s.ak (mn du s.du),su:=true} v] ?_;repeat' first|refine ga ?_|refine WX.WQ rfl rfl rfl rfl ?_
     refine ei (CS.cells {s with ak:=mx s.ak (mn du s.du),su:=true} v) (CS.cells {s with ak:=mx s.ak (mn du s.du),su:=true,st:=mx (mx s.st s.bs) (mn du s.du)} v) ?_;try refine ga ?_
     refine ck (Ve (s:={s with ak:=mx s.ak (mn du s.du),su:=true,st:=mx (mx s.st s.bs) (mn du s.du)}) ok.co b v) ?_;rintro _ _ ⟨rfl,rfl⟩;refine Za ?_;exact Wi [ja b (CS.settle ({s with ak:=mx s.ak (mn du s.du),su:=true,st:=mx (mx s.st s.bs) (mn du s.du)})) v]
    .have e1:s.Pb fr (mn du s.du) (mn st s.du)={s with ak:=mx s.ak (mn du s.du)}:=by
      unfold CS.Pb;rw[if_neg (by rw[hf];decide),if_neg (λh=>h.elim (λh=>by rw[hsu] at h;cases h) hw)]
     rw[e1];clear e0 e1;refine wq ?_;repeat' first|refine ga ?_|refine Xf (t:=40) (s.cells v) (jc s.co).enc ?_|refine cq Bt ?_
     refine sj ?_;refine ei (s.cells v) (CS.cells {s with ak:=mx s.ak (mn du s.du)} v) ?_;repeat' first|refine ga ?_|refine Xf (t:=40) (CS.cells {s with ak:=mx s.ak (mn du s.du)} v) (jc s.co).enc ?_|refine cq YK ?_
     refine WX.as 77 (.bool false) rfl (by rw[hsu]) ?_;try refine ga ?_
     refine ck (Ve (s:={s with ak:=mx s.ak (mn du s.du)}) ok.co b v) ?_;rintro _ _ ⟨rfl,rfl⟩;refine Za ?_;exact Wi [ja b (CS.settle ({s with ak:=mx s.ak (mn du s.du)})) v]
 .have e0:s.heard fr ep du st=(false,s):=if_neg hT;rw[e0];clear e0;refine ng func65 λg R=>?_;refine wq ?_;by_cases t1:ep=(jc s.co).ep;rotate_left
  .try refine ga ?_
   exact Wi [ja b s v]
  by_cases t2:0<=fr;rotate_left
  .try refine ga ?_
   exact Wi [ja b s v]
  by_cases t3:fr=Vc s.co s.nd
  .exact absurd ⟨t1,t2,t3⟩ hT
  .repeat' first|refine ga ?_|refine Xf (t:=40) (s.cells v) (jc s.co).enc ?_|refine cq Bt ?_
   exact Wi [ja b s v]
def Yi{x:Wa}(h:Md x):∃c,x=c.cfg/\Ag c/\ff x=c:=⟨ff x,h.2.1.symm,h.2.2,rfl⟩
def Nw(dc rg nd:Int)(x:Wa)(sn bs:Int){es:List ya}{u:Value}{h:Hp}(hs:Rs es u h)(hl:es.length<=1000000):
  Ct prog 83 [dc,rg,nd,.agg (List.toArray x.enc),sn,bs,u] [h]
   (λr H'=>∃b v hv,r= .pointer (some ⟨b,0,none⟩)/\H'=[ja b (CS.restore dc rg nd x sn bs es) v,hv,h]/\ia 49 (CS.restore dc rg nd x sn bs es).lg v hv):=by
 have vv:(CS.restore dc rg nd x sn bs es).lg=es:=(Na (CS.pg dc rg nd x sn bs es)).2.2.2.2.2.2.1;have Hx:=Bq x;by_cases hR:Md x
 .rw[Mi hR] at Hx;obtain⟨c,Xy,xb,hch⟩:=Yi hR
  have XH:CS.restore dc rg nd x sn bs es=CS.settle ⟨dc,rg,nd,some c,sn,mx 0 (mn bs (es.length:Int)),es,(es.length:Int),0,0,(es.length:Int),false⟩:=by
   unfold CS.restore CS.pg;rw[if_pos hR,hch]
  have hO:Ni (some c):=Ni.some xb;rw[XH] at vv⊢;subst Xy;clear hch XH hR;refine ce func83 λg R=>?_;repeat' first|refine Za ?_|refine Uc λ_=>?_|refine Pg c.cfg.enc ?_|refine cq Hx ?_
  rename_i NX;refine WX.h0 [od NX (jc (some c)),h,R] ?_;refine ck (Zx dc rg nd) ?_;rintro _ _ ⟨b,rfl,rfl⟩;refine Za ?_;refine KK (ml [6,1,2,1,2,1]) [od NX (jc (some c))] ?_;repeat' first|refine ga ?_|refine Xf (jc (some c)).enc (jc (some c)).enc ?_
  refine ck (wv hs (by omega)) ?_;rintro _ _ ⟨h1,hs1,rfl⟩;obtain⟨p1,c1,e1⟩:=hs1.rs.len;subst e1;refine Za ?_;refine ZQ ((CS.new dc rg nd).cells (.slice none 0 0)) (jc (some c)).enc (CS.cells ⟨dc,rg,nd,(some c),0,0,[],0,0,0,0,false⟩ (.slice none 0 0)) rfl rfl ?_;try refine ga ?_
  refine ei (CS.cells ⟨dc,rg,nd,(some c),0,0,[],0,0,0,0,false⟩ (.slice none 0 0)) (CS.cells ⟨dc,rg,nd,(some c),sn,0,[],0,0,0,0,false⟩ (.slice none 0 0)) ?_;try refine ga ?_
  refine ei (CS.cells ⟨dc,rg,nd,(some c),sn,0,[],0,0,0,0,false⟩ (.slice none 0 0)) (CS.cells ⟨dc,rg,nd,(some c),sn,0,es,0,0,0,0,false⟩ (.slice p1 es.length c1)) ?_;try refine ga ?_
  refine ei (CS.cells ⟨dc,rg,nd,(some c),sn,0,es,0,0,0,0,false⟩ (.slice p1 es.length c1)) (CS.cells ⟨dc,rg,nd,(some c),sn,0,es,(es.length:Int),0,0,0,false⟩ (.slice p1 es.length c1)) ?_;try refine ga ?_
  refine ei (CS.cells ⟨dc,rg,nd,(some c),sn,0,es,(es.length:Int),0,0,0,false⟩ (.slice p1 es.length c1)) (CS.cells ⟨dc,rg,nd,(some c),sn,0,es,(es.length:Int),0,0,(es.length:Int),false⟩ (.slice p1 es.length c1)) ?_;try refine ga ?_
  refine ei (CS.cells ⟨dc,rg,nd,(some c),sn,0,es,(es.length:Int),0,0,(es.length:Int),false⟩ (.slice p1 es.length c1)) (CS.cells ⟨dc,rg,nd,(some c),sn,mx 0 (mn bs (es.length:Int)),es,(es.length:Int),0,0,(es.length:Int),false⟩ (.slice p1 es.length c1)) ?_;try refine ga ?_
  refine ck (Ve (s:=⟨dc,rg,nd,(some c),sn,mx 0 (mn bs (es.length:Int)),es,(es.length:Int),0,0,(es.length:Int),false⟩) hO b (.slice p1 es.length c1)) ?_;rintro _ _ ⟨rfl,rfl⟩;refine Za ?_;refine Xa [ja b (CS.settle ⟨dc,rg,nd,(some c),sn,mx 0 (mn bs (es.length:Int)),es,(es.length:Int),0,0,(es.length:Int),false⟩) (.slice p1 es.length c1),h1,h] rfl rfl ⟨b,.slice p1 es.length c1,h1,rfl,?_,?_⟩
  .rfl
  .rw[vv];exact hs1
 .rw[rj hR] at Hx
  have XH:CS.restore dc rg nd x sn bs es=CS.settle ⟨dc,rg,nd,none,sn,mx 0 (mn bs (es.length:Int)),es,(es.length:Int),0,0,(es.length:Int),false⟩:=by
   unfold CS.restore CS.pg;rw[if_neg hR]
  have hO:Ni none:=Ni.none;rw[XH] at vv⊢;clear XH;refine ce func83 λg R=>?_;repeat' first|refine Za ?_|refine Uc λ_=>?_|refine Pg x.enc ?_|refine cq Hx ?_|refine jf (t:=40) Wa.z.enc ?_|refine xg x.enc (jc none).enc ?_
  rename_i NX;refine WX.h0 [od NX (jc none),h,R] ?_;refine ck (Zx dc rg nd) ?_;rintro _ _ ⟨b,rfl,rfl⟩;refine Za ?_;refine KK (ml [6,1,2,1,2,1]) [od NX (jc none)] ?_;repeat' first|refine ga ?_|refine Xf (jc none).enc (jc none).enc ?_
  refine ck (wv hs (by omega)) ?_;rintro _ _ ⟨h1,hs1,rfl⟩;obtain⟨p1,c1,e1⟩:=hs1.rs.len;subst e1;refine Za ?_;refine ZQ ((CS.new dc rg nd).cells (.slice none 0 0)) (jc none).enc (CS.cells ⟨dc,rg,nd,none,0,0,[],0,0,0,0,false⟩ (.slice none 0 0)) rfl rfl ?_;try refine ga ?_
  refine ei (CS.cells ⟨dc,rg,nd,none,0,0,[],0,0,0,0,false⟩ (.slice none 0 0)) (CS.cells ⟨dc,rg,nd,none,sn,0,[],0,0,0,0,false⟩ (.slice none 0 0)) ?_;try refine ga ?_
  refine ei (CS.cells ⟨dc,rg,nd,none,sn,0,[],0,0,0,0,false⟩ (.slice none 0 0)) (CS.cells ⟨dc,rg,nd,none,sn,0,es,0,0,0,0,false⟩ (.slice p1 es.length c1)) ?_;try refine ga ?_
  refine ei (CS.cells ⟨dc,rg,nd,none,sn,0,es,0,0,0,0,false⟩ (.slice p1 es.length c1)) (CS.cells ⟨dc,rg,nd,none,sn,0,es,(es.length:Int),0,0,0,false⟩ (.slice p1 es.length c1)) ?_;try refine ga ?_
  refine ei (CS.cells ⟨dc,rg,nd,none,sn,0,es,(es.length:Int),0,0,0,false⟩ (.slice p1 es.length c1)) (CS.cells ⟨dc,rg,nd,none,sn,0,es,(es.length:Int),0,0,(es.length:Int),false⟩ (.slice p1 es.length c1)) ?_;try refine ga ?_
  refine ei (CS.cells ⟨dc,rg,nd,none,sn,0,es,(es.length:Int),0,0,(es.length:Int),false⟩ (.slice p1 es.length c1)) (CS.cells ⟨dc,rg,nd,none,sn,mx 0 (mn bs (es.length:Int)),es,(es.length:Int),0,0,(es.length:Int),false⟩ (.slice p1 es.length c1)) ?_;try refine ga ?_
  refine ck (Ve (s:=⟨dc,rg,nd,none,sn,mx 0 (mn bs (es.length:Int)),es,(es.length:Int),0,0,(es.length:Int),false⟩) hO b (.slice p1 es.length c1)) ?_;rintro _ _ ⟨rfl,rfl⟩;refine Za ?_;refine Xa [ja b (CS.settle ⟨dc,rg,nd,none,sn,mx 0 (mn bs (es.length:Int)),es,(es.length:Int),0,0,(es.length:Int),false⟩) (.slice p1 es.length c1),h1,h] rfl rfl ⟨b,.slice p1 es.length c1,h1,rfl,?_,?_⟩
  .rfl
  .rw[vv];exact hs1
def wO{s:CS}(ok:Ob s)(b:Nat){v:Value}{hv:Hp}(hs:ia 49 s.lg v hv)(x:Wa):
  Ct prog 127 [b,.agg (List.toArray x.enc)] [ja b s v,hv] (λr H'=>r= .tuple #[.bool (s.enter x).1.1,.int .i64 (s.enter x).1.2]/\Wy (s.enter x).2 b H'):=by
 have hr:=hs.rs;have Hx:=Bq x;by_cases hR:Md x;rotate_left
 .rw[rj hR] at Hx;have e0:s.enter x=((false,1),s):=if_pos hR;rw[e0];refine ce func127 λg R=>?_;repeat' first|refine Za ?_|refine Uc λ_=>?_|refine Pg x.enc ?_|refine cq Hx ?_
  exact D.Vb [ja b s v,hv] _ rfl rfl rfl ⟨rfl,v,hv,rfl,hs⟩
 rw[Mi hR] at Hx;by_cases EU:x.ep<=(jc s.co).ep
 .have e0:s.enter x=((false,80),s):=by unfold CS.enter;rw[if_neg (λh=>h hR),if_pos EU]
  rw[e0];refine ce func127 λg R=>?_;repeat' first|refine Za ?_|refine Uc λ_=>?_|refine Pg x.enc ?_|refine cq Hx ?_
  refine sj ?_;exact D.Vb [ja b s v,hv] _ rfl rfl rfl ⟨rfl,v,hv,rfl,hs⟩
 have e0:s.enter x=((s.qi x,0),(s.Tc x).settle):=by unfold CS.enter;rw[if_neg (λh=>h hR),if_neg EU]
 rw[e0];obtain⟨c,Xy,xb,hch⟩:=Yi hR;have hsi:=ov (Ni.some xb) s.nd;subst Xy;by_cases h1:Zb (some c) s.nd≠0/\Zb (some c) s.nd≠s.sn
 .have e1:s.Tc c.cfg=⟨s.dc,s.rg,s.nd,some c,Zb (some c) s.nd,0,[],0,0,0,0,true⟩:=by unfold CS.Tc;rw[hch,if_pos h1]
  have e2:s.qi c.cfg=true:=by unfold CS.qi;rw[hch];exact Mi h1
  rw[e1,e2];obtain⟨k1,k2⟩:=h1;clear e0 e1 e2 hch;generalize Zb (some c) s.nd=z at hsi k1 k2⊢;refine ce func127 λg R=>?_;repeat' first|refine Za ?_|refine Uc λ_=>?_|refine Pg c.cfg.enc ?_|refine cq Hx ?_
  rename_i b3;refine sj ?_;refine wq ?_;repeat' first|refine ga ?_|refine Pg c.cfg.enc ?_|refine cq hsi ?_
  refine ei (CS.cells s v) (CS.cells ⟨s.dc,s.rg,s.nd,s.co,s.sn,s.bs,[],s.du,s.st,s.ak,s.ow,s.su⟩ (.slice none 0 0)) ?_;try refine ga ?_
  refine ei (CS.cells ⟨s.dc,s.rg,s.nd,s.co,s.sn,s.bs,[],s.du,s.st,s.ak,s.ow,s.su⟩ (.slice none 0 0)) (CS.cells ⟨s.dc,s.rg,s.nd,s.co,s.sn,s.bs,[],s.du,0,s.ak,s.ow,s.su⟩ (.slice none 0 0)) ?_;try refine ga ?_
  refine ei (CS.cells ⟨s.dc,s.rg,s.nd,s.co,s.sn,s.bs,[],s.du,0,s.ak,s.ow,s.su⟩ (.slice none 0 0)) (CS.cells ⟨s.dc,s.rg,s.nd,s.co,z,s.bs,[],s.du,0,s.ak,s.ow,s.su⟩ (.slice none 0 0)) ?_;repeat' first|refine ga ?_|refine Pg c.cfg.enc ?_
  refine ZQ (CS.cells ⟨s.dc,s.rg,s.nd,s.co,z,s.bs,([]:List ya),s.du,0,s.ak,s.ow,s.su⟩ (.slice none 0 0)) c.cfg.enc (CS.cells ⟨s.dc,s.rg,s.nd,some c,z,s.bs,([]:List ya),s.du,0,s.ak,s.ow,s.su⟩ (.slice none 0 0)) rfl rfl ?_;try refine ga ?_
  have hc1:∀(g:World) w,Cf g (λi:Int=>[ja b ⟨s.dc,s.rg,s.nd,some c,z,s.bs,([]:List ya),i,0,s.ak,s.ow,s.su⟩ (.slice none 0 0)]) w->w.cell? ⟨b,0+18,none⟩=some (.slice none 0 0):=λg w hw=>by
   obtain⟨i,h⟩:=hw;have h1:=h.2.2 b _ (qf ..);rw[yg h1];rfl
  refine W.h0 [od b3 c.cfg,ja b ⟨s.dc,s.rg,s.nd,some c,z,s.bs,([]:List ya),s.du,0,s.ak,s.ow,s.su⟩ (.slice none 0 0),hv,R] ?_;refine W.aV (List.replicate 14 true++[false]) (Cf g (λi:Int=>[ja b ⟨s.dc,s.rg,s.nd,some c,z,s.bs,([]:List ya),i,0,s.ak,s.ow,s.su⟩ (.slice none 0 0)])) (λw h=>Cf.of s.du h) Tryz.mix (by kernel_rfl) ?_;repeat' first|refine ga ?_|refine WN.load rfl (hc1 g) rfl ?_|refine WN.P5 (λ_ h=>Cf.Q5 h) ?_|refine WN.OM ?_|refine WN.an ?_
  refine ei (CS.cells ⟨s.dc,s.rg,s.nd,some c,z,s.bs,([]:List ya),s.du,0,s.ak,s.ow,s.su⟩ (.slice none 0 0)) (CS.cells ⟨s.dc,s.rg,s.nd,some c,z,s.bs,([]:List ya),(0:Int),0,s.ak,s.ow,s.su⟩ (.slice none 0 0)) ?_;try refine ga ?_
  refine WN.back (λw h=>Cf.of (0:Int) h) ?_;repeat' first|refine ga ?_|refine WN.nil ?_
  refine ei (CS.cells ⟨s.dc,s.rg,s.nd,some c,z,s.bs,([]:List ya),(0:Int),0,s.ak,s.ow,s.su⟩ (.slice none 0 0)) (CS.cells ⟨s.dc,s.rg,s.nd,some c,z,(0:Int),([]:List ya),(0:Int),0,s.ak,s.ow,s.su⟩ (.slice none 0 0)) ?_;try refine ga ?_
  refine ei (CS.cells ⟨s.dc,s.rg,s.nd,some c,z,(0:Int),([]:List ya),(0:Int),0,s.ak,s.ow,s.su⟩ (.slice none 0 0)) (CS.cells ⟨s.dc,s.rg,s.nd,some c,z,(0:Int),([]:List ya),(0:Int),0,0,s.ow,s.su⟩ (.slice none 0 0)) ?_;try refine ga ?_
  refine ei (CS.cells ⟨s.dc,s.rg,s.nd,some c,z,(0:Int),([]:List ya),(0:Int),0,0,s.ow,s.su⟩ (.slice none 0 0)) (CS.cells ⟨s.dc,s.rg,s.nd,some c,z,(0:Int),([]:List ya),(0:Int),0,0,0,s.su⟩ (.slice none 0 0)) ?_;try refine ga ?_
  refine ei (CS.cells ⟨s.dc,s.rg,s.nd,some c,z,(0:Int),([]:List ya),(0:Int),0,0,0,s.su⟩ (.slice none 0 0)) (CS.cells ⟨s.dc,s.rg,s.nd,some c,z,(0:Int),([]:List ya),(0:Int),0,0,0,true⟩ (.slice none 0 0)) ?_;try refine ga ?_
  refine ck (Ve (s:=⟨s.dc,s.rg,s.nd,some c,z,(0:Int),([]:List ya),(0:Int),0,0,0,true⟩) (Ni.some xb) b (.slice none 0 0)) ?_;rintro _ _ ⟨rfl,rfl⟩;refine Za ?_;refine D.Pe ?_;exact D.Vb [ja b (CS.settle ⟨s.dc,s.rg,s.nd,some c,z,0,[],0,0,0,0,true⟩) (.slice none 0 0),[]] _ rfl rfl rfl ⟨rfl,_,[],rfl,by rw[(Na _).2.2.2.2.2.2.1];exact ia.nil _⟩
 .have e1:s.Tc c.cfg=⟨s.dc,s.rg,s.nd,some c,s.sn,s.len,s.lg,s.len,s.st,0,0,true⟩:=by unfold CS.Tc;rw[hch,if_neg h1]
  have e2:s.qi c.cfg=false:=by unfold CS.qi;rw[hch];exact rj h1
  rw[e1,e2];clear e0 e1 e2 hch;generalize Zb (some c) s.nd=z at hsi h1;refine ce func127 λg R=>?_;repeat' first|refine Za ?_|refine Uc λ_=>?_|refine Pg c.cfg.enc ?_|refine cq Hx ?_
  rename_i b3;refine sj ?_;refine wq ?_;by_cases k1:z≠0
  .have k2:z=s.sn:=Classical.byContradiction λh=>h1 ⟨k1,h⟩;repeat' first|refine ga ?_|refine Pg c.cfg.enc ?_|refine cq hsi ?_
   refine ZQ (CS.cells ⟨s.dc,s.rg,s.nd,s.co,s.sn,s.bs,s.lg,s.du,s.st,s.ak,s.ow,s.su⟩ v) c.cfg.enc (CS.cells ⟨s.dc,s.rg,s.nd,some c,s.sn,s.bs,s.lg,s.du,s.st,s.ak,s.ow,s.su⟩ v) rfl rfl ?_;try refine ga ?_
   have hc1:∀(g:World) w,Cf g (λi:Int=>[ja b ⟨s.dc,s.rg,s.nd,some c,s.sn,s.bs,s.lg,i,s.st,s.ak,s.ow,s.su⟩ v]) w->w.cell? ⟨b,0+18,none⟩=some v:=λg w hw=>by
    obtain⟨i,h⟩:=hw;have h1:=h.2.2 b _ (qf ..);rw[yg h1];rfl
   refine W.h0 [od b3 c.cfg,ja b ⟨s.dc,s.rg,s.nd,some c,s.sn,s.bs,s.lg,s.du,s.st,s.ak,s.ow,s.su⟩ v,hv,R] ?_;refine W.aV (List.replicate 14 true++[false]) (Cf g (λi:Int=>[ja b ⟨s.dc,s.rg,s.nd,some c,s.sn,s.bs,s.lg,i,s.st,s.ak,s.ow,s.su⟩ v])) (λw h=>Cf.of s.du h) Tryz.mix (by kernel_rfl) ?_;repeat' first|refine ga ?_|refine WN.load rfl (hc1 g) rfl ?_|refine WN.P5 (λ_ h=>Cf.Q5 h) ?_|refine WN.OM ?_|refine WN.an ?_
   refine ei (CS.cells ⟨s.dc,s.rg,s.nd,some c,s.sn,s.bs,s.lg,s.du,s.st,s.ak,s.ow,s.su⟩ v) (CS.cells ⟨s.dc,s.rg,s.nd,some c,s.sn,s.bs,s.lg,(s.len:Int),s.st,s.ak,s.ow,s.su⟩ v) ?_;try refine ga ?_
   refine WN.back (λw h=>Cf.of (s.len:Int) h) ?_;repeat' first|refine ga ?_|refine WN.nil ?_
   refine ei (CS.cells ⟨s.dc,s.rg,s.nd,some c,s.sn,s.bs,s.lg,(s.len:Int),s.st,s.ak,s.ow,s.su⟩ v) (CS.cells ⟨s.dc,s.rg,s.nd,some c,s.sn,(s.len:Int),s.lg,(s.len:Int),s.st,s.ak,s.ow,s.su⟩ v) ?_;try refine ga ?_
   refine ei (CS.cells ⟨s.dc,s.rg,s.nd,some c,s.sn,(s.len:Int),s.lg,(s.len:Int),s.st,s.ak,s.ow,s.su⟩ v) (CS.cells ⟨s.dc,s.rg,s.nd,some c,s.sn,(s.len:Int),s.lg,(s.len:Int),s.st,0,s.ow,s.su⟩ v) ?_;try refine ga ?_
   refine ei (CS.cells ⟨s.dc,s.rg,s.nd,some c,s.sn,(s.len:Int),s.lg,(s.len:Int),s.st,0,s.ow,s.su⟩ v) (CS.cells ⟨s.dc,s.rg,s.nd,some c,s.sn,(s.len:Int),s.lg,(s.len:Int),s.st,0,0,s.su⟩ v) ?_;try refine ga ?_
   refine ei (CS.cells ⟨s.dc,s.rg,s.nd,some c,s.sn,(s.len:Int),s.lg,(s.len:Int),s.st,0,0,s.su⟩ v) (CS.cells ⟨s.dc,s.rg,s.nd,some c,s.sn,(s.len:Int),s.lg,(s.len:Int),s.st,0,0,true⟩ v) ?_;try refine ga ?_
   refine ck (Ve (s:=⟨s.dc,s.rg,s.nd,some c,s.sn,(s.len:Int),s.lg,(s.len:Int),s.st,0,0,true⟩) (Ni.some xb) b v) ?_;rintro _ _ ⟨rfl,rfl⟩;refine Za ?_;exact D.Vb [ja b (CS.settle ⟨s.dc,s.rg,s.nd,some c,s.sn,s.len,s.lg,s.len,s.st,0,0,true⟩) v,hv] _ rfl rfl rfl ⟨rfl,v,hv,rfl,by rw[(Na _).2.2.2.2.2.2.1];exact hs⟩
  .have k2:z=0:=Classical.not_not.1 k1;repeat' first|refine ga ?_|refine Pg c.cfg.enc ?_|refine cq hsi ?_
   refine ZQ (CS.cells ⟨s.dc,s.rg,s.nd,s.co,s.sn,s.bs,s.lg,s.du,s.st,s.ak,s.ow,s.su⟩ v) c.cfg.enc (CS.cells ⟨s.dc,s.rg,s.nd,some c,s.sn,s.bs,s.lg,s.du,s.st,s.ak,s.ow,s.su⟩ v) rfl rfl ?_;try refine ga ?_
   have hc1:∀(g:World) w,Cf g (λi:Int=>[ja b ⟨s.dc,s.rg,s.nd,some c,s.sn,s.bs,s.lg,i,s.st,s.ak,s.ow,s.su⟩ v]) w->w.cell? ⟨b,0+18,none⟩=some v:=λg w hw=>by
    obtain⟨i,h⟩:=hw;have h1:=h.2.2 b _ (qf ..);rw[yg h1];rfl
   refine W.h0 [od b3 c.cfg,ja b ⟨s.dc,s.rg,s.nd,some c,s.sn,s.bs,s.lg,s.du,s.st,s.ak,s.ow,s.su⟩ v,hv,R] ?_;refine W.aV (List.replicate 14 true++[false]) (Cf g (λi:Int=>[ja b ⟨s.dc,s.rg,s.nd,some c,s.sn,s.bs,s.lg,i,s.st,s.ak,s.ow,s.su⟩ v])) (λw h=>Cf.of s.du h) Tryz.mix (by kernel_rfl) ?_;repeat' first|refine ga ?_|refine WN.load rfl (hc1 g) rfl ?_|refine WN.P5 (λ_ h=>Cf.Q5 h) ?_|refine WN.OM ?_|refine WN.an ?_
   refine ei (CS.cells ⟨s.dc,s.rg,s.nd,some c,s.sn,s.bs,s.lg,s.du,s.st,s.ak,s.ow,s.su⟩ v) (CS.cells ⟨s.dc,s.rg,s.nd,some c,s.sn,s.bs,s.lg,(s.len:Int),s.st,s.ak,s.ow,s.su⟩ v) ?_;try refine ga ?_
   refine WN.back (λw h=>Cf.of (s.len:Int) h) ?_;repeat' first|refine ga ?_|refine WN.nil ?_
   refine ei (CS.cells ⟨s.dc,s.rg,s.nd,some c,s.sn,s.bs,s.lg,(s.len:Int),s.st,s.ak,s.ow,s.su⟩ v) (CS.cells ⟨s.dc,s.rg,s.nd,some c,s.sn,(s.len:Int),s.lg,(s.len:Int),s.st,s.ak,s.ow,s.su⟩ v) ?_;try refine ga ?_
   refine ei (CS.cells ⟨s.dc,s.rg,s.nd,some c,s.sn,(s.len:Int),s.lg,(s.len:Int),s.st,s.ak,s.ow,s.su⟩ v) (CS.cells ⟨s.dc,s.rg,s.nd,some c,s.sn,(s.len:Int),s.lg,(s.len:Int),s.st,0,s.ow,s.su⟩ v) ?_;try refine ga ?_
   refine ei (CS.cells ⟨s.dc,s.rg,s.nd,some c,s.sn,(s.len:Int),s.lg,(s.len:Int),s.st,0,s.ow,s.su⟩ v) (CS.cells ⟨s.dc,s.rg,s.nd,some c,s.sn,(s.len:Int),s.lg,(s.len:Int),s.st,0,0,s.su⟩ v) ?_;try refine ga ?_
   refine ei (CS.cells ⟨s.dc,s.rg,s.nd,some c,s.sn,(s.len:Int),s.lg,(s.len:Int),s.st,0,0,s.su⟩ v) (CS.cells ⟨s.dc,s.rg,s.nd,some c,s.sn,(s.len:Int),s.lg,(s.len:Int),s.st,0,0,true⟩ v) ?_;try refine ga ?_
   refine ck (Ve (s:=⟨s.dc,s.rg,s.nd,some c,s.sn,(s.len:Int),s.lg,(s.len:Int),s.st,0,0,true⟩) (Ni.some xb) b v) ?_;rintro _ _ ⟨rfl,rfl⟩;refine Za ?_;exact D.Vb [ja b (CS.settle ⟨s.dc,s.rg,s.nd,some c,s.sn,s.len,s.lg,s.len,s.st,0,0,true⟩) v,hv] _ rfl rfl rfl ⟨rfl,v,hv,rfl,by rw[(Na _).2.2.2.2.2.2.1];exact hs⟩
end Go.Proofs.YthebagfahkebiaaGreat
namespace Go.Sl
open Go
section
variable{g:World}{P:Program}{ops:Array Oper}{Q:Exit->Act->World->Prop}{q:Bool}{n d ty:Nat}{pos:String}{af:Array Edge}{rest:List Oper}{L:Fm}{H:HH}{v:Value}
def WX.CE{x y:Operand}{t e len j:Nat}{i:Int}{kd:IntKind}{cs:List Value}(hx:ev L x=some (.agg cs.toArray))(hy:ev L y=some (.int kd i))(hi:i=(j:Int))[ht:TU P t (.array len e)][tl:TL P e 1 false](hj:j<len)(hc:cs[j]? =some v)(hd:Nat.blt d n=true)
  (k:WX q g P ops Q n rest ((d,v)::L) H):WX q g P ops Q n (⟨some d,.index t x y,ty,pos,af,none⟩::rest) L H:=by
 subst hi;exact WX.W0 hx hy hj hc hd k
end
end Go.Sl
namespace Go.Proofs.YthebagfahkebiaaGreat
open Go Go.Sl Go.Proofs.Tryz List
def V3.DG(v:V3){k i:Nat}(hk:k<3)(hi:i<3)(x:Int):(v.put k x).at i=if i=k then x else v.at i:=by
 rcases(by omega:k=0\/k=1\/k=2) with rfl|rfl|rfl<;>rcases(by omega:i=0\/i=1\/i=2) with rfl|rfl|rfl<;>rfl
def Zi(rg:Int){es:List ya}(h:∀e∈es,ud e){k:Nat}(hk:k<3):0<=(Bc rg es).at k/\(Bc rg es).at k<=MC:=by
 have key:∀(es:List ya) (c:V3),(∀e∈es,ud e)->(∀i,i<3->0<=c.at i/\c.at i<=MC)->∀i,i<3->0<=(es.foldl (ef rg) c).at i/\(es.foldl (ef rg) c).at i<=MC:=by
  intro es
  induction es with
  |nil=>intro c _ hc;exact hc
  |cons e t ih=>
   intro c h hc;refine ih _ (λx hx=>h x (Vn _ hx)) λi hi=>?_;have he:=h e (qf ..);unfold ef;split
   .rename_i hg;have hd:e.dc.toNat<3:=by have:=hg.2.1;have:=hg.2.2.1;omega
    rw[V3.DG _ hd hi];split
    .have h1:=hc e.dc.toNat hd;have h2:=he.sq;unfold mx;split
     .exact⟨by omega,h2.2⟩
     .exact h1
    .exact hc i hi
   .exact hc i hi
 refine key es V3.z h (λi hi=>?_) k hk;rcases(by omega:i=0\/i=1\/i=2) with rfl|rfl|rfl<;>exact⟨by decide,by decide⟩
def ZK{s:CS}(ok:Ob s)(b:Nat){v:Value}{hv:Hp}(hs:ia 49 s.lg v hv)(e:ya):
  Ct prog 226 [b,.agg (List.toArray e.enc)] [ja b s v,hv] (λr H'=>r= .int .i64 (s.Xb e).1/\Wy (s.Xb e).2 b H'):=by
 have hr:=hs.rs;have tg:=ok.len;have hlen:s.len=(s.lg.length:Int):=rfl;have hih:=jk ok.co b v;have ji:=Yx e;have je:=Sr s b hr (by omega);have ay:=Vy s b hr (by omega) e.dp;by_cases c1:s.head;rotate_left
 .have e0:s.Xb e=(90,s):=if_pos c1;rw[e0];rw[rj c1] at hih;clear ay je ji;refine ce func226 λg R=>?_;repeat' first|refine Za ?_|refine Uc λ_=>?_|refine cq hih ?_
  exact Xa [ja b s v,hv] rfl rfl ⟨rfl,v,hv,rfl,hs⟩
 rw[Mi c1] at hih;by_cases c2:ud e/\e.rg=s.rg/\ ¬e.dc=s.dc;rotate_left
 .have e0:s.Xb e=(1,s):=by
   unfold CS.Xb;rw[if_neg (λh=>h c1),if_pos];by_cases k1:ud e
   .by_cases k2:e.rg=s.rg
    .exact .inr (.inr (Classical.byContradiction λk3=>c2 ⟨k1,k2,k3⟩))
    .exact .inr (.inl k2)
   .exact .inl k1
  rw[e0];refine ce func226 λg R=>?_;repeat' first|refine Za ?_|refine Uc λ_=>?_|refine cq hih ?_
  refine wq ?_;by_cases k1:ud e
  .rw[Mi k1] at ji;by_cases k2:e.rg=s.rg
   .have k3:e.dc=s.dc:=Classical.byContradiction λk3=>c2 ⟨k1,k2,k3⟩;repeat' first|refine ga ?_|refine Xf (t:=49) e.enc e.enc ?_|refine cq ji ?_
    exact Xa [ja b s v,hv] rfl rfl ⟨rfl,v,hv,rfl,hs⟩
   .repeat' first|refine ga ?_|refine Xf (t:=49) e.enc e.enc ?_|refine cq ji ?_
    exact Xa [ja b s v,hv] rfl rfl ⟨rfl,v,hv,rfl,hs⟩
  .rw[rj k1] at ji;repeat' first|refine ga ?_|refine Xf (t:=49) e.enc e.enc ?_|refine cq ji ?_
   exact Xa [ja b s v,hv] rfl rfl ⟨rfl,v,hv,rfl,hs⟩
 obtain⟨k1,k2,k3⟩:=c2;rw[Mi k1] at ji
 have ic: ¬(¬ud e\/e.rg≠s.rg\/e.dc=s.dc):=by
  rintro(h|h|h)
  .exact h k1
  .exact h k2
  .exact k3 h
 obtain⟨j,hj⟩:∃j:Nat,e.dc=(j:Int):=⟨e.dc.toNat,by have:=k1.ch.1;omega⟩;have xO:j<3:=by have:=k1.ch.2.1;omega
 have hjn:e.dc.toNat=j:=by omega
 have Cj:=(Bc s.rg s.lg).Wd xO;have cB:=Zi s.rg ok.es xO;simp only[MC] at cB;obtain⟨y,hy⟩:∃y,(Bc s.rg s.lg).at j=y:=⟨_,rfl⟩;rw[hy] at Cj cB;by_cases c3:e.sq<=y
 .have e0:s.Xb e=(80,s):=by unfold CS.Xb;rw[if_neg (λh=>h c1),if_neg ic,hjn,hy,if_pos c3]
  rw[e0];refine ce func226 λg R=>?_;repeat' first|refine Za ?_|refine Uc λ_=>?_|refine cq hih ?_
  refine wq ?_;repeat' first|refine ga ?_|refine Xf (t:=49) e.enc e.enc ?_|refine cq ji ?_
  refine wq ?_;repeat' first|refine ga ?_|refine cq je ?_|refine WX.CE rfl rfl hj (by omega) Cj rfl ?_
  exact Xa [ja b s v,hv] rfl rfl ⟨rfl,v,hv,rfl,hs⟩
 by_cases c4:e.sq>y+1
 .have e0:s.Xb e=(91,s):=by unfold CS.Xb;rw[if_neg (λh=>h c1),if_neg ic,hjn,hy,if_neg c3,if_pos c4]
  rw[e0];refine ce func226 λg R=>?_;repeat' first|refine Za ?_|refine Uc λ_=>?_|refine cq hih ?_
  refine wq ?_;repeat' first|refine ga ?_|refine Xf (t:=49) e.enc e.enc ?_|refine cq ji ?_
  refine wq ?_;repeat' first|refine ga ?_|refine cq je ?_|refine WX.CE rfl rfl hj (by omega) Cj rfl ?_
  exact Xa [ja b s v,hv] rfl rfl ⟨rfl,v,hv,rfl,hs⟩
 by_cases c5:s.Yn e.dp;rotate_left
 .have e0:s.Xb e=(91,s):=by unfold CS.Xb;rw[if_neg (λh=>h c1),if_neg ic,hjn,hy,if_neg c3,if_neg c4,if_pos c5]
  rw[e0];rw[Mi c5] at ay;refine ce func226 λg R=>?_;repeat' first|refine Za ?_|refine Uc λ_=>?_|refine cq hih ?_
  refine wq ?_;repeat' first|refine ga ?_|refine Xf (t:=49) e.enc e.enc ?_|refine cq ji ?_
  refine wq ?_;repeat' first|refine ga ?_|refine al λ_=>?_|refine Xf (t:=47) e.enc e.dp.enc ?_|refine Xf (t:=47) e.dp.enc e.dp.enc ?_|refine cq je ?_|refine cq ay ?_|refine WX.CE rfl rfl hj (by omega) Cj rfl ?_|refine xg V9.z.enc e.dp.enc ?_
  exact Xa [ja b s v,hv] rfl rfl ⟨rfl,v,hv,rfl,hs⟩
 rw[rj (λh=>h c5)] at ay;by_cases c6:256<=s.len
 .have e0:s.Xb e=(2,s):=by unfold CS.Xb;rw[if_neg (λh=>h c1),if_neg ic,hjn,hy,if_neg c3,if_neg c4,if_neg (λh=>h c5),if_pos c6]
  rw[e0];refine ce func226 λg R=>?_;repeat' first|refine Za ?_|refine Uc λ_=>?_|refine cq hih ?_
  refine wq ?_;repeat' first|refine ga ?_|refine Xf (t:=49) e.enc e.enc ?_|refine cq ji ?_
  refine wq ?_;repeat' first|refine ga ?_|refine al λ_=>?_|refine Xf (t:=47) e.enc e.dp.enc ?_|refine Xf (t:=47) e.dp.enc e.dp.enc ?_|refine cq je ?_|refine cq ay ?_|refine WX.CE rfl rfl hj (by omega) Cj rfl ?_|refine xg V9.z.enc e.dp.enc ?_
  exact Xa [ja b s v,hv] rfl rfl ⟨rfl,v,hv,rfl,hs⟩
 have e0:s.Xb e=(0,(s.push e).settle):=by unfold CS.Xb;rw[if_neg (λh=>h c1),if_neg ic,hjn,hy,if_neg c3,if_neg c4,if_neg (λh=>h c5),if_neg c6]
 rw[e0];have ZA:=λv'=>Ve (s:=s.push e) ok.co b v';refine ce func226 λg R=>?_;repeat' first|refine Za ?_|refine Uc λ_=>?_|refine cq hih ?_
 rename_i b3;refine wq ?_;repeat' first|refine ga ?_|refine Xf (t:=49) e.enc e.enc ?_|refine cq ji ?_
 refine wq ?_;repeat' first|refine ga ?_|refine al λ_=>?_|refine Xf (t:=47) e.enc e.dp.enc ?_|refine Xf (t:=47) e.dp.enc e.dp.enc ?_|refine cq je ?_|refine cq ay ?_|refine WX.CE rfl rfl hj (by omega) Cj rfl ?_|refine xg V9.z.enc e.dp.enc ?_
 refine KK (ml [6,2]) [ja b s v,Gb b3 e] ?_;repeat' first|refine ga ?_|refine Xf (t:=49) e.enc e.enc ?_
 refine Up [e] (λv2 h2 Sa=>?_);try refine ga ?_
 refine Jt (zb:=by simp only[Ib,td];omega) hs Sa.rs (λv3 h3 Cc=>?_);obtain⟨p3,aL,e3⟩:=Cc.rs.len;subst e3;try refine ga ?_
 refine ei (s.cells v) (CS.cells (s.push e) (.slice p3 (s.lg++[e]).length aL)) ?_;try refine ga ?_
 refine ck (ZA (.slice p3 (s.lg++[e]).length aL)) ?_;rintro _ _ ⟨rfl,rfl⟩;refine Za ?_;exact Xa [ja b (s.push e).settle (.slice p3 (s.lg++[e]).length aL),h3] rfl rfl ⟨rfl,_,h3,rfl,by rw[AG];exact Cc⟩
end Go.Proofs.YthebagfahkebiaaGreat
