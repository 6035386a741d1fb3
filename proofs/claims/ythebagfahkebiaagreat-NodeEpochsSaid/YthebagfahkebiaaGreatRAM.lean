/- Texts of one road. -/
import Derived.Test.YthebagfahkebiaaGreatRAL
set_option linter.all false
set_option maxHeartbeats 8000000
set_option maxRecDepth 20000
namespace Go.Proofs.YthebagfahkebiaaGreat
open Go Go.Sl Go.Proofs.Tryz List
variable{α:Type}{lv:Value}{lh:Hp}{k d:Nat}{t:Int}{l:List α}
structure Pn where
 n:Int
 b:List UInt8
 cm:List Int
structure Gf where
 n:Int
 b:List UInt8
 cm:List Int
 blk:Nat
 pb:Option Addr
 lb:Nat
 cb:Nat
 hb:Hp
 pc:Option Addr
 lc:Nat
 cc:Nat
 hc:Hp
structure Gp where
 b:Nat
instance:Qb Gp:=⟨1,λs=>[.pointer (some ⟨s.b,0,none⟩)],λ_=>rfl,λ_=>rfl,by decide⟩
def Gf.pl(g:Gf):Pn:=⟨g.n,g.b,g.cm⟩
def Gf.gp(g:Gf):Gp:=⟨g.blk⟩
structure Gf.Ok(g:Gf):Prop where
 b:ia 5 g.b (.slice g.pb g.lb g.cb) g.hb
 c:ia 3 g.cm (.slice g.pc g.lc g.cc) g.hc
 e:g.cm.length=g.b.length
abbrev CH(blk:Nat)(n:Int)(v w:Value):Hp:=[(blk,.cells (List.toArray [n,v,w]) 267 (0,0))]
abbrev Gf.bk(g:Gf):Hp:=CH g.blk g.n (.slice g.pb g.lb g.cb) (.slice g.pc g.lc g.cc)
def Gf.hp(g:Gf):Hp:=g.bk++(g.hb++g.hc)
def qc(gs:List Gf):Hp:=(gs.map Gf.hp).flatten
abbrev we(d:Nat)(lv:Value)(t:Int):Hp:=[(d,.cells (List.toArray [lv,t]) 229 (0,0))]
structure Kr(fs:List Pn)(lv:Value)(gs:List Gf)(lh:Hp):Prop where
 ok:∀g∈gs,g.Ok
 fs:gs.map Gf.pl=fs
 sl:ia 268 (gs.map Gf.gp) lv lh
def vg(fs:List Pn)(t:Int)(d:Nat)(h:Hp):Prop:=∃lv gs lh,Kr fs lv gs lh/\h=we d lv t++(lh++qc gs)
def mb{pre post:List Gf}{g:Gf}:qc (pre++g::post)=qc pre++(g.bk++(g.hb++(g.hc++qc post))):=by simp[qc,Gf.hp]
def aK{β:Type}{f:α->β}{xs ys:List β}{x:β}(h:l.map f=xs++x::ys):∃a g b,l=a++g::b/\a.map f=xs/\f g=x/\b.map f=ys:=by
 obtain⟨a,r,rfl,h1,h2⟩:=map_eq_append_iff.1 h;obtain⟨g,b,rfl,h3,h4⟩:=map_eq_cons_iff.1 h2;exact⟨a,g,b,rfl,h1,h3,h4⟩
def Kr.at{fs xs ys:List Pn}{x:Pn}{gs:List Gf}(h:Kr fs lv gs lh)(e:fs=xs++x::ys):∃a g b,gs=a++g::b/\a.map Gf.pl=xs/\g.pl=x/\b.map Gf.pl=ys/\g.Ok/\a.length=xs.length/\(gs.map Gf.gp)[xs.length]? =some ⟨g.blk⟩/\(gs.map Gf.gp).length=fs.length:=by
 obtain⟨a,g,b,e1,e2,e3,e4⟩:=aK (h.fs.trans e);have hl:a.length=xs.length:=by rw[<-e2,bf]
 refine⟨a,g,b,e1,e2,e3,e4,h.ok g (by rw[e1];simp),hl,?_,by rw[<-h.fs,bf,bf]⟩;rw[e1,He,<-hl];rw[List.getElem?_append_right (by rw[bf];exact Nat.le_refl _),bf,Nat.sub_self];rfl
def Kr.len{fs:List Pn}{gs:List Gf}(h:Kr fs lv gs lh):(gs.map Gf.gp).length=fs.length:=by rw[<-h.fs,bf,bf]
def bK{x:α}(h:l[k]? =some x):l=l.take k++x::l.drop (k+1)/\(l.take k).length=k:=by
 obtain⟨h1,h2⟩:=List.getElem?_eq_some_iff.1 h;refine⟨?_,by rw[Oe];omega⟩
 conv=>lhs;rw[<-take_append_drop k l,drop_eq_getElem_cons h1,h2]
def Kr.nth{fs:List Pn}{x:Pn}{gs:List Gf}(h:Kr fs lv gs lh)(hx:fs[k]? =some x):∃a g b,gs=a++g::b/\g.pl=x/\g.Ok/\(gs.map Gf.gp)[k]? =some ⟨g.blk⟩:=by
 obtain⟨e,hl⟩:=bK hx;obtain⟨a,g,b,e1,-,e3,-,hok,-,Cj,-⟩:=h.at e;rw[hl] at Cj;exact⟨a,g,b,e1,e3,hok,Cj⟩
def DV:Ct prog 133 [] [] (λr H'=>∃d h',r= .pointer (some ⟨d,0,none⟩)/\H'=[h']/\vg [] 0 d h'):=by
 refine Ct.pack (pre:=[]) (post:=λr H'=>∃d,r= .pointer (some ⟨d,0,none⟩)/\H'=[we d (.slice none 0 0) 0]) ?_ rfl (λr H' ⟨d,e,f⟩=>⟨[we d (.slice none 0 0) 0++([]++qc [])],by rw[f];simp[qc],d,_,e,rfl,_,[],[],⟨by simp,rfl,ia.nil _⟩,rfl⟩);refine ce func133 λg R=>?_;repeat' first|refine rn ?_|refine Uc λ_=>?_
 rename_i d;exact Xa [we d (.slice none 0 0) 0] rfl rfl ⟨d,rfl,rfl⟩
def xw(d:Nat)(lv:Value)(t:Int)(lh:Hp)(gs:List Gf)(k:Nat)(b:Bool):Value->HH->Prop:=λr H'=>r= .tuple #[.int .i64 (k:Int),.bool b]/\H'=[we d lv t,lh,qc gs]
def cK{fs xs ys:List Pn}{x:Pn}{gs:List Gf}(hd:Kr fs lv gs lh)(e:fs=xs++x::ys)(hlt:∀y∈xs,y.n<x.n)(hl:fs.length<=1099511627776):
  Ct prog 257 [d,x.n] [we d lv t,lh,qc gs] (xw d lv t lh gs xs.length true):=by
 obtain⟨a,y0,b,e1,e2,e3,e4,hok,dK,Cj,hlen⟩:=hd.at e;have hr:=hd.sl.rs;have KQ:=hd.len;have hfl:fs.length=xs.length+(ys.length+1):=by rw[e];simp
 obtain⟨lp,lc,rfl⟩:=hr.len;refine Tk func257 λg R=>?_;refine W.lo (α:=Nat) (λk=>k<=xs.length) (λk=>[(0,d),(1,x.n),(6,.int .i64 (k:Int))]) (λ_=>[we d (.slice lp (gs.map Gf.gp).length lc) t,lh,qc gs,R]) (λk=>xs.length+1 - k) 0 (di _) ?_;intro k hk;by_cases Zt:k<xs.length
 .obtain⟨y,hy⟩:=Lh Zt;have hyn:=hlt y (mem_of_getElem? hy);obtain⟨a',g',b',fG,AT,pM,xW⟩:=hd.nth (k:=k) (x:=y) (by rw[e,List.getElem?_append_left Zt];exact hy);have hn':g'.n=y.n:=by rw[<-AT];rfl
  refine W.flat (H':=[we d (.slice lp (gs.map Gf.gp).length lc) t,lh,qc a',g'.bk,g'.hb,g'.hc,qc b',R]) (by rw[fG,mb];simp) ?_;try refine run ?_
  refine D.flat (H':=[we d (.slice lp (gs.map Gf.gp).length lc) t,lh,qc gs,R]) (by rw[fG,mb];simp) ?_;exact D.re (k+1)
 .obtain rfl:k=xs.length:=by omega
  have hn':y0.n=x.n:=by rw[<-e3];rfl
  refine W.flat (H':=[we d (.slice lp (gs.map Gf.gp).length lc) t,lh,qc a,y0.bk,y0.hb,y0.hc,qc b,R]) (by rw[e1,mb];simp) ?_;try refine run ?_
  refine wr ?_;refine D.flat (H':=[we d (.slice lp (gs.map Gf.gp).length lc) t,lh,qc gs,R]) (by rw[e1,mb];simp) ?_;exact D.Bg [we d (.slice lp (gs.map Gf.gp).length lc) t,lh,qc gs] _ rfl (.tmp rfl (.tmp rfl .nil)) rfl ⟨by rw[hn'];simp,rfl⟩
def yw{fs:List Pn}{gs:List Gf}(hd:Kr fs lv gs lh){n:Int}(hlt:∀y∈fs,y.n<n)(hl:fs.length<=1099511627776):
  Ct prog 257 [d,n] [we d lv t,lh,qc gs] (xw d lv t lh gs fs.length false):=by
 have hr:=hd.sl.rs;have KQ:=hd.len;obtain⟨lp,lc,rfl⟩:=hr.len;refine Tk func257 λg R=>?_;refine W.lo (α:=Nat) (λk=>k<=fs.length) (λk=>[(0,d),(1,n),(6,.int .i64 (k:Int))]) (λ_=>[we d (.slice lp (gs.map Gf.gp).length lc) t,lh,qc gs,R]) (λk=>fs.length+1 - k) 0 (di _) ?_;intro k hk;by_cases Zt:k<fs.length
 .obtain⟨y,hy⟩:=Lh Zt;have hyn:=hlt y (mem_of_getElem? hy);obtain⟨a',g',b',fG,AT,pM,xW⟩:=hd.nth hy;have hn':g'.n=y.n:=by rw[<-AT];rfl
  refine W.flat (H':=[we d (.slice lp (gs.map Gf.gp).length lc) t,lh,qc a',g'.bk,g'.hb,g'.hc,qc b',R]) (by rw[fG,mb];simp) ?_;try refine run ?_
  refine D.flat (H':=[we d (.slice lp (gs.map Gf.gp).length lc) t,lh,qc gs,R]) (by rw[fG,mb];simp) ?_;exact D.re (k+1)
 .obtain rfl:k=fs.length:=by omega
  try refine run ?_
  refine wr ?_;exact D.Bg [we d (.slice lp (gs.map Gf.gp).length lc) t,lh,qc gs] _ rfl (.tmp rfl (.tmp rfl .nil)) rfl ⟨rfl,rfl⟩
def fK{fs:List Pn}{gs:List Gf}(hd:Kr fs lv gs lh)(hl:fs.length<=1099511627776)(hu:(fs.map λf=>f.b.length).sum<=1099511627776):
  Ct prog 213 [d] [we d lv t,lh,qc gs] (λr H'=>r= .int .i64 (((fs.map λf=>f.b.length).sum:Nat):Int)/\H'=[we d lv t,lh,qc gs]):=by
 have hr:=hd.sl.rs;have KQ:=hd.len;obtain⟨lp,lc,rfl⟩:=hr.len;refine Tk func213 λg R=>?_;refine W.lo (α:=Nat) (λk=>k<=fs.length) (λk=>[(0,d),(3,.int .i64 ((((fs.take k).map λf=>f.b.length).sum:Nat):Int)),(4,.int .i64 (k:Int))]) (λ_=>[we d (.slice lp (gs.map Gf.gp).length lc) t,lh,qc gs,R]) (λk=>fs.length - k) 0 (di _) ?_;intro k hk;by_cases Zt:k<fs.length
 .obtain⟨y,hy⟩:=Lh Zt;obtain⟨a',g',b',fG,AT,pM,xW⟩:=hd.nth hy;have hrb:=pM.b.rs;have hbn:g'.b.length=y.b.length:=by rw[<-AT];rfl
  have Iq:((fs.take (k+1)).map λf=>f.b.length).sum=((fs.take k).map λf=>f.b.length).sum+y.b.length:=by
   rw[take_succ_eq_append_getElem Zt,(List.getElem?_eq_some_iff.1 hy).2];simp
  have hle:((fs.take (k+1)).map λf=>f.b.length).sum<=(fs.map λf=>f.b.length).sum:=by
   conv=>rhs;rw[<-take_append_drop (k+1) fs]
   rw[He,sum_append];omega
  refine W.flat (H':=[we d (.slice lp (gs.map Gf.gp).length lc) t,lh,qc a',g'.bk,g'.hb,g'.hc,qc b',R]) (by rw[fG,mb];simp) ?_;try refine run ?_
  refine D.as 3 (.int .i64 ((((fs.take (k+1)).map λf=>f.b.length).sum:Nat):Int)) rfl (by rw[Iq,hbn];congr 1) ?_;refine D.flat (H':=[we d (.slice lp (gs.map Gf.gp).length lc) t,lh,qc gs,R]) (by rw[fG,mb];simp) ?_;exact D.re (k+1)
 .obtain rfl:k=fs.length:=by omega
  rw[take_length];try refine run ?_
  exact Wi [we d (.slice lp (gs.map Gf.gp).length lc) t,lh,qc gs]
def QU(fs:List Pn):Prop:=(fs.map (·.n)).Pairwise (· < ·)
section
variable{fs:List Pn}{lv:Value}{lh:Hp}{a b:List Gf}{y0:Gf}{d:Nat}{t:Int}
def Kr.split(h:Kr fs lv (a++y0::b) lh):fs=a.map Gf.pl++y0.pl::b.map Gf.pl:=by rw[<-h.fs];simp
def Kr.lt(h:Kr fs lv (a++y0::b) lh)(qx:QU fs):∀y∈a.map Gf.pl,y.n<y0.pl.n:=by
 rw[h.split] at qx;unfold QU at qx;rw[He,map_cons,pairwise_append] at qx;exact λy hy=>qx.2.2 _ (mem_map.2 ⟨y,hy,rfl⟩) _ (qf ..)
def Kr.me(h:Kr fs lv (a++y0::b) lh):y0.Ok/\((a++y0::b).map Gf.gp)[a.length]? =some ⟨y0.blk⟩:=by
 refine⟨h.ok y0 (by simp),?_⟩;rw[He,List.getElem?_append_right (by rw[bf];exact Nat.le_refl _),bf,Nat.sub_self];rfl
def Uo(h:Kr fs lv (a++y0::b) lh)(qx:QU fs)(hl:fs.length<=1099511627776):
  Ct prog 257 [d,y0.n] [we d lv t,lh,qc a,y0.bk,y0.hb,y0.hc,qc b] (λr H'=>r= .tuple #[.int .i64 (a.length:Int),.bool true]/\H'=[we d lv t,lh,qc a,y0.bk,y0.hb,y0.hc,qc b]):=by
 have:=cK h h.split (h.lt qx) hl (d:=d) (t:=t);rw[bf] at this;exact this.pack (by rw[mb];simp) (λr H' p=>⟨_,by rw[p.2,mb];simp,p.1,rfl⟩)
def NP(h:Kr fs lv (a++y0::b) lh)(qx:QU fs)(hl:fs.length<=1099511627776){s:Nat}{ts:List Int}(hc:y0.cm=List.replicate s 0++ts)(hp:∀x∈ts,0<x)(Ah:y0.cm.length<=1099511627776):
  Ct prog 287 [d,y0.n] [we d lv t,lh,qc a,y0.bk,y0.hb,y0.hc,qc b] (λr H'=>r= .int .i64 (s:Int)/\H'=[we d lv t,lh,qc a,y0.bk,y0.hb,y0.hc,qc b]):=by
 obtain⟨hok,Cj⟩:=h.me;have hr:=h.sl.rs;have hrc:=hok.c.rs;have KQ:=h.len;have S8:y0.cm.length=s+ts.length:=by rw[hc];simp
 obtain⟨lp,lc,rfl⟩:=hr.len;refine Tk func287 λg R=>?_;refine cq (Uo (t:=t) h qx hl) ?_;try refine run ?_
 refine W.lo (α:=Nat) (λk=>k<=s) (λk=>[(0,d),(5,.int .i64 (a.length:Int)),(6,.bool true),(7,.int .i64 (k:Int))]) (λ_=>[we d (.slice lp ((a++y0::b).map Gf.gp).length lc) t,lh,qc a,y0.bk,y0.hb,y0.hc,qc b,R]) (λk=>s+1 - k) 0 (di _) ?_;intro k hk;by_cases hks:k<s
 .have hx:y0.cm[k]? =some 0:=by rw[hc,List.getElem?_append_left (by simpa using hks)];simp[hks]
  try refine run ?_
  exact D.re (k+1)
 .obtain rfl:k=s:=by omega
  cases ts with
  |nil=>
   have SX:y0.cm.length=k:=by rw[S8];rfl
   try refine run ?_
   exact Wi [we d (.slice lp ((a++y0::b).map Gf.gp).length lc) t,lh,qc a,y0.bk,y0.hb,y0.hc,qc b]
  |cons x r=>
   have hx:y0.cm[k]? =some x:=by rw[hc,List.getElem?_append_right (by simp)];simp
   have hx0:=hp x (qf ..);have SX:k<y0.cm.length:=(List.getElem?_eq_some_iff.1 hx).1;try refine run ?_
   exact Wi [we d (.slice lp ((a++y0::b).map Gf.gp).length lc) t,lh,qc a,y0.bk,y0.hb,y0.hc,qc b]
def yW(h:Kr fs lv (a++y0::b) lh)(qx:QU fs)(hl:fs.length<=1099511627776):
  Ct prog 267 [d,y0.n] [we d lv t,lh,qc a,y0.bk,y0.hb,y0.hc,qc b] (λr H'=>r= .int .i64 (y0.b.length:Int)/\H'=[we d lv t,lh,qc a,y0.bk,y0.hb,y0.hc,qc b]):=by
 obtain⟨hok,Cj⟩:=h.me;have hr:=h.sl.rs;have hrb:=hok.b.rs;refine Tk func267 λg R=>?_;refine cq (Uo (t:=t) h qx hl) ?_;try refine run ?_
 exact Wi [we d lv t,lh,qc a,y0.bk,y0.hb,y0.hc,qc b]
def zW(h:Kr fs lv (a++y0::b) lh)(qx:QU fs)(hl:fs.length<=1099511627776):
  Ct prog 209 [d,y0.n] [we d lv t,lh,qc a,y0.bk,y0.hb,y0.hc,qc b] (λr H'=>r= .tuple #[.slice y0.pb y0.lb y0.cb,.int .i64 0]/\H'=[we d lv t,lh,qc a,y0.bk,y0.hb,y0.hc,qc b]):=by
 obtain⟨hok,Cj⟩:=h.me;have hr:=h.sl.rs;have hrb:=hok.b.rs;refine Tk func209 λg R=>?_;refine cq (Uo (t:=t) h qx hl) ?_;try refine run ?_
 exact D.Vb [we d lv t,lh,qc a,y0.bk,y0.hb,y0.hc,qc b] _ rfl rfl rfl ⟨rfl,rfl⟩
end
section
variable{fs:List Pn}{t:Int}{d:Nat}{h:Hp}
def vg.at{x:Pn}{k:Nat}(hd:vg fs t d h)(hx:fs[k]? =some x):∃lv a y0 b lh,Kr fs lv (a++y0::b) lh/\y0.pl=x/\h.Perm h/\h=[we d lv t,lh,qc a,y0.bk,y0.hb,y0.hc,qc b].flatten:=by
 obtain⟨lv,gs,lh,h3,rfl⟩:=hd;obtain⟨a,y0,b,rfl,e,-,-⟩:=h3.nth hx;exact⟨lv,a,y0,b,lh,h3,e,.refl _,by rw[mb];simp⟩
def BT(hd:vg fs t d h)(qx:QU fs)(hl:fs.length<=1099511627776){x:Pn}{k:Nat}(hx:fs[k]? =some x):
  Ct prog 267 [d,x.n] [h] (λr H'=>r= .int .i64 (x.b.length:Int)/\H'=[h]):=by
 obtain⟨lv,a,y0,b,lh,h3,rfl,-,rfl⟩:=hd.at hx;exact(yW (t:=t) h3 qx hl).pack (by simp) (λr H' p=>⟨_,by rw[p.2];simp,p.1,rfl⟩)
def gK(hd:vg fs t d h)(qx:QU fs)(hl:fs.length<=1099511627776){x:Pn}{k:Nat}(hx:fs[k]? =some x):
  Ct prog 209 [d,x.n] [h] (λr H'=>∃u,r= .tuple #[u,.int .i64 0]/\H'=[h]/\Rs x.b u h):=by
 obtain⟨lv,a,y0,b,lh,h3,rfl,-,rfl⟩:=hd.at hx;refine(zW (t:=t) h3 qx hl).pack (by simp) (λr H' p=>⟨_,by rw[p.2];simp,_,p.1,rfl,?_⟩);have:=h3.me.1.b.rs;refine this.mono λ_ w ho=>?_;simp only[flatten_cons,flatten_nil] at ho;exact ho.right.right.right.right.left
end
structure Ub where
 n:Int
 b:List UInt8
 s:Nat
 ts:List Int
def Ub.pl(q:Ub):Pn:=⟨q.n,q.b,List.replicate q.s 0++q.ts⟩
structure Ub.Ok(q:Ub):Prop where
 e:q.s+q.ts.length=q.b.length
 p:∀x∈q.ts,0<x
structure Ts(qs:List Ub):Prop where
 up:(qs.map (·.n)).Pairwise (· < ·)
 ok:∀q∈qs,q.Ok
 used:(qs.map λq=>q.b.length).sum<=1048576
 len:qs.length<=64
def Ts.qx{qs:List Ub}(h:Ts qs):QU (qs.map Ub.pl):=by
 unfold QU;rw[map_map];exact h.up
def Ts.bl{qs:List Ub}(h:Ts qs){q:Ub}(hq:q∈qs):q.b.length<=1048576:=by
 have:=Vo (mem_map.2 ⟨q,hq,rfl⟩:q.b.length∈qs.map λq=>q.b.length);have:=h.used;omega
def Ub.X3{q:Ub}(h:q.Ok):q.pl.cm.length=q.b.length:=by
 show(List.replicate q.s (0:Int)++q.ts).length=_;rw[Eb,length_replicate];exact h.e
def rq{qs:List Ub}{k:Nat}{q:Ub}(h:qs[k]? =some q):(qs.map Ub.pl)[k]? =some q.pl:=by rw[List.getElem?_map,h];rfl
def Qq{fs:List Pn}{t:Int}{d:Nat}{h:Hp}(hd:vg fs t d h)(hl:fs.length<=1099511627776):
  Ct prog 208 [d] [h] (λr H'=>∃hn,H'=[h,hn]/\ia 3 (fs.map (·.n)) r hn):=by
 obtain⟨lv,gs,lh,hd,rfl⟩:=hd;have hr:=hd.sl.rs;have KQ:=hd.len;obtain⟨lp,lc,rfl⟩:=hr.len;refine Ct.pack (pre:=[we d (.slice lp (gs.map Gf.gp).length lc) t,lh,qc gs]) (post:=λr H'=>∃hn,H'=[we d (.slice lp (gs.map Gf.gp).length lc) t,lh,qc gs,hn]/\ia 3 (fs.map (·.n)) r hn) ?_ (by simp) (λr H' ⟨hn,e,p⟩=>⟨[we d (.slice lp (gs.map Gf.gp).length lc) t++(lh++qc gs),hn],by rw[e];simp,hn,rfl,p⟩);refine Tk func208 λg R=>?_;refine W.Pe ?_;refine W.lo (α:=Nat×Value×Hp) (λx=>x.1<=fs.length/\ia 3 ((fs.take x.1).map (·.n)) x.2.1 x.2.2) (λx=>[(0,d),(3,x.2.1),(4,.int .i64 (x.1:Int))]) (λx=>[x.2.2,we d (.slice lp (gs.map Gf.gp).length lc) t,lh,qc gs,R]) (λx=>fs.length - x.1) (0,.slice none 0 0,[]) ⟨di _,ia.nil _⟩ ?_;rintro⟨k,u,hu⟩ ⟨hk,hsu⟩;simp only[] at hk hsu⊢;by_cases Zt:k<fs.length
 .obtain⟨y,hy⟩:=Lh Zt;obtain⟨a',g',b',fG,AT,pM,xW⟩:=hd.nth hy;have VA:g'.n=y.n:=by rw[<-AT];rfl
  have Iq:(fs.take (k+1)).map (·.n)=(fs.take k).map (·.n)++[g'.n]:=by
   rw[take_succ_eq_append_getElem Zt,(List.getElem?_eq_some_iff.1 hy).2,He,VA];rfl
  refine W.flat (H':=[hu,we d (.slice lp (gs.map Gf.gp).length lc) t,lh,qc a',g'.bk,g'.hb,g'.hc,qc b',R]) (by rw[fG,mb];simp) ?_;try refine run ?_
  refine Up [g'.n] (λv1 h1 hs1=>?_);refine Jt (zb:=by rw[bf,Oe];simp only[Ib,td];omega) hsu hs1.rs (λv2 h2 Sa=>?_);rw[<-Iq] at Sa;try refine run ?_
  refine D.flat (H':=[h1,h2,we d (.slice lp (gs.map Gf.gp).length lc) t,lh,qc gs,R]) (by rw[fG,mb];simp) ?_;exact D.rd (k+1,v2,h2) ⟨by simp only[];omega,Sa⟩ (by simp only[];omega)
 .obtain rfl:k=fs.length:=by omega
  rw[take_length] at hsu;try refine run ?_
  exact Xa [we d (.slice lp (gs.map Gf.gp).length lc) t,lh,qc gs,hu] rfl rfl ⟨_,rfl,hsu⟩
variable{fs:List Pn}{a b:List Gf}{y0 y1:Gf}{qs:List Ub}
def Kr.put(h:Kr fs lv (a++y0::b) lh)(hb:y1.blk=y0.blk)(hok:y1.Ok):Kr (a.map Gf.pl++y1.pl::b.map Gf.pl) lv (a++y1::b) lh where
 ok:=λx hx=>by
  rcases mem_append.1 hx with hx|hx
  .exact h.ok x (by simp[hx])
  .rcases mem_cons.1 hx with rfl|hx
   .exact hok
   .exact h.ok x (by simp[hx])
 fs:=by simp
 sl:=by
  have e:(a++y1::b).map Gf.gp=(a++y0::b).map Gf.gp:=by
   simp only[He,map_cons];rw[show y1.gp=y0.gp from by unfold Gf.gp;rw[hb]]
  rw[e];exact h.sl
def Fu{q:Ub}(hq:qs[k]? =some q)(h:a.map Gf.pl++y0.pl::b.map Gf.pl=qs.map Ub.pl)(hk:a.length=k){q1:Ub}(e:y1.pl=q1.pl):a.map Gf.pl++y1.pl::b.map Gf.pl=(qs.set k q1).map Ub.pl:=by
 obtain⟨h1,h2⟩:=List.getElem?_eq_some_iff.1 hq;rw[List.map_set,<-h,<-hk,set_append_right _ _ (by simp),bf,Nat.sub_self,set_cons_zero,e]
def Kr.qM{x:Pn}{gs:List Gf}(h:Kr fs lv gs lh)(hx:fs[k]? =some x):∃a y0 b,gs=a++y0::b/\y0.pl=x/\a.length=k:=by
 obtain⟨e,hl⟩:=bK hx;obtain⟨a,y0,b,e1,-,e3,-,-,dK,-,-⟩:=h.at e;exact⟨a,y0,b,e1,e3,dK.trans hl⟩
def Ub.syn(q:Ub):Ub:=⟨q.n,q.b,q.b.length,[]⟩
def sA{cm:List Int}(h:k<cm.length):(List.replicate k (0:Int)++cm.drop k).set k 0=List.replicate (k+1) 0++cm.drop (k+1):=by
 rw[set_append_right _ _ (by simp),length_replicate,Nat.sub_self,drop_eq_getElem_cons h,set_cons_zero,replicate_succ',Sc];rfl
def iK(ok:Ts qs){t:Int}{d:Nat}{h:Hp}(hd:vg (qs.map Ub.pl) t d h){q:Ub}(hq:qs[k]? =some q):
  Ct prog 218 [d,q.n] [h] (λr H'=>∃h',r= .int .i64 0/\H'=[h']/\vg ((qs.set k q.syn).map Ub.pl) t d h'):=by
 have xD:=ok.ok q (mem_of_getElem? hq);have rM:=ok.bl (mem_of_getElem? hq);have DH:=Ub.X3 xD;have tg:=ok.len;obtain⟨lv,gs,lh,hd,rfl⟩:=hd;obtain⟨a,y0,b,rfl,e,dK⟩:=hd.qM (rq hq);obtain⟨hok,Cj⟩:=hd.me;have hr:=hd.sl.rs;obtain⟨lp,lc,rfl⟩:=hr.len;have hn:y0.n=q.n:=congrArg Pn.n e;have OK:y0.b=q.b:=congrArg Pn.b e;have Ah:y0.cm.length=q.b.length:=by rw[<-DH,<-e];rfl
 rw[<-hn]
 refine Ct.pack (pre:=[we d (.slice lp ((a++y0::b).map Gf.gp).length lc) t,lh,qc a,y0.bk,y0.hb,y0.hc,qc b])
  (post:=λr H'=>∃Yj,r= .int .i64 0/\H'=[we d (.slice lp ((a++y0::b).map Gf.gp).length lc) t,lh,qc a,y0.bk,y0.hb,Yj,qc b]/\ia 3 (List.replicate q.b.length (0:Int)) (.slice y0.pc y0.lc y0.cc) Yj) ?_ (by rw[mb];simp)
  (λr H' ⟨Yj,e1,e2,e3⟩=>⟨[[we d (.slice lp ((a++y0::b).map Gf.gp).length lc) t,lh,qc a,y0.bk,y0.hb,Yj,qc b].flatten],by rw[e2];simp,_,e1,rfl,.slice lp ((a++y0::b).map Gf.gp).length lc,a++⟨y0.n,y0.b,List.replicate q.b.length 0,y0.blk,y0.pb,y0.lb,y0.cb,y0.hb,y0.pc,y0.lc,y0.cc,Yj⟩::b,lh,?_,by rw[mb];simp⟩)
 .refine Tk func218 λg R=>?_;refine cq (Uo (t:=t) hd ok.qx (by rw[bf];omega)) ?_;try refine run ?_
  refine W.lo (α:=Nat×Hp) (λx=>x.1<=y0.cm.length/\ia 3 (List.replicate x.1 (0:Int)++y0.cm.drop x.1) (.slice y0.pc y0.lc y0.cc) x.2) (λx=>[(0,d),(5,.int .i64 (a.length:Int)),(7,.int .i64 (x.1:Int))])
   (λx=>[we d (.slice lp ((a++y0::b).map Gf.gp).length lc) t,lh,qc a,y0.bk,y0.hb,x.2,qc b,R]) (λx=>y0.cm.length - x.1) (0,y0.hc) ⟨di _,by simpa using hok.c⟩ ?_
  rintro⟨j,Yj⟩ ⟨hj,hsc⟩;simp only[] at hj hsc⊢;have hrc:=hsc.rs;have dL:(List.replicate j (0:Int)++y0.cm.drop j).length=y0.cm.length:=by rw[Eb,length_replicate,length_drop];omega
  by_cases hjl:j<y0.cm.length
  .obtain⟨x,hx⟩:∃x,(List.replicate j (0:Int)++y0.cm.drop j)[j]? =some x:=⟨_,Wg (by omega)⟩;try refine run ?_
   refine WX.zo (y':=(0:Int)) (vs:=[.int .i64 0]) rfl rfl rfl hsc hx rfl rfl rfl rfl rfl (λh2 Sa=>?_);rw[sA hjl] at Sa;try refine run ?_
   exact D.rd (j+1,h2) ⟨by simp only[];omega,Sa⟩ (by simp only[];omega)
  .obtain rfl:j=y0.cm.length:=by omega
   rw[drop_length,append_nil,Ah] at hsc;try refine run ?_
   exact Xa [we d (.slice lp ((a++y0::b).map Gf.gp).length lc) t,lh,qc a,y0.bk,y0.hb,Yj,qc b] rfl rfl ⟨_,rfl,rfl,hsc⟩
 .have:=hd.put (y1:=⟨y0.n,y0.b,List.replicate q.b.length 0,y0.blk,y0.pb,y0.lb,y0.cb,y0.hb,y0.pc,y0.lc,y0.cc,Yj⟩) rfl ⟨hok.b,e3,by simp[OK]⟩;rw[Fu hq hd.split.symm dK (q1:=q.syn) (by unfold Gf.pl Ub.pl Ub.syn;simp[hn,OK])] at this;have hlen:((a++(⟨y0.n,y0.b,List.replicate q.b.length 0,y0.blk,y0.pb,y0.lb,y0.cb,y0.hb,y0.pc,y0.lc,y0.cc,Yj⟩:Gf)::b).map Gf.gp).length=((a++y0::b).map Gf.gp).length:=by simp
  exact this
variable{h:Hp}
def AW:qc (a++b)=qc a++qc b:=by simp[qc]
def BW{y0:Gf}(h:a.map Gf.pl++y0.pl::b.map Gf.pl=qs.map Ub.pl)(hk:a.length=k):(a++b).map Gf.pl=(qs.eraseIdx k).map Ub.pl:=by
 rw[eraseIdx_eq_take_drop_succ,He,He,map_take,map_drop,<-h,<-hk];rw[take_left' (by simp),<-drop_drop,drop_left' (by simp)];rfl
def tA(ok:Ts qs)(hd:vg (qs.map Ub.pl) t d h){q:Ub}(hq:qs[k]? =some q):
  Ct prog 210 [d,q.n] [h] (λr H'=>∃h',r= .int .i64 0/\H'=[h']/\vg ((qs.eraseIdx k).map Ub.pl) t d h'):=by
 have tg:=ok.len;obtain⟨lv,gs,lh,hd,rfl⟩:=hd;obtain⟨a,y0,b,rfl,e,dK⟩:=hd.qM (rq hq);have Zt:k<qs.length:=(List.getElem?_eq_some_iff.1 hq).1;have KQ:((a++y0::b).map Gf.gp).length=qs.length:=hd.len.trans (bf _);have hr:=hd.sl.rs;have XH:=hr;obtain⟨lp,lc,rfl⟩:=hr.len;have hcap:((a++y0::b).map Gf.gp).length<=lc:=by obtain⟨aa,cc,e,le,_⟩:=id hr;cases e;exact le
 have hn:y0.n=q.n:=congrArg Pn.n e;have Fh:=hr.take (m:=a.length) (by omega);have hfr:=hr.from (m:=1) rfl (lo:=a.length+1) (by omega);have e1:((a++y0::b).map Gf.gp).take a.length=a.map Gf.gp:=by rw[He,take_left' (by simp)]
 have e2:((a++y0::b).map Gf.gp).drop (a.length+1)=b.map Gf.gp:=by rw[He,<-drop_drop,drop_left' (by simp)];rfl
 rw[e1] at Fh;rw[e2] at hfr
 have rM:(a.map Gf.gp).length+(b.map Gf.gp).length<=64:=by
  rw[He,Eb,map_cons,Ib] at KQ;omega
 rw[<-hn]
 refine Ct.pack (pre:=[we d (.slice lp ((a++y0::b).map Gf.gp).length lc) t,lh,qc a,y0.bk,y0.hb,y0.hc,qc b])
  (post:=λr H'=>∃Ym Zm,r= .int .i64 0/\H'=[we d Ym t,Zm,qc a,qc b]/\ia 268 ((a++b).map Gf.gp) Ym Zm) ?_ (by rw[mb];simp)
  (λr H' ⟨Ym,Zm,e1,e2,e3⟩=>⟨[[we d Ym t,Zm,qc a,qc b].flatten],by rw[e2];simp,_,e1,rfl,Ym,a++b,Zm,⟨λx hx=>hd.ok x (by rcases mem_append.1 hx with hx|hx<;>simp[hx]),BW hd.split.symm dK,e3⟩,by rw[AW];simp⟩)
 refine Tk func210 λg R=>?_;refine cq (Uo (t:=t) hd ok.qx (by rw[bf];omega)) ?_;try refine run ?_
 refine WX.Pe ?_;refine Jt (zb:=by simp only[td];omega) (ia.nil _) Fh (λv1 h1 hs1=>?_);rw[nil_append] at hs1;try refine run ?_
 refine WX.as 31 (.int .i64 ((a.length+1:Nat):Int)) rfl rfl ?_;refine WX.vi (lo:=a.length+1) rfl rfl (by omega) hcap rfl ?_;refine Jt hs1 hfr (λv2 h2 Sa=>?_);rw[<-He] at Sa;obtain⟨p2,n2,c2,rfl⟩:=Sa.sh;try refine run ?_
 exact Xa [we d (.slice p2 n2 c2) t,h2,qc a,qc b] rfl rfl ⟨_,_,rfl,rfl,Sa⟩
def Ub.cut(q:Ub)(m:Nat):Ub:=⟨q.n,q.b.take m,m,[]⟩
def OP(ok:Ts qs)(hd:vg (qs.map Ub.pl) t d h){q:Ub}(hq:qs[k]? =some q)(hts:q.ts=[]){m:Nat}(hm:m<=q.b.length):
  Ct prog 212 [d,q.n,.int .i64 (m:Int)] [h] (λr H'=>∃h',r= .int .i64 0/\H'=[h']/\vg ((qs.set k (q.cut m)).map Ub.pl) t d h'):=by
 have xD:=ok.ok q (mem_of_getElem? hq);have T8:=xD.e;have rM:=ok.bl (mem_of_getElem? hq);have tg:=ok.len;obtain⟨lv,gs,lh,hd,rfl⟩:=hd;obtain⟨a,y0,b,rfl,e,dK⟩:=hd.qM (rq hq);obtain⟨hok,Cj⟩:=hd.me;have hr:=hd.sl.rs;have hrb:=hok.b.rs;have hrc:=hok.c.rs;obtain⟨lp,lc,rfl⟩:=hr.len;have hn:y0.n=q.n:=congrArg Pn.n e;have OK:y0.b=q.b:=congrArg Pn.b e;have dZ:y0.b.length=q.b.length:=by rw[OK]
 have Jn:y0.cm=List.replicate q.s (0:Int)++q.ts:=congrArg Pn.cm e;have hoe:=hok.e;rw[hts,td] at T8;rw[hts,append_nil] at Jn;have hct:y0.cm.take m=List.replicate m 0:=by rw[Jn,take_replicate];congr 1;omega
 have dy:=hok.b.to (m:=m) (by omega);have hc2:=hok.c.to (m:=m) (by omega);rw[hct] at hc2;rw[OK] at dy;rw[<-hn]
 refine Ct.pack (pre:=[we d (.slice lp ((a++y0::b).map Gf.gp).length lc) t,lh,qc a,y0.bk,y0.hb,y0.hc,qc b])
  (post:=λr H'=>r= .int .i64 0/\H'=[we d (.slice lp ((a++y0::b).map Gf.gp).length lc) t,lh,qc a,CH y0.blk y0.n (.slice y0.pb m y0.cb) (.slice y0.pc m y0.cc),y0.hb,y0.hc,qc b]) ?_ (by rw[mb];simp)
  (λr H' ⟨e1,e2⟩=>⟨[[we d (.slice lp ((a++y0::b).map Gf.gp).length lc) t,lh,qc a,CH y0.blk y0.n (.slice y0.pb m y0.cb) (.slice y0.pc m y0.cc),y0.hb,y0.hc,qc b].flatten],by rw[e2];simp,_,e1,rfl,.slice lp ((a++y0::b).map Gf.gp).length lc,a++⟨y0.n,q.b.take m,List.replicate m 0,y0.blk,y0.pb,m,y0.cb,y0.hb,y0.pc,m,y0.cc,y0.hc⟩::b,lh,?_,by rw[mb];simp⟩)
 .refine Tk func212 λg R=>?_;refine cq (Uo (t:=t) hd ok.qx (by rw[bf];omega)) ?_;try refine run ?_
  refine iX (ml [19]) [we d (.slice lp ((a++y0::b).map Gf.gp).length lc) t,lh,qc a,y0.bk,y0.hb,y0.hc,qc b] ?_;try refine run ?_
  refine W.h0 [we d (.slice lp ((a++y0::b).map Gf.gp).length lc) t,lh,qc a,CH y0.blk y0.n (.slice y0.pb m y0.cb) (.slice y0.pc y0.lc y0.cc),y0.hb,y0.hc,qc b,R] ?_;refine iX (ml [19]) [we d (.slice lp ((a++y0::b).map Gf.gp).length lc) t,lh,qc a,CH y0.blk y0.n (.slice y0.pb m y0.cb) (.slice y0.pc y0.lc y0.cc),y0.hb,y0.hc,qc b] ?_;try refine run ?_
  refine D.hp (H':=[we d (.slice lp ((a++y0::b).map Gf.gp).length lc) t,lh,qc a,CH y0.blk y0.n (.slice y0.pb m y0.cb) (.slice y0.pc m y0.cc),y0.hb,y0.hc,qc b,R]) rfl ?_;exact Wi [we d (.slice lp ((a++y0::b).map Gf.gp).length lc) t,lh,qc a,CH y0.blk y0.n (.slice y0.pb m y0.cb) (.slice y0.pc m y0.cc),y0.hb,y0.hc,qc b]
 .have:=hd.put (y1:=⟨y0.n,q.b.take m,List.replicate m 0,y0.blk,y0.pb,m,y0.cb,y0.hb,y0.pc,m,y0.cc,y0.hc⟩) rfl ⟨dy,hc2,by simp only[length_replicate,Oe];omega⟩;rw[Fu hq hd.split.symm dK (q1:=q.cut m) (by unfold Gf.pl Ub.pl Ub.cut;simp[hn])] at this;exact this
def Rq(t:Int)(k:Nat):List Int:=(List.range k).map λ(i:Nat)=>t+1+(i:Int)
def Sq(t:Int)(k:Nat):(Rq t k).length=k:=by unfold Rq;simp
def jK(t:Int)(k:Nat):Rq t (k+1)=Rq t k++[t+(k:Int)+1]:=by
 unfold Rq;rw[range_succ,He];congr 1;simp only[map_cons,map_nil];congr 1;omega
def Ub.app(q:Ub)(bs:List UInt8)(t:Int):Ub:=⟨q.n,q.b++bs,q.s,q.ts++Rq t bs.length⟩
def kK{qs:List Ub}(ok:Ts qs){t:Int}(JL:0<=t)(ht1:t<=1099511627776){d:Nat}{h hx:Hp}(hd:vg (qs.map Ub.pl) t d h){k:Nat}{q:Ub}(hq:qs[k]? =some q)(hn0:0<=q.n)(ic:q.n<=1099511627776)
  {bs:List UInt8}{u:Value}(hb:Rs bs u hx)(Q2:(qs.map λq=>q.b.length).sum+bs.length<=1048576):
  Ct prog 217 [d,q.n,u] [h,hx] (λr H'=>∃h',r= .int .i64 0/\H'=[h',hx]/\vg ((qs.set k (q.app bs t)).map Ub.pl) (t+bs.length) d h'):=by
 have xD:=ok.ok q (mem_of_getElem? hq);have T8:=xD.e;have rM:=ok.bl (mem_of_getElem? hq);have DH:=Ub.X3 xD;have tg:=ok.len;obtain⟨lv,gs,lh,hd,rfl⟩:=hd;obtain⟨a,y0,b,rfl,e,dK⟩:=hd.qM (rq hq);obtain⟨hok,Cj⟩:=hd.me;have hr:=hd.sl.rs;obtain⟨lp,lc,rfl⟩:=hr.len;have hn:y0.n=q.n:=congrArg Pn.n e;have OK:y0.b=q.b:=congrArg Pn.b e;have dZ:y0.b.length=q.b.length:=by rw[OK]
 have Ah:y0.cm.length=q.b.length:=by rw[<-DH,<-e];rfl
 have Jn:y0.cm=List.replicate q.s (0:Int)++q.ts:=congrArg Pn.cm e;have Sn:=fK (d:=d) (t:=t) hd (by rw[bf];omega) (by rw[map_map];have:=ok.used;exact Nat.le_trans this (by decide));rw[map_map] at Sn
 have Sn:Ct prog 213 [d] [we d (.slice lp ((a++y0::b).map Gf.gp).length lc) t,lh,qc a,y0.bk,y0.hb,y0.hc,qc b] (λr H'=>r= .int .i64 (((qs.map λq=>q.b.length).sum:Nat):Int)/\H'=[we d (.slice lp ((a++y0::b).map Gf.gp).length lc) t,lh,qc a,y0.bk,y0.hb,y0.hc,qc b]):=
  Sn.pack (by rw[mb];simp) (λr H' p=>⟨_,by rw[p.2,mb];simp,p.1,rfl⟩)
 generalize(qs.map λq=>q.b.length).sum=U at*;rw[<-hn] at hn0 ic⊢
 refine Ct.pack (pre:=[we d (.slice lp ((a++y0::b).map Gf.gp).length lc) t,lh,qc a,y0.bk,y0.hb,y0.hc,qc b,hx])
  (post:=λr H'=>∃pb lb cb hb' pc gG cc Yj,r= .int .i64 0/\H'=[we d (.slice lp ((a++y0::b).map Gf.gp).length lc) (t+bs.length),lh,qc a,CH y0.blk y0.n (.slice pb lb cb) (.slice pc gG cc),hb',Yj,qc b,hx]/\ia 5 (y0.b++bs) (.slice pb lb cb) hb'/\ia 3 (y0.cm++Rq t bs.length) (.slice pc gG cc) Yj) ?_ (by rw[mb];simp)
  (λr H' ⟨pb,lb,cb,hb',pc,gG,cc,Yj,e1,e2,e3,e4⟩=>⟨[[we d (.slice lp ((a++y0::b).map Gf.gp).length lc) (t+bs.length),lh,qc a,CH y0.blk y0.n (.slice pb lb cb) (.slice pc gG cc),hb',Yj,qc b].flatten,hx],by rw[e2];simp,_,e1,rfl,.slice lp ((a++y0::b).map Gf.gp).length lc,a++⟨y0.n,y0.b++bs,y0.cm++Rq t bs.length,y0.blk,pb,lb,cb,hb',pc,gG,cc,Yj⟩::b,lh,?_,by rw[mb];simp⟩)
 .refine Tk func217 λg R=>?_;refine cq (Uo (t:=t) hd ok.qx (by rw[bf];omega)) ?_;try refine run ?_
  refine cq Sn ?_;try refine run ?_
  refine W.lo (α:=Nat×Int×Option Addr×Nat×Nat×Hp×Option Addr×Nat×Nat×Hp) (λx=>x.1<=bs.length/\x.2.1=t+(x.1:Int)/\ia 5 (y0.b++bs.take x.1) (.slice x.2.2.1 x.2.2.2.1 x.2.2.2.2.1) x.2.2.2.2.2.1/\ia 3 (y0.cm++Rq t x.1) (.slice x.2.2.2.2.2.2.1 x.2.2.2.2.2.2.2.1 x.2.2.2.2.2.2.2.2.1) x.2.2.2.2.2.2.2.2.2)
   (λx=>[(0,d),(2,u),(10,y0.blk),(11,.int .i64 (x.1:Int))])
   (λx=>[we d (.slice lp ((a++y0::b).map Gf.gp).length lc) x.2.1,CH (y0.blk) (y0.n) (.slice x.2.2.1 x.2.2.2.1 x.2.2.2.2.1) (.slice x.2.2.2.2.2.2.1 x.2.2.2.2.2.2.2.1 x.2.2.2.2.2.2.2.2.1),x.2.2.2.2.2.1,x.2.2.2.2.2.2.2.2.2,hx,lh,qc a,qc b,R]) (λx=>bs.length - x.1) (0,t,y0.pb,y0.lb,y0.cb,y0.hb,y0.pc,y0.lc,y0.cc,y0.hc) ⟨di _,by simp,by simpa using hok.b,by simpa[Rq] using hok.c⟩ ?_
  rintro⟨i,tt,pb,lb,cb,hb,pc,gG,cc,hc⟩ ⟨hi,eZ,vI,hsc⟩;simp only[] at hi eZ vI hsc⊢;by_cases hil:i<bs.length
  .obtain⟨y,hy⟩:=Lh hil;have Fh:bs.take (i+1)=bs.take i++[y]:=by rw[take_succ_eq_append_getElem hil,(List.getElem?_eq_some_iff.1 hy).2]
   have htl:(bs.take i).length<=bs.length:=by rw[Oe];omega
   have U8:Rq t (i+1)=Rq t i++[tt+1]:=by rw[jK,eZ]
   have htn:=Sq t i;try refine run ?_
   refine iX (ml [9,2]) [CH (y0.blk) (y0.n) (.slice pb lb cb) (.slice pc gG cc),hx] ?_;try refine run ?_
   refine Up [y] (λv1 h1 hs1=>?_);try refine run ?_
   refine Jt (zb:=by simp only[Eb,Ib,td];omega) vI hs1.rs (λv2 h2 Sa=>?_);rw[Sc,<-Fh] at Sa;obtain⟨p2,n2,c2,rfl⟩:=Sa.sh;try refine run ?_
   refine iX (ml [9,2]) [CH (y0.blk) (y0.n) (.slice p2 n2 c2) (.slice pc gG cc),we d (.slice lp ((a++y0::b).map Gf.gp).length lc) (tt+1)] ?_;try refine run ?_
   refine Up [tt+1] (λv3 h3 Cc=>?_);try refine run ?_
   refine Jt (zb:=by simp only[Eb,Ib,td];omega) hsc Cc.rs (λv4 h4 hs4=>?_);rw[Sc,<-U8] at hs4;obtain⟨p4,n4,c4,rfl⟩:=hs4.sh;try refine run ?_
   exact D.rd (i+1,tt+1,p2,n2,c2,h2,p4,n4,c4,h4) ⟨by simp only[];omega,by simp only[];omega,Sa,hs4⟩ (by simp only[];omega)
  .obtain rfl:i=bs.length:=by omega
   rw[take_length] at vI;subst eZ;try refine run ?_
   exact Xa [we d (.slice lp ((a++y0::b).map Gf.gp).length lc) (t+bs.length),lh,qc a,CH y0.blk y0.n (.slice pb lb cb) (.slice pc gG cc),hb,hc,qc b,hx] rfl rfl ⟨_,_,_,_,_,_,_,_,rfl,rfl,vI,hsc⟩
 .have:=hd.put (y1:=⟨y0.n,y0.b++bs,y0.cm++Rq t bs.length,y0.blk,pb,lb,cb,hb',pc,gG,cc,Yj⟩) rfl ⟨e3,e4,by simp only[Eb,Sq];omega⟩;rw[Fu hq hd.split.symm dK (q1:=q.app bs t) (by unfold Gf.pl Ub.pl Ub.app;simp[hn,OK,Jn])] at this;exact this
end Go.Proofs.YthebagfahkebiaaGreat
