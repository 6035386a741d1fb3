/- Texts of one road. -/
import Derived.Test.YthebagfahkebiaaGreatQAL
set_option linter.all false
set_option maxHeartbeats 8000000
set_option maxRecDepth 20000
namespace Go.Proofs.YthebagfahkebiaaGreat
open Go Go.Sl Go.Proofs.Tryz List
variable{α:Type}{lv:Value}{lh:Hp}{k d:Nat}{t:Int}{l:List α}
structure Kn where
 n:Int
 b:List UInt8
 cm:List Int
structure Gf where
 n:Int
 b:List UInt8
 cm:List Int
 blk:Nat
 pb:Option Addr
 lb:Nat
 cb:Nat
 hb:Hp
 pc:Option Addr
 lc:Nat
 cc:Nat
 hc:Hp
structure Gp where
 b:Nat
instance:Nb Gp:=⟨1,λs=>[.pointer (some ⟨s.b,0,none⟩)],λ_=>rfl,λ_=>rfl,by decide⟩
def Gf.pl(g:Gf):Kn:=⟨g.n,g.b,g.cm⟩
def Gf.gp(g:Gf):Gp:=⟨g.blk⟩
structure Gf.Ok(g:Gf):Prop where
 b:ia 5 g.b (.slice g.pb g.lb g.cb) g.hb
 c:ia 3 g.cm (.slice g.pc g.lc g.cc) g.hc
 e:g.cm.length=g.b.length
abbrev wH(blk:Nat)(n:Int)(v w:Value):Hp:=[(blk,.cells (List.toArray [n,v,w]) 267 (0,0))]
abbrev Gf.bk(g:Gf):Hp:=wH g.blk g.n (.slice g.pb g.lb g.cb) (.slice g.pc g.lc g.cc)
def Gf.hp(g:Gf):Hp:=g.bk++(g.hb++g.hc)
def mc(gs:List Gf):Hp:=(gs.map Gf.hp).flatten
abbrev ue(d:Nat)(lv:Value)(t:Int):Hp:=[(d,.cells (List.toArray [lv,t]) 229 (0,0))]
structure Zq(fs:List Kn)(lv:Value)(gs:List Gf)(lh:Hp):Prop where
 ok:∀g∈gs,g.Ok
 fs:gs.map Gf.pl=fs
 sl:ia 268 (gs.map Gf.gp) lv lh
def pg(fs:List Kn)(t:Int)(d:Nat)(h:Hp):Prop:=∃lv gs lh,Zq fs lv gs lh/\h=ue d lv t++(lh++mc gs)
def Za{pre post:List Gf}{g:Gf}:mc (pre++g::post)=mc pre++(g.bk++(g.hb++(g.hc++mc post))):=by simp[mc,Gf.hp]
def JJ{β:Type}{f:α->β}{xs ys:List β}{x:β}(h:l.map f=xs++x::ys):∃a g b,l=a++g::b/\a.map f=xs/\f g=x/\b.map f=ys:=by
 obtain⟨a,r,rfl,h1,h2⟩:=map_eq_append_iff.1 h;obtain⟨g,b,rfl,h3,h4⟩:=map_eq_cons_iff.1 h2;exact⟨a,g,b,rfl,h1,h3,h4⟩
def Zq.at{fs xs ys:List Kn}{x:Kn}{gs:List Gf}(h:Zq fs lv gs lh)(e:fs=xs++x::ys):∃a g b,gs=a++g::b/\a.map Gf.pl=xs/\g.pl=x/\b.map Gf.pl=ys/\g.Ok/\a.length=xs.length/\(gs.map Gf.gp)[xs.length]? =some ⟨g.blk⟩/\(gs.map Gf.gp).length=fs.length:=by
 obtain⟨a,g,b,e1,e2,e3,e4⟩:=JJ (h.fs.trans e);have hl:a.length=xs.length:=by rw[<-e2,We]
 refine⟨a,g,b,e1,e2,e3,e4,h.ok g (by rw[e1];simp),hl,?_,by rw[<-h.fs,We,We]⟩;rw[e1,Ae,<-hl];rw[List.getElem?_append_right (by rw[We];exact Nat.le_refl _),We,Nat.sub_self];rfl
def Zq.len{fs:List Kn}{gs:List Gf}(h:Zq fs lv gs lh):(gs.map Gf.gp).length=fs.length:=by rw[<-h.fs,We,We]
def KJ{x:α}(h:l[k]? =some x):l=l.take k++x::l.drop (k+1)/\(l.take k).length=k:=by
 obtain⟨h1,h2⟩:=List.getElem?_eq_some_iff.1 h;refine⟨?_,by rw[Fe];omega⟩
 conv=>lhs;rw[<-take_append_drop k l,drop_eq_getElem_cons h1,h2]
def Zq.nth{fs:List Kn}{x:Kn}{gs:List Gf}(h:Zq fs lv gs lh)(hx:fs[k]? =some x):∃a g b,gs=a++g::b/\g.pl=x/\g.Ok/\(gs.map Gf.gp)[k]? =some ⟨g.blk⟩:=by
 obtain⟨e,hl⟩:=KJ hx;obtain⟨a,g,b,e1,-,e3,-,hok,-,zj,-⟩:=h.at e;rw[hl] at zj;exact⟨a,g,b,e1,e3,hok,zj⟩
def zV:Ct prog 133 [] [] (λr H'=>∃d h',r= .pointer (some ⟨d,0,none⟩)/\H'=[h']/\pg [] 0 d h'):=by
 refine Ct.pack (pre:=[]) (post:=λr H'=>∃d,r= .pointer (some ⟨d,0,none⟩)/\H'=[ue d (.slice none 0 0) 0]) ?_ rfl (λr H' ⟨d,e,f⟩=>⟨[ue d (.slice none 0 0) 0++([]++mc [])],by rw[f];simp[mc],d,_,e,rfl,_,[],[],⟨by simp,rfl,ia.nil _⟩,rfl⟩);refine ce func133 λg R=>?_;repeat' first|refine rn ?_|refine Ud λ_=>?_
 rename_i d;exact Wa [ue d (.slice none 0 0) 0] rfl rfl ⟨d,rfl,rfl⟩
def Wv(d:Nat)(lv:Value)(t:Int)(lh:Hp)(gs:List Gf)(k:Nat)(b:Bool):Value->HH->Prop:=λr H'=>r= .tuple #[.int .i64 (k:Int),.bool b]/\H'=[ue d lv t,lh,mc gs]
def LJ{fs xs ys:List Kn}{x:Kn}{gs:List Gf}(hd:Zq fs lv gs lh)(e:fs=xs++x::ys)(hlt:∀y∈xs,y.n<x.n)(hl:fs.length<=1099511627776):
  Ct prog 257 [d,x.n] [ue d lv t,lh,mc gs] (Wv d lv t lh gs xs.length true):=by
 obtain⟨a,y0,b,e1,e2,e3,e4,hok,MJ,zj,hlen⟩:=hd.at e;have hr:=hd.sl.rs;have yQ:=hd.len;have hfl:fs.length=xs.length+(ys.length+1):=by rw[e];simp
 obtain⟨lp,lc,rfl⟩:=hr.len;refine cr func257 λg R=>?_;refine W.lo (α:=Nat) (λk=>k<=xs.length) (λk=>[(0,d),(1,x.n),(6,.int .i64 (k:Int))]) (λ_=>[ue d (.slice lp (gs.map Gf.gp).length lc) t,lh,mc gs,R]) (λk=>xs.length+1 - k) 0 (Gi _) ?_;intro k hk;by_cases tB:k<xs.length
 .obtain⟨y,hy⟩:=Sh tB;have hyn:=hlt y (mem_of_getElem? hy);obtain⟨a',g',b',bG,tT,fM,rW⟩:=hd.nth (k:=k) (x:=y) (by rw[e,List.getElem?_append_left tB];exact hy);have hn':g'.n=y.n:=by rw[<-tT];rfl
  refine W.flat (H':=[ue d (.slice lp (gs.map Gf.gp).length lc) t,lh,mc a',g'.bk,g'.hb,g'.hc,mc b',R]) (by rw[bG,Za];simp) ?_;try refine run ?_
  refine D.flat (H':=[ue d (.slice lp (gs.map Gf.gp).length lc) t,lh,mc gs,R]) (by rw[bG,Za];simp) ?_;exact D.re (k+1)
 .obtain rfl:k=xs.length:=by omega
  have hn':y0.n=x.n:=by rw[<-e3];rfl
  refine W.flat (H':=[ue d (.slice lp (gs.map Gf.gp).length lc) t,lh,mc a,y0.bk,y0.hb,y0.hc,mc b,R]) (by rw[e1,Za];simp) ?_;try refine run ?_
  refine wr ?_;refine D.flat (H':=[ue d (.slice lp (gs.map Gf.gp).length lc) t,lh,mc gs,R]) (by rw[e1,Za];simp) ?_;exact D.yg [ue d (.slice lp (gs.map Gf.gp).length lc) t,lh,mc gs] _ rfl (.tmp rfl (.tmp rfl .nil)) rfl ⟨by rw[hn'];simp,rfl⟩
def Xv{fs:List Kn}{gs:List Gf}(hd:Zq fs lv gs lh){n:Int}(hlt:∀y∈fs,y.n<n)(hl:fs.length<=1099511627776):
  Ct prog 257 [d,n] [ue d lv t,lh,mc gs] (Wv d lv t lh gs fs.length false):=by
 have hr:=hd.sl.rs;have yQ:=hd.len;obtain⟨lp,lc,rfl⟩:=hr.len;refine cr func257 λg R=>?_;refine W.lo (α:=Nat) (λk=>k<=fs.length) (λk=>[(0,d),(1,n),(6,.int .i64 (k:Int))]) (λ_=>[ue d (.slice lp (gs.map Gf.gp).length lc) t,lh,mc gs,R]) (λk=>fs.length+1 - k) 0 (Gi _) ?_;intro k hk;by_cases tB:k<fs.length
 .obtain⟨y,hy⟩:=Sh tB;have hyn:=hlt y (mem_of_getElem? hy);obtain⟨a',g',b',bG,tT,fM,rW⟩:=hd.nth hy;have hn':g'.n=y.n:=by rw[<-tT];rfl
  refine W.flat (H':=[ue d (.slice lp (gs.map Gf.gp).length lc) t,lh,mc a',g'.bk,g'.hb,g'.hc,mc b',R]) (by rw[bG,Za];simp) ?_;try refine run ?_
  refine D.flat (H':=[ue d (.slice lp (gs.map Gf.gp).length lc) t,lh,mc gs,R]) (by rw[bG,Za];simp) ?_;exact D.re (k+1)
 .obtain rfl:k=fs.length:=by omega
  try refine run ?_
  refine wr ?_;exact D.yg [ue d (.slice lp (gs.map Gf.gp).length lc) t,lh,mc gs] _ rfl (.tmp rfl (.tmp rfl .nil)) rfl ⟨rfl,rfl⟩
def NJ{fs:List Kn}{gs:List Gf}(hd:Zq fs lv gs lh)(hl:fs.length<=1099511627776)(hu:(fs.map λf=>f.b.length).sum<=1099511627776):
  Ct prog 213 [d] [ue d lv t,lh,mc gs] (λr H'=>r= .int .i64 (((fs.map λf=>f.b.length).sum:Nat):Int)/\H'=[ue d lv t,lh,mc gs]):=by
 have hr:=hd.sl.rs;have yQ:=hd.len;obtain⟨lp,lc,rfl⟩:=hr.len;refine cr func213 λg R=>?_;refine W.lo (α:=Nat) (λk=>k<=fs.length) (λk=>[(0,d),(3,.int .i64 ((((fs.take k).map λf=>f.b.length).sum:Nat):Int)),(4,.int .i64 (k:Int))]) (λ_=>[ue d (.slice lp (gs.map Gf.gp).length lc) t,lh,mc gs,R]) (λk=>fs.length - k) 0 (Gi _) ?_;intro k hk;by_cases tB:k<fs.length
 .obtain⟨y,hy⟩:=Sh tB;obtain⟨a',g',b',bG,tT,fM,rW⟩:=hd.nth hy;have hrb:=fM.b.rs;have hbn:g'.b.length=y.b.length:=by rw[<-tT];rfl
  have uq:((fs.take (k+1)).map λf=>f.b.length).sum=((fs.take k).map λf=>f.b.length).sum+y.b.length:=by
   rw[take_succ_eq_append_getElem tB,(List.getElem?_eq_some_iff.1 hy).2];simp
  have hle:((fs.take (k+1)).map λf=>f.b.length).sum<=(fs.map λf=>f.b.length).sum:=by
   conv=>rhs;rw[<-take_append_drop (k+1) fs]
   rw[Ae,sum_append];omega
  refine W.flat (H':=[ue d (.slice lp (gs.map Gf.gp).length lc) t,lh,mc a',g'.bk,g'.hb,g'.hc,mc b',R]) (by rw[bG,Za];simp) ?_;try refine run ?_
  refine D.as 3 (.int .i64 ((((fs.take (k+1)).map λf=>f.b.length).sum:Nat):Int)) rfl (by rw[uq,hbn];congr 1) ?_;refine D.flat (H':=[ue d (.slice lp (gs.map Gf.gp).length lc) t,lh,mc gs,R]) (by rw[bG,Za];simp) ?_;exact D.re (k+1)
 .obtain rfl:k=fs.length:=by omega
  rw[take_length];try refine run ?_
  exact vj [ue d (.slice lp (gs.map Gf.gp).length lc) t,lh,mc gs]
def JU(fs:List Kn):Prop:=(fs.map (·.n)).Pairwise (· < ·)
section
variable{fs:List Kn}{lv:Value}{lh:Hp}{a b:List Gf}{y0:Gf}{d:Nat}{t:Int}
def Zq.split(h:Zq fs lv (a++y0::b) lh):fs=a.map Gf.pl++y0.pl::b.map Gf.pl:=by rw[<-h.fs];simp
def Zq.lt(h:Zq fs lv (a++y0::b) lh)(Rw:JU fs):∀y∈a.map Gf.pl,y.n<y0.pl.n:=by
 rw[h.split] at Rw;unfold JU at Rw;rw[Ae,map_cons,pairwise_append] at Rw;exact λy hy=>Rw.2.2 _ (mem_map.2 ⟨y,hy,rfl⟩) _ (zf ..)
def Zq.me(h:Zq fs lv (a++y0::b) lh):y0.Ok/\((a++y0::b).map Gf.gp)[a.length]? =some ⟨y0.blk⟩:=by
 refine⟨h.ok y0 (by simp),?_⟩;rw[Ae,List.getElem?_append_right (by rw[We];exact Nat.le_refl _),We,Nat.sub_self];rfl
def Ko(h:Zq fs lv (a++y0::b) lh)(Rw:JU fs)(hl:fs.length<=1099511627776):
  Ct prog 257 [d,y0.n] [ue d lv t,lh,mc a,y0.bk,y0.hb,y0.hc,mc b] (λr H'=>r= .tuple #[.int .i64 (a.length:Int),.bool true]/\H'=[ue d lv t,lh,mc a,y0.bk,y0.hb,y0.hc,mc b]):=by
 have:=LJ h h.split (h.lt Rw) hl (d:=d) (t:=t);rw[We] at this;exact this.pack (by rw[Za];simp) (λr H' p=>⟨_,by rw[p.2,Za];simp,p.1,rfl⟩)
def AP(h:Zq fs lv (a++y0::b) lh)(Rw:JU fs)(hl:fs.length<=1099511627776){s:Nat}{ts:List Int}(hc:y0.cm=List.replicate s 0++ts)(hp:∀x∈ts,0<x)(mh:y0.cm.length<=1099511627776):
  Ct prog 287 [d,y0.n] [ue d lv t,lh,mc a,y0.bk,y0.hb,y0.hc,mc b] (λr H'=>r= .int .i64 (s:Int)/\H'=[ue d lv t,lh,mc a,y0.bk,y0.hb,y0.hc,mc b]):=by
 obtain⟨hok,zj⟩:=h.me;have hr:=h.sl.rs;have hrc:=hok.c.rs;have yQ:=h.len;have n9:y0.cm.length=s+ts.length:=by rw[hc];simp
 obtain⟨lp,lc,rfl⟩:=hr.len;refine cr func287 λg R=>?_;refine cq (Ko (t:=t) h Rw hl) ?_;try refine run ?_
 refine W.lo (α:=Nat) (λk=>k<=s) (λk=>[(0,d),(5,.int .i64 (a.length:Int)),(6,.bool true),(7,.int .i64 (k:Int))]) (λ_=>[ue d (.slice lp ((a++y0::b).map Gf.gp).length lc) t,lh,mc a,y0.bk,y0.hb,y0.hc,mc b,R]) (λk=>s+1 - k) 0 (Gi _) ?_;intro k hk;by_cases hks:k<s
 .have hx:y0.cm[k]? =some 0:=by rw[hc,List.getElem?_append_left (by simpa using hks)];simp[hks]
  try refine run ?_
  exact D.re (k+1)
 .obtain rfl:k=s:=by omega
  cases ts with
  |nil=>
   have PX:y0.cm.length=k:=by rw[n9];rfl
   try refine run ?_
   exact vj [ue d (.slice lp ((a++y0::b).map Gf.gp).length lc) t,lh,mc a,y0.bk,y0.hb,y0.hc,mc b]
  |cons x r=>
   have hx:y0.cm[k]? =some x:=by rw[hc,List.getElem?_append_right (by simp)];simp
   have hx0:=hp x (zf ..);have PX:k<y0.cm.length:=(List.getElem?_eq_some_iff.1 hx).1;try refine run ?_
   exact vj [ue d (.slice lp ((a++y0::b).map Gf.gp).length lc) t,lh,mc a,y0.bk,y0.hb,y0.hc,mc b]
def sW(h:Zq fs lv (a++y0::b) lh)(Rw:JU fs)(hl:fs.length<=1099511627776):
  Ct prog 267 [d,y0.n] [ue d lv t,lh,mc a,y0.bk,y0.hb,y0.hc,mc b] (λr H'=>r= .int .i64 (y0.b.length:Int)/\H'=[ue d lv t,lh,mc a,y0.bk,y0.hb,y0.hc,mc b]):=by
 obtain⟨hok,zj⟩:=h.me;have hr:=h.sl.rs;have hrb:=hok.b.rs;refine cr func267 λg R=>?_;refine cq (Ko (t:=t) h Rw hl) ?_;try refine run ?_
 exact vj [ue d lv t,lh,mc a,y0.bk,y0.hb,y0.hc,mc b]
def tW(h:Zq fs lv (a++y0::b) lh)(Rw:JU fs)(hl:fs.length<=1099511627776):
  Ct prog 209 [d,y0.n] [ue d lv t,lh,mc a,y0.bk,y0.hb,y0.hc,mc b] (λr H'=>r= .tuple #[.slice y0.pb y0.lb y0.cb,.int .i64 0]/\H'=[ue d lv t,lh,mc a,y0.bk,y0.hb,y0.hc,mc b]):=by
 obtain⟨hok,zj⟩:=h.me;have hr:=h.sl.rs;have hrb:=hok.b.rs;refine cr func209 λg R=>?_;refine cq (Ko (t:=t) h Rw hl) ?_;try refine run ?_
 exact D.Vb [ue d lv t,lh,mc a,y0.bk,y0.hb,y0.hc,mc b] _ rfl rfl rfl ⟨rfl,rfl⟩
end
section
variable{fs:List Kn}{t:Int}{d:Nat}{h:Hp}
def pg.at{x:Kn}{k:Nat}(hd:pg fs t d h)(hx:fs[k]? =some x):∃lv a y0 b lh,Zq fs lv (a++y0::b) lh/\y0.pl=x/\h.Perm h/\h=[ue d lv t,lh,mc a,y0.bk,y0.hb,y0.hc,mc b].flatten:=by
 obtain⟨lv,gs,lh,h3,rfl⟩:=hd;obtain⟨a,y0,b,rfl,e,-,-⟩:=h3.nth hx;exact⟨lv,a,y0,b,lh,h3,e,.refl _,by rw[Za];simp⟩
def uT(hd:pg fs t d h)(Rw:JU fs)(hl:fs.length<=1099511627776){x:Kn}{k:Nat}(hx:fs[k]? =some x):
  Ct prog 267 [d,x.n] [h] (λr H'=>r= .int .i64 (x.b.length:Int)/\H'=[h]):=by
 obtain⟨lv,a,y0,b,lh,h3,rfl,-,rfl⟩:=hd.at hx;exact(sW (t:=t) h3 Rw hl).pack (by simp) (λr H' p=>⟨_,by rw[p.2];simp,p.1,rfl⟩)
def OJ(hd:pg fs t d h)(Rw:JU fs)(hl:fs.length<=1099511627776){x:Kn}{k:Nat}(hx:fs[k]? =some x):
  Ct prog 209 [d,x.n] [h] (λr H'=>∃u,r= .tuple #[u,.int .i64 0]/\H'=[h]/\Rs x.b u h):=by
 obtain⟨lv,a,y0,b,lh,h3,rfl,-,rfl⟩:=hd.at hx;refine(tW (t:=t) h3 Rw hl).pack (by simp) (λr H' p=>⟨_,by rw[p.2];simp,_,p.1,rfl,?_⟩);have:=h3.me.1.b.rs;refine this.mono λ_ w ho=>?_;simp only[flatten_cons,flatten_nil] at ho;exact ho.right.right.right.right.left
end
structure Ub where
 n:Int
 b:List UInt8
 s:Nat
 ts:List Int
def Ub.pl(q:Ub):Kn:=⟨q.n,q.b,List.replicate q.s 0++q.ts⟩
structure Ub.Ok(q:Ub):Prop where
 e:q.s+q.ts.length=q.b.length
 p:∀x∈q.ts,0<x
structure Ds(qs:List Ub):Prop where
 up:(qs.map (·.n)).Pairwise (· < ·)
 ok:∀q∈qs,q.Ok
 used:(qs.map λq=>q.b.length).sum<=1048576
 len:qs.length<=64
def Ds.Rw{qs:List Ub}(h:Ds qs):JU (qs.map Ub.pl):=by
 unfold JU;rw[map_map];exact h.up
def Ds.bl{qs:List Ub}(h:Ds qs){q:Ub}(hq:q∈qs):q.b.length<=1048576:=by
 have:=Mo (mem_map.2 ⟨q,hq,rfl⟩:q.b.length∈qs.map λq=>q.b.length);have:=h.used;omega
def Ub.B4{q:Ub}(h:q.Ok):q.pl.cm.length=q.b.length:=by
 show(List.replicate q.s (0:Int)++q.ts).length=_;rw[Cb,length_replicate];exact h.e
def aq{qs:List Ub}{k:Nat}{q:Ub}(h:qs[k]? =some q):(qs.map Ub.pl)[k]? =some q.pl:=by rw[List.getElem?_map,h];rfl
def Bq{fs:List Kn}{t:Int}{d:Nat}{h:Hp}(hd:pg fs t d h)(hl:fs.length<=1099511627776):
  Ct prog 208 [d] [h] (λr H'=>∃hn,H'=[h,hn]/\ia 3 (fs.map (·.n)) r hn):=by
 obtain⟨lv,gs,lh,hd,rfl⟩:=hd;have hr:=hd.sl.rs;have yQ:=hd.len;obtain⟨lp,lc,rfl⟩:=hr.len;refine Ct.pack (pre:=[ue d (.slice lp (gs.map Gf.gp).length lc) t,lh,mc gs]) (post:=λr H'=>∃hn,H'=[ue d (.slice lp (gs.map Gf.gp).length lc) t,lh,mc gs,hn]/\ia 3 (fs.map (·.n)) r hn) ?_ (by simp) (λr H' ⟨hn,e,p⟩=>⟨[ue d (.slice lp (gs.map Gf.gp).length lc) t++(lh++mc gs),hn],by rw[e];simp,hn,rfl,p⟩);refine cr func208 λg R=>?_;refine W.Ke ?_;refine W.lo (α:=Nat×Value×Hp) (λx=>x.1<=fs.length/\ia 3 ((fs.take x.1).map (·.n)) x.2.1 x.2.2) (λx=>[(0,d),(3,x.2.1),(4,.int .i64 (x.1:Int))]) (λx=>[x.2.2,ue d (.slice lp (gs.map Gf.gp).length lc) t,lh,mc gs,R]) (λx=>fs.length - x.1) (0,.slice none 0 0,[]) ⟨Gi _,ia.nil _⟩ ?_;rintro⟨k,u,hu⟩ ⟨hk,hsu⟩;simp only[] at hk hsu⊢;by_cases tB:k<fs.length
 .obtain⟨y,hy⟩:=Sh tB;obtain⟨a',g',b',bG,tT,fM,rW⟩:=hd.nth hy;have VA:g'.n=y.n:=by rw[<-tT];rfl
  have uq:(fs.take (k+1)).map (·.n)=(fs.take k).map (·.n)++[g'.n]:=by
   rw[take_succ_eq_append_getElem tB,(List.getElem?_eq_some_iff.1 hy).2,Ae,VA];rfl
  refine W.flat (H':=[hu,ue d (.slice lp (gs.map Gf.gp).length lc) t,lh,mc a',g'.bk,g'.hb,g'.hc,mc b',R]) (by rw[bG,Za];simp) ?_;try refine run ?_
  refine Kp [g'.n] (λv1 h1 hs1=>?_);refine Ys (zb:=by rw[We,Fe];simp only[Gb,jd];omega) hsu hs1.rs (λv2 h2 Oa=>?_);rw[<-uq] at Oa;try refine run ?_
  refine D.flat (H':=[h1,h2,ue d (.slice lp (gs.map Gf.gp).length lc) t,lh,mc gs,R]) (by rw[bG,Za];simp) ?_;exact D.rd (k+1,v2,h2) ⟨by simp only[];omega,Oa⟩ (by simp only[];omega)
 .obtain rfl:k=fs.length:=by omega
  rw[take_length] at hsu;try refine run ?_
  exact Wa [ue d (.slice lp (gs.map Gf.gp).length lc) t,lh,mc gs,hu] rfl rfl ⟨_,rfl,hsu⟩
variable{fs:List Kn}{a b:List Gf}{y0 y1:Gf}{qs:List Ub}
def Zq.put(h:Zq fs lv (a++y0::b) lh)(hb:y1.blk=y0.blk)(hok:y1.Ok):Zq (a.map Gf.pl++y1.pl::b.map Gf.pl) lv (a++y1::b) lh where
 ok:=λx hx=>by
  rcases mem_append.1 hx with hx|hx
  .exact h.ok x (by simp[hx])
  .rcases mem_cons.1 hx with rfl|hx
   .exact hok
   .exact h.ok x (by simp[hx])
 fs:=by simp
 sl:=by
  have e:(a++y1::b).map Gf.gp=(a++y0::b).map Gf.gp:=by
   simp only[Ae,map_cons];rw[show y1.gp=y0.gp from by unfold Gf.gp;rw[hb]]
  rw[e];exact h.sl
def qu{q:Ub}(hq:qs[k]? =some q)(h:a.map Gf.pl++y0.pl::b.map Gf.pl=qs.map Ub.pl)(hk:a.length=k){q1:Ub}(e:y1.pl=q1.pl):a.map Gf.pl++y1.pl::b.map Gf.pl=(qs.set k q1).map Ub.pl:=by
 obtain⟨h1,h2⟩:=List.getElem?_eq_some_iff.1 hq;rw[List.map_set,<-h,<-hk,set_append_right _ _ (by simp),We,Nat.sub_self,set_cons_zero,e]
def Zq.gM{x:Kn}{gs:List Gf}(h:Zq fs lv gs lh)(hx:fs[k]? =some x):∃a y0 b,gs=a++y0::b/\y0.pl=x/\a.length=k:=by
 obtain⟨e,hl⟩:=KJ hx;obtain⟨a,y0,b,e1,-,e3,-,-,MJ,-,-⟩:=h.at e;exact⟨a,y0,b,e1,e3,MJ.trans hl⟩
def Ub.syn(q:Ub):Ub:=⟨q.n,q.b,q.b.length,[]⟩
def sA{cm:List Int}(h:k<cm.length):(List.replicate k (0:Int)++cm.drop k).set k 0=List.replicate (k+1) 0++cm.drop (k+1):=by
 rw[set_append_right _ _ (by simp),length_replicate,Nat.sub_self,drop_eq_getElem_cons h,set_cons_zero,replicate_succ',Oc];rfl
def PJ(ok:Ds qs){t:Int}{d:Nat}{h:Hp}(hd:pg (qs.map Ub.pl) t d h){q:Ub}(hq:qs[k]? =some q):
  Ct prog 218 [d,q.n] [h] (λr H'=>∃h',r= .int .i64 0/\H'=[h']/\pg ((qs.set k q.syn).map Ub.pl) t d h'):=by
 have zD:=ok.ok q (mem_of_getElem? hq);have iM:=ok.bl (mem_of_getElem? hq);have xH:=Ub.B4 zD;have jg:=ok.len;obtain⟨lv,gs,lh,hd,rfl⟩:=hd;obtain⟨a,y0,b,rfl,e,MJ⟩:=hd.gM (aq hq);obtain⟨hok,zj⟩:=hd.me;have hr:=hd.sl.rs;obtain⟨lp,lc,rfl⟩:=hr.len;have hn:y0.n=q.n:=congrArg Kn.n e;have yK:y0.b=q.b:=congrArg Kn.b e;have mh:y0.cm.length=q.b.length:=by rw[<-xH,<-e];rfl
 rw[<-hn]
 refine Ct.pack (pre:=[ue d (.slice lp ((a++y0::b).map Gf.gp).length lc) t,lh,mc a,y0.bk,y0.hb,y0.hc,mc b])
  (post:=λr H'=>∃Vj,r= .int .i64 0/\H'=[ue d (.slice lp ((a++y0::b).map Gf.gp).length lc) t,lh,mc a,y0.bk,y0.hb,Vj,mc b]/\ia 3 (List.replicate q.b.length (0:Int)) (.slice y0.pc y0.lc y0.cc) Vj) ?_ (by rw[Za];simp)
  (λr H' ⟨Vj,e1,e2,e3⟩=>⟨[[ue d (.slice lp ((a++y0::b).map Gf.gp).length lc) t,lh,mc a,y0.bk,y0.hb,Vj,mc b].flatten],by rw[e2];simp,_,e1,rfl,.slice lp ((a++y0::b).map Gf.gp).length lc,a++⟨y0.n,y0.b,List.replicate q.b.length 0,y0.blk,y0.pb,y0.lb,y0.cb,y0.hb,y0.pc,y0.lc,y0.cc,Vj⟩::b,lh,?_,by rw[Za];simp⟩)
 .refine cr func218 λg R=>?_;refine cq (Ko (t:=t) hd ok.Rw (by rw[We];omega)) ?_;try refine run ?_
  refine W.lo (α:=Nat×Hp) (λx=>x.1<=y0.cm.length/\ia 3 (List.replicate x.1 (0:Int)++y0.cm.drop x.1) (.slice y0.pc y0.lc y0.cc) x.2) (λx=>[(0,d),(5,.int .i64 (a.length:Int)),(7,.int .i64 (x.1:Int))])
   (λx=>[ue d (.slice lp ((a++y0::b).map Gf.gp).length lc) t,lh,mc a,y0.bk,y0.hb,x.2,mc b,R]) (λx=>y0.cm.length - x.1) (0,y0.hc) ⟨Gi _,by simpa using hok.c⟩ ?_
  rintro⟨j,Vj⟩ ⟨hj,hsc⟩;simp only[] at hj hsc⊢;have hrc:=hsc.rs;have PK:(List.replicate j (0:Int)++y0.cm.drop j).length=y0.cm.length:=by rw[Cb,length_replicate,length_drop];omega
  by_cases hjl:j<y0.cm.length
  .obtain⟨x,hx⟩:∃x,(List.replicate j (0:Int)++y0.cm.drop j)[j]? =some x:=⟨_,oh (by omega)⟩;try refine run ?_
   refine WX.ko (y':=(0:Int)) (vs:=[.int .i64 0]) rfl rfl rfl hsc hx rfl rfl rfl rfl rfl (λh2 Oa=>?_);rw[sA hjl] at Oa;try refine run ?_
   exact D.rd (j+1,h2) ⟨by simp only[];omega,Oa⟩ (by simp only[];omega)
  .obtain rfl:j=y0.cm.length:=by omega
   rw[drop_length,append_nil,mh] at hsc;try refine run ?_
   exact Wa [ue d (.slice lp ((a++y0::b).map Gf.gp).length lc) t,lh,mc a,y0.bk,y0.hb,Vj,mc b] rfl rfl ⟨_,rfl,rfl,hsc⟩
 .have:=hd.put (y1:=⟨y0.n,y0.b,List.replicate q.b.length 0,y0.blk,y0.pb,y0.lb,y0.cb,y0.hb,y0.pc,y0.lc,y0.cc,Vj⟩) rfl ⟨hok.b,e3,by simp[yK]⟩;rw[qu hq hd.split.symm MJ (q1:=q.syn) (by unfold Gf.pl Ub.pl Ub.syn;simp[hn,yK])] at this;have hlen:((a++(⟨y0.n,y0.b,List.replicate q.b.length 0,y0.blk,y0.pb,y0.lb,y0.cb,y0.hb,y0.pc,y0.lc,y0.cc,Vj⟩:Gf)::b).map Gf.gp).length=((a++y0::b).map Gf.gp).length:=by simp
  exact this
variable{h:Hp}
def uW:mc (a++b)=mc a++mc b:=by simp[mc]
def vW{y0:Gf}(h:a.map Gf.pl++y0.pl::b.map Gf.pl=qs.map Ub.pl)(hk:a.length=k):(a++b).map Gf.pl=(qs.eraseIdx k).map Ub.pl:=by
 rw[eraseIdx_eq_take_drop_succ,Ae,Ae,map_take,map_drop,<-h,<-hk];rw[take_left' (by simp),<-drop_drop,drop_left' (by simp)];rfl
def tA(ok:Ds qs)(hd:pg (qs.map Ub.pl) t d h){q:Ub}(hq:qs[k]? =some q):
  Ct prog 210 [d,q.n] [h] (λr H'=>∃h',r= .int .i64 0/\H'=[h']/\pg ((qs.eraseIdx k).map Ub.pl) t d h'):=by
 have jg:=ok.len;obtain⟨lv,gs,lh,hd,rfl⟩:=hd;obtain⟨a,y0,b,rfl,e,MJ⟩:=hd.gM (aq hq);have tB:k<qs.length:=(List.getElem?_eq_some_iff.1 hq).1;have yQ:((a++y0::b).map Gf.gp).length=qs.length:=hd.len.trans (We _);have hr:=hd.sl.rs;have fF:=hr;obtain⟨lp,lc,rfl⟩:=hr.len;have hcap:((a++y0::b).map Gf.gp).length<=lc:=by obtain⟨aa,cc,e,le,_⟩:=id hr;cases e;exact le
 have hn:y0.n=q.n:=congrArg Kn.n e;have th:=hr.take (m:=a.length) (by omega);have hfr:=hr.from (m:=1) rfl (lo:=a.length+1) (by omega);have e1:((a++y0::b).map Gf.gp).take a.length=a.map Gf.gp:=by rw[Ae,take_left' (by simp)]
 have e2:((a++y0::b).map Gf.gp).drop (a.length+1)=b.map Gf.gp:=by rw[Ae,<-drop_drop,drop_left' (by simp)];rfl
 rw[e1] at th;rw[e2] at hfr
 have iM:(a.map Gf.gp).length+(b.map Gf.gp).length<=64:=by
  rw[Ae,Cb,map_cons,Gb] at yQ;omega
 rw[<-hn]
 refine Ct.pack (pre:=[ue d (.slice lp ((a++y0::b).map Gf.gp).length lc) t,lh,mc a,y0.bk,y0.hb,y0.hc,mc b])
  (post:=λr H'=>∃Um Vm,r= .int .i64 0/\H'=[ue d Um t,Vm,mc a,mc b]/\ia 268 ((a++b).map Gf.gp) Um Vm) ?_ (by rw[Za];simp)
  (λr H' ⟨Um,Vm,e1,e2,e3⟩=>⟨[[ue d Um t,Vm,mc a,mc b].flatten],by rw[e2];simp,_,e1,rfl,Um,a++b,Vm,⟨λx hx=>hd.ok x (by rcases mem_append.1 hx with hx|hx<;>simp[hx]),vW hd.split.symm MJ,e3⟩,by rw[uW];simp⟩)
 refine cr func210 λg R=>?_;refine cq (Ko (t:=t) hd ok.Rw (by rw[We];omega)) ?_;try refine run ?_
 refine WX.Ke ?_;refine Ys (zb:=by simp only[jd];omega) (ia.nil _) th (λv1 h1 hs1=>?_);rw[nil_append] at hs1;try refine run ?_
 refine WX.as 31 (.int .i64 ((a.length+1:Nat):Int)) rfl rfl ?_;refine WX.ei (lo:=a.length+1) rfl rfl (by omega) hcap rfl ?_;refine Ys hs1 hfr (λv2 h2 Oa=>?_);rw[<-Ae] at Oa;obtain⟨p2,n2,c2,rfl⟩:=Oa.sh;try refine run ?_
 exact Wa [ue d (.slice p2 n2 c2) t,h2,mc a,mc b] rfl rfl ⟨_,_,rfl,rfl,Oa⟩
def Ub.cut(q:Ub)(m:Nat):Ub:=⟨q.n,q.b.take m,m,[]⟩
def BP(ok:Ds qs)(hd:pg (qs.map Ub.pl) t d h){q:Ub}(hq:qs[k]? =some q)(hts:q.ts=[]){m:Nat}(hm:m<=q.b.length):
  Ct prog 212 [d,q.n,.int .i64 (m:Int)] [h] (λr H'=>∃h',r= .int .i64 0/\H'=[h']/\pg ((qs.set k (q.cut m)).map Ub.pl) t d h'):=by
 have zD:=ok.ok q (mem_of_getElem? hq);have o9:=zD.e;have iM:=ok.bl (mem_of_getElem? hq);have jg:=ok.len;obtain⟨lv,gs,lh,hd,rfl⟩:=hd;obtain⟨a,y0,b,rfl,e,MJ⟩:=hd.gM (aq hq);obtain⟨hok,zj⟩:=hd.me;have hr:=hd.sl.rs;have hrb:=hok.b.rs;have hrc:=hok.c.rs;obtain⟨lp,lc,rfl⟩:=hr.len;have hn:y0.n=q.n:=congrArg Kn.n e;have yK:y0.b=q.b:=congrArg Kn.b e;have bZ:y0.b.length=q.b.length:=by rw[yK]
 have qx:y0.cm=List.replicate q.s (0:Int)++q.ts:=congrArg Kn.cm e;have hoe:=hok.e;rw[hts,jd] at o9;rw[hts,append_nil] at qx;have hct:y0.cm.take m=List.replicate m 0:=by rw[qx,take_replicate];congr 1;omega
 have vK:=hok.b.to (m:=m) (by omega);have hc2:=hok.c.to (m:=m) (by omega);rw[hct] at hc2;rw[yK] at vK;rw[<-hn]
 refine Ct.pack (pre:=[ue d (.slice lp ((a++y0::b).map Gf.gp).length lc) t,lh,mc a,y0.bk,y0.hb,y0.hc,mc b])
  (post:=λr H'=>r= .int .i64 0/\H'=[ue d (.slice lp ((a++y0::b).map Gf.gp).length lc) t,lh,mc a,wH y0.blk y0.n (.slice y0.pb m y0.cb) (.slice y0.pc m y0.cc),y0.hb,y0.hc,mc b]) ?_ (by rw[Za];simp)
  (λr H' ⟨e1,e2⟩=>⟨[[ue d (.slice lp ((a++y0::b).map Gf.gp).length lc) t,lh,mc a,wH y0.blk y0.n (.slice y0.pb m y0.cb) (.slice y0.pc m y0.cc),y0.hb,y0.hc,mc b].flatten],by rw[e2];simp,_,e1,rfl,.slice lp ((a++y0::b).map Gf.gp).length lc,a++⟨y0.n,q.b.take m,List.replicate m 0,y0.blk,y0.pb,m,y0.cb,y0.hb,y0.pc,m,y0.cc,y0.hc⟩::b,lh,?_,by rw[Za];simp⟩)
 .refine cr func212 λg R=>?_;refine cq (Ko (t:=t) hd ok.Rw (by rw[We];omega)) ?_;try refine run ?_
  refine cX (ml [19]) [ue d (.slice lp ((a++y0::b).map Gf.gp).length lc) t,lh,mc a,y0.bk,y0.hb,y0.hc,mc b] ?_;try refine run ?_
  refine W.h0 [ue d (.slice lp ((a++y0::b).map Gf.gp).length lc) t,lh,mc a,wH y0.blk y0.n (.slice y0.pb m y0.cb) (.slice y0.pc y0.lc y0.cc),y0.hb,y0.hc,mc b,R] ?_;refine cX (ml [19]) [ue d (.slice lp ((a++y0::b).map Gf.gp).length lc) t,lh,mc a,wH y0.blk y0.n (.slice y0.pb m y0.cb) (.slice y0.pc y0.lc y0.cc),y0.hb,y0.hc,mc b] ?_;try refine run ?_
  refine D.hp (H':=[ue d (.slice lp ((a++y0::b).map Gf.gp).length lc) t,lh,mc a,wH y0.blk y0.n (.slice y0.pb m y0.cb) (.slice y0.pc m y0.cc),y0.hb,y0.hc,mc b,R]) rfl ?_;exact vj [ue d (.slice lp ((a++y0::b).map Gf.gp).length lc) t,lh,mc a,wH y0.blk y0.n (.slice y0.pb m y0.cb) (.slice y0.pc m y0.cc),y0.hb,y0.hc,mc b]
 .have:=hd.put (y1:=⟨y0.n,q.b.take m,List.replicate m 0,y0.blk,y0.pb,m,y0.cb,y0.hb,y0.pc,m,y0.cc,y0.hc⟩) rfl ⟨vK,hc2,by simp only[length_replicate,Fe];omega⟩;rw[qu hq hd.split.symm MJ (q1:=q.cut m) (by unfold Gf.pl Ub.pl Ub.cut;simp[hn])] at this;exact this
def Cq(t:Int)(k:Nat):List Int:=(List.range k).map λ(i:Nat)=>t+1+(i:Int)
def Dq(t:Int)(k:Nat):(Cq t k).length=k:=by unfold Cq;simp
def QJ(t:Int)(k:Nat):Cq t (k+1)=Cq t k++[t+(k:Int)+1]:=by
 unfold Cq;rw[range_succ,Ae];congr 1;simp only[map_cons,map_nil];congr 1;omega
def Ub.app(q:Ub)(bs:List UInt8)(t:Int):Ub:=⟨q.n,q.b++bs,q.s,q.ts++Cq t bs.length⟩
def RJ{qs:List Ub}(ok:Ds qs){t:Int}(zL:0<=t)(ht1:t<=1099511627776){d:Nat}{h hx:Hp}(hd:pg (qs.map Ub.pl) t d h){k:Nat}{q:Ub}(hq:qs[k]? =some q)(hn0:0<=q.n)(yc:q.n<=1099511627776)
  {bs:List UInt8}{u:Value}(hb:Rs bs u hx)(j3:(qs.map λq=>q.b.length).sum+bs.length<=1048576):
  Ct prog 217 [d,q.n,u] [h,hx] (λr H'=>∃h',r= .int .i64 0/\H'=[h',hx]/\pg ((qs.set k (q.app bs t)).map Ub.pl) (t+bs.length) d h'):=by
 have zD:=ok.ok q (mem_of_getElem? hq);have o9:=zD.e;have iM:=ok.bl (mem_of_getElem? hq);have xH:=Ub.B4 zD;have jg:=ok.len;obtain⟨lv,gs,lh,hd,rfl⟩:=hd;obtain⟨a,y0,b,rfl,e,MJ⟩:=hd.gM (aq hq);obtain⟨hok,zj⟩:=hd.me;have hr:=hd.sl.rs;obtain⟨lp,lc,rfl⟩:=hr.len;have hn:y0.n=q.n:=congrArg Kn.n e;have yK:y0.b=q.b:=congrArg Kn.b e;have bZ:y0.b.length=q.b.length:=by rw[yK]
 have mh:y0.cm.length=q.b.length:=by rw[<-xH,<-e];rfl
 have qx:y0.cm=List.replicate q.s (0:Int)++q.ts:=congrArg Kn.cm e;have Nn:=NJ (d:=d) (t:=t) hd (by rw[We];omega) (by rw[map_map];have:=ok.used;exact Nat.le_trans this (by decide));rw[map_map] at Nn
 have Nn:Ct prog 213 [d] [ue d (.slice lp ((a++y0::b).map Gf.gp).length lc) t,lh,mc a,y0.bk,y0.hb,y0.hc,mc b] (λr H'=>r= .int .i64 (((qs.map λq=>q.b.length).sum:Nat):Int)/\H'=[ue d (.slice lp ((a++y0::b).map Gf.gp).length lc) t,lh,mc a,y0.bk,y0.hb,y0.hc,mc b]):=
  Nn.pack (by rw[Za];simp) (λr H' p=>⟨_,by rw[p.2,Za];simp,p.1,rfl⟩)
 generalize(qs.map λq=>q.b.length).sum=U at*;rw[<-hn] at hn0 yc⊢
 refine Ct.pack (pre:=[ue d (.slice lp ((a++y0::b).map Gf.gp).length lc) t,lh,mc a,y0.bk,y0.hb,y0.hc,mc b,hx])
  (post:=λr H'=>∃pb lb cb hb' pc cG cc Vj,r= .int .i64 0/\H'=[ue d (.slice lp ((a++y0::b).map Gf.gp).length lc) (t+bs.length),lh,mc a,wH y0.blk y0.n (.slice pb lb cb) (.slice pc cG cc),hb',Vj,mc b,hx]/\ia 5 (y0.b++bs) (.slice pb lb cb) hb'/\ia 3 (y0.cm++Cq t bs.length) (.slice pc cG cc) Vj) ?_ (by rw[Za];simp)
  (λr H' ⟨pb,lb,cb,hb',pc,cG,cc,Vj,e1,e2,e3,e4⟩=>⟨[[ue d (.slice lp ((a++y0::b).map Gf.gp).length lc) (t+bs.length),lh,mc a,wH y0.blk y0.n (.slice pb lb cb) (.slice pc cG cc),hb',Vj,mc b].flatten,hx],by rw[e2];simp,_,e1,rfl,.slice lp ((a++y0::b).map Gf.gp).length lc,a++⟨y0.n,y0.b++bs,y0.cm++Cq t bs.length,y0.blk,pb,lb,cb,hb',pc,cG,cc,Vj⟩::b,lh,?_,by rw[Za];simp⟩)
 .refine cr func217 λg R=>?_;refine cq (Ko (t:=t) hd ok.Rw (by rw[We];omega)) ?_;try refine run ?_
  refine cq Nn ?_;try refine run ?_
  refine W.lo (α:=Nat×Int×Option Addr×Nat×Nat×Hp×Option Addr×Nat×Nat×Hp) (λx=>x.1<=bs.length/\x.2.1=t+(x.1:Int)/\ia 5 (y0.b++bs.take x.1) (.slice x.2.2.1 x.2.2.2.1 x.2.2.2.2.1) x.2.2.2.2.2.1/\ia 3 (y0.cm++Cq t x.1) (.slice x.2.2.2.2.2.2.1 x.2.2.2.2.2.2.2.1 x.2.2.2.2.2.2.2.2.1) x.2.2.2.2.2.2.2.2.2)
   (λx=>[(0,d),(2,u),(10,y0.blk),(11,.int .i64 (x.1:Int))])
   (λx=>[ue d (.slice lp ((a++y0::b).map Gf.gp).length lc) x.2.1,wH (y0.blk) (y0.n) (.slice x.2.2.1 x.2.2.2.1 x.2.2.2.2.1) (.slice x.2.2.2.2.2.2.1 x.2.2.2.2.2.2.2.1 x.2.2.2.2.2.2.2.2.1),x.2.2.2.2.2.1,x.2.2.2.2.2.2.2.2.2,hx,lh,mc a,mc b,R]) (λx=>bs.length - x.1) (0,t,y0.pb,y0.lb,y0.cb,y0.hb,y0.pc,y0.lc,y0.cc,y0.hc) ⟨Gi _,by simp,by simpa using hok.b,by simpa[Cq] using hok.c⟩ ?_
  rintro⟨i,tt,pb,lb,cb,hb,pc,cG,cc,hc⟩ ⟨hi,cZ,nI,hsc⟩;simp only[] at hi cZ nI hsc⊢;by_cases hil:i<bs.length
  .obtain⟨y,hy⟩:=Sh hil;have th:bs.take (i+1)=bs.take i++[y]:=by rw[take_succ_eq_append_getElem hil,(List.getElem?_eq_some_iff.1 hy).2]
   have htl:(bs.take i).length<=bs.length:=by rw[Fe];omega
   have u9:Cq t (i+1)=Cq t i++[tt+1]:=by rw[QJ,cZ]
   have htn:=Dq t i;try refine run ?_
   refine cX (ml [9,2]) [wH (y0.blk) (y0.n) (.slice pb lb cb) (.slice pc cG cc),hx] ?_;try refine run ?_
   refine Kp [y] (λv1 h1 hs1=>?_);try refine run ?_
   refine Ys (zb:=by simp only[Cb,Gb,jd];omega) nI hs1.rs (λv2 h2 Oa=>?_);rw[Oc,<-th] at Oa;obtain⟨p2,n2,c2,rfl⟩:=Oa.sh;try refine run ?_
   refine cX (ml [9,2]) [wH (y0.blk) (y0.n) (.slice p2 n2 c2) (.slice pc cG cc),ue d (.slice lp ((a++y0::b).map Gf.gp).length lc) (tt+1)] ?_;try refine run ?_
   refine Kp [tt+1] (λv3 h3 Fc=>?_);try refine run ?_
   refine Ys (zb:=by simp only[Cb,Gb,jd];omega) hsc Fc.rs (λv4 h4 hs4=>?_);rw[Oc,<-u9] at hs4;obtain⟨p4,n4,c4,rfl⟩:=hs4.sh;try refine run ?_
   exact D.rd (i+1,tt+1,p2,n2,c2,h2,p4,n4,c4,h4) ⟨by simp only[];omega,by simp only[];omega,Oa,hs4⟩ (by simp only[];omega)
  .obtain rfl:i=bs.length:=by omega
   rw[take_length] at nI;subst cZ;try refine run ?_
   exact Wa [ue d (.slice lp ((a++y0::b).map Gf.gp).length lc) (t+bs.length),lh,mc a,wH y0.blk y0.n (.slice pb lb cb) (.slice pc cG cc),hb,hc,mc b,hx] rfl rfl ⟨_,_,_,_,_,_,_,_,rfl,rfl,nI,hsc⟩
 .have:=hd.put (y1:=⟨y0.n,y0.b++bs,y0.cm++Cq t bs.length,y0.blk,pb,lb,cb,hb',pc,cG,cc,Vj⟩) rfl ⟨e3,e4,by simp only[Cb,Dq];omega⟩;rw[qu hq hd.split.symm MJ (q1:=q.app bs t) (by unfold Gf.pl Ub.pl Ub.app;simp[hn,yK,qx])] at this;exact this
end Go.Proofs.YthebagfahkebiaaGreat
