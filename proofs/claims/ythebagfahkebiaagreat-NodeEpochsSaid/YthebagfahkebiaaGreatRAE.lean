/- Texts of one road. -/
import Derived.Test.YthebagfahkebiaaGreatRAB
import Derived.Test.YthebagfahkebiaaGreatRAC
import Derived.Test.YthebagfahkebiaaGreatRAD
set_option linter.all false
set_option maxHeartbeats 8000000
set_option maxRecDepth 20000
namespace Go.Proofs
open Go.Sl Go.Proofs.Tryz
instance Tryz.laa:P6 prog 248 (.pointer none):=⟨by kernel_rfl⟩
end Go.Proofs
namespace Go.Sl
open Go List
def on.upd{g w w':World}{l r:Hp}{b:Nat}{o o':Obj}(H:on g (l++(b,o)::r) w)(a:Ht w w')(e:w'.heap[b]? =some o')(k:∀k,k≠b->k<w.heap.size->w'.heap[k]? =w.heap[k]?):
  on g (l++(b,o')::r) w':=by
 have hn:=H.2.1;refine⟨H.1.trans a,by simpa using hn,λb' tZ hm=>?_⟩;simp only[He,map_cons] at hn;rw[nodup_append] at hn;obtain⟨_,hn2,x9⟩:=hn;rw[nodup_cons] at hn2;rcases mem_append.1 hm with h1|h1
 .have hne:b'≠b:=x9 b' (mem_map.2 ⟨_,h1,rfl⟩) b (qf);have hm':(b',tZ)∈l++(b,o)::r:=mem_append_left _ h1;rw[k b' hne (H.lt hm')];exact H.2.2 b' tZ hm'
 .rcases mem_cons.1 h1 with h2|h2
  .cases h2;exact e
  .have hne:b'≠b:=λhb=>hn2.1 (hb▸mem_map.2 ⟨_,h2,rfl⟩);have hm':(b',tZ)∈l++(b,o)::r:=mem_append_right _ (Vn _ h2);rw[k b' hne (H.lt hm')];exact H.2.2 b' tZ hm'
def Cm(xs:List Int):List Int:=xs.mergeSort λx y=>decide (x<=y)
def Rn(xs:List Int):(Cm xs).length=xs.length:=length_mergeSort _
def MA(xs:List Int):Jb xs=xs.map (Value.int .i64):=by
 induction xs with
 |nil=>rfl
 |cons x r ih=>show Qb.enc x++Jb r=_;rw[ih];rfl
def yM{xs ys:List Int}{sp:List Value}(hl:ys.length=xs.length):Sort.putCells (Value.int .i64) 0 ys.toArray (List.toArray (Jb xs++sp))=List.toArray (Jb ys++sp):=by
 unfold Sort.putCells;rw[MA,MA];apply Array.ext
 .simp[hl]
 .intro i h1 h2;simp only[Array.getElem_mapIdx,getElem_toArray,size_toArray,di,true_and,Nat.zero_add,Nat.sub_zero];by_cases h:i<ys.length
  .rw[if_pos h,getElem_append_left (by simpa using h),getElem_map];congr 1;simp[h]
  .rw[if_neg h,getElem_append_right (by simp;omega),getElem_append_right (by simp;omega)];simp[hl]
end Go.Sl
namespace Go.Proofs.YthebagfahkebiaaGreat
open Go Go.Sl Go.Proofs.Tryz List
def iV{xs:List Int}{v:Value}{h:Hp}(hs:ia 3 xs v h)(hl:xs.length<=1099511627776):
  Ct prog 230 [v] [h] (λr H'=>r= .tuple #[]/\∃h',H'=[h']/\ia 3 (Cm xs) v h'):=by
 refine⟨λg R w hw=>?_⟩;rcases hs with⟨rfl,rfl,rfl⟩|⟨b,cap,sp,fr,rfl,rfl,h1,h2,h3⟩
 .refine(Tryz.slices_Sort_int_none none 0 w).mono λe w' ⟨he,Oi⟩=>?_;subst he;subst Oi;exact⟨_,[[]],rfl,⟨rfl,[],rfl,by show ia _ (Cm []) _ _;rw[show Cm []=[] from length_eq_zero_iff.1 (Rn [])];exact ia.nil _⟩,by simpa using hw⟩
 .have Qr:on g ([]++(b,.cells (List.toArray (Jb xs++sp)) 3 fr)::R) w:=by simpa using hw
  have hh:=Qr.2.2 b (.cells (List.toArray (Jb xs++sp)) 3 fr) (by simp)
  have hlen:(Jb xs++sp).length=cap:=by
   rw[Eb,Ic,h2];show xs.length*1+(cap - xs.length)*1=cap;omega
  have hH:Sort.Holds (Value.int .i64) w b 0 xs.toArray:=by
   intro j hj;have hj':j<xs.length:=by simpa using hj
   rw[Nat.zero_add];refine⟨?_,zx hh (by rw[hlen];have h4:Pu fr (cap*1):=h3;rwa [Nat.mul_one] at h4) (by rw[hlen];omega)⟩;rw[yg hh,MA,List.getElem?_append_left (by simpa using hj'),List.getElem?_map,Wg hj'];simp[hj']
  refine(Tryz.slices_Sort_int b 0 cap xs w hH (Array.getElem?_eq_some_iff.1 hh).1 (by omega)).mono λe w' ⟨he,n,os,Oi⟩=>?_;subst he;subst Oi;refine⟨_,[[(b,.cells (List.toArray (Jb (Cm xs)++sp)) 3 fr)]],rfl,⟨rfl,_,rfl,.inr ⟨b,cap,sp,fr,by rw[Rn],rfl,by rw[Rn];exact h1,by rw[Rn];exact h2,h3⟩⟩,?_⟩;have hb:=(Array.getElem?_eq_some_iff.1 hh).1;have:=on.upd (o':= .cells (List.toArray (Jb (Cm xs)++sp)) 3 fr) (w':=Sort.grow (Sort.putRow (Value.int .i64) (Sort.ahead w n) b 0 (Cm xs).toArray) os) Qr ⟨rfl,rfl,rfl,by simp[Sort.grow,Sort.putRow,Sort.mapBlock,Sort.ahead]⟩ ?_ ?_
  .have h5:on g ([]++(b,.cells (List.toArray (Jb (Cm xs)++sp)) 3 fr)::R) (Sort.grow (Sort.putRow (Value.int .i64) (Sort.ahead w n) b 0 (xs.mergeSort λx y=>decide (x<=y)).toArray) os):=this;simpa using h5
  .simp only[Sort.grow,Sort.putRow,Sort.mapBlock,Sort.ahead];rw[Array.getElem?_append_left (by simpa using hb),Array.getElem?_modify,if_pos rfl,hh];simp only[Option.map_some,Sort.onCells];rw[yM (Rn xs)]
  .intro k hk hlt;simp only[Sort.grow,Sort.putRow,Sort.mapBlock,Sort.ahead];rw[Array.getElem?_append_left (by simpa using hlt),Array.getElem?_modify,if_neg (λe=>hk e.symm)]
structure yd where
 n:Int
 b:List UInt8:=[]
 s:Nat:=0
structure Pc where
 f:Int
 n:Int
instance:Qb Pc:=⟨2,λp=>[.int .i64 p.f,.int .i64 p.n],λ_=>rfl,λ_=>rfl,by decide⟩
structure Be where
 fs:List yd:=[]
 loose:List Pc:=[]
namespace Be
variable(S:Be)
def find(k:Int):Option yd:=S.fs.find? λf=>decide (f.n=k)
def size(k:Int):Nat:=match S.find k with
 |none=>0
 |some f=>f.b.length
def synced(k:Int):Nat:=match S.find k with
 |none=>0
 |some f=>f.s
def used:Nat:=(S.fs.map (·.b.length)).sum
def names:List Int:=Cm (S.fs.map (·.n))
def EO(k:Int)(g:yd->yd):List yd:=S.fs.map λf=>if f.n=k then g f else f
def Tg(k:Int)(len:Nat):Int:=if k<0\/1099511627776<k then 50 else if((S.find k).isNone=true/\64<=S.fs.length)\/1048576<S.used+len then 51 else 0
def app(k:Int)(b:List UInt8):Be:=
 if S.Tg k b.length=0 then{fs:=if(S.find k).isNone=true then S.fs++[{n:=k,b:=b,s:=0}] else S.EO k λf=>{f with b:=f.b++b},loose:=S.loose++[⟨k,b.length⟩]} else S
def Av(k:Int):Int:=if(S.find k).isNone=true then 50 else 0
def sync(k:Int):Be:=if(S.find k).isNone=true then S else{fs:=S.EO k λf=>{f with s:=f.b.length},loose:=S.loose.filter λp=>decide (p.f≠k)}
def remove(k:Int):Be:=if(S.find k).isNone=true then S else{fs:=S.fs.filter λf=>decide (f.n≠k),loose:=S.loose.filter λp=>decide (p.f≠k)}
end Be
structure Fl where
 n:Int
 b:List UInt8
 s:Nat
 blk:Nat
 p:Option Addr
 l:Nat
 c:Nat
 h:Hp
 born:Nat
def Fl.file(f:Fl):yd:=⟨f.n,f.b,f.s⟩
def Fl.ok(f:Fl):Prop:=ia 5 f.b (.slice f.p f.l f.c) f.h
def Fl.me(f:Fl):Me:=⟨f.n,f.blk,f.born⟩
abbrev Yq(blk:Nat)(v:Value)(s:Nat):Hp:=[(blk,.cells (List.toArray [v,.int .i64 (s:Int)]) 247 (0,0))]
def Fl.hp(f:Fl):Hp:=Yq f.blk (.slice f.p f.l f.c) f.s++f.h
def Dd(fs:List Fl):Hp:=(fs.map Fl.hp).flatten
abbrev Le(d m:Nat)(lv:Value):Hp:=[(d,.cells (List.toArray [.map (some m),lv]) 224 (0,0))]
abbrev pe(m:Nat)(fs:List Fl)(c:Nat):Hp:=[(m,ez (fs.map Fl.me) c)]
structure eV(S:Be)(c:Nat)(lv:Value)(fs:List Fl)(lh:Hp):Prop where
 mp:Vr (fs.map Fl.me) c
 ok:∀f∈fs,f.ok
 fs:fs.map Fl.file=S.fs
 sl:ia 245 S.loose lv lh
def Od(S:Be)(d:Nat)(h:Hp):Prop:=∃m c lv fs lh,eV S c lv fs lh/\h=Le d m lv++(pe m fs c++(lh++Dd fs))
section
variable{S:Be}{c:Nat}{lv:Value}{fs:List Fl}{lh:Hp}{k:Int}{f:Fl}
def uI:∀(fs:List Fl) (k:Int),Cn (fs.map Fl.me) k=(fs.find? λf=>decide (f.n=k)).map Fl.me:=by
 intro fs k;unfold Cn;rw[List.find?_map];rfl
def qF(fs:List Fl)(k:Int):(fs.map Fl.file).find? (λf=>decide (f.n=k))=(fs.find? λf=>decide (f.n=k)).map Fl.file:=by
 rw[List.find?_map];rfl
def eV.len(h:eV S c lv fs lh):fs.length=S.fs.length:=by rw[<-h.fs,bf]
def eV.no(h:eV S c lv fs lh)(hk:S.find k=none):Cn (fs.map Fl.me) k=none/\FO (fs.map Fl.me) k (.pointer none)= .pointer none:=by
 unfold Be.find at hk;rw[<-h.fs,qF] at hk
 have:Cn (fs.map Fl.me) k=none:=by
  rw[uI]
  cases hf:fs.find? λf=>decide (f.n=k) with
  |none=>rfl
  |some f=>rw[hf] at hk;cases hk
 exact⟨this,by unfold FO;rw[this]⟩
def eV.has(h:eV S c lv fs lh){x:yd}(hk:S.find k=some x):∃f pre post,fs=pre++f::post/\f.file=x/\f.n=k/\f.ok/\(∀f'∈pre,f'.n≠k)/\(∀f'∈post,f'.n≠k)/\FO (fs.map Fl.me) k (.pointer none)= .pointer (some ⟨f.blk,0,none⟩):=by
 unfold Be.find at hk;rw[<-h.fs,qF] at hk
 cases hf:fs.find? λf=>decide (f.n=k) with
 |none=>rw[hf] at hk;cases hk
 |some f=>
  rw[hf] at hk;have hx:f.file=x:=by simpa using hk
  have hn:f.n=k:=by simpa using List.find?_some hf
  obtain⟨pre,post,e,hp⟩:=List.find?_eq_some_iff_append.1 hf|>.2;have hks:=h.mp.ks;rw[e] at hks;simp only[He,map_cons] at hks;rw[nodup_append] at hks;obtain⟨_,h2,_⟩:=hks;rw[nodup_cons] at h2;refine⟨f,pre,post,e,hx,hn,h.ok f (mem_of_find?_eq_some hf),λf' hf'=>by have:=hp f' hf';simpa using this,λf' hf' he=>?_,?_⟩
  .exact h2.1 (mem_map.2 ⟨f'.me,mem_map.2 ⟨f',hf',rfl⟩,he.trans hn.symm⟩)
  .unfold FO;rw[uI,hf];rfl
def Qd{pre post:List Fl}:Dd (pre++f::post)=Dd pre++(Yq f.blk (.slice f.p f.l f.c) f.s++(f.h++Dd post)):=by simp[Dd,Fl.hp]
end
def nR{fs:List Fl}:((fs.map Fl.file).map (·.b.length)).sum=(fs.map (·.b.length)).sum:=by rw[map_map];rfl
variable{S:Be}{d:Nat}{h:Hp}{fs vis:List Fl}
def fV:Ct prog 122 [] [] (λr H'=>∃d h',r= .pointer (some ⟨d,0,none⟩)/\H'=[h']/\Od {} d h'):=by
 refine Ct.pack (pre:=[]) (post:=λr H'=>∃d m,r= .pointer (some ⟨d,0,none⟩)/\H'=[Le d m (.slice none 0 0),pe m [] 0]) ?_ rfl (λr H' ⟨d,m,e,f⟩=>⟨[Le d m (.slice none 0 0)++(pe m [] 0++([]++Dd []))],by rw[f];simp[Dd],d,_,e,rfl,m,0,_,[],[],⟨Vr.new,by simp,rfl,ia.nil _⟩,rfl⟩);refine ce func122 λg R=>?_;repeat' first|refine rn ?_|refine Uc λ_=>?_|(refine WX.makeMap rfl (λ_=>?_))
 rename_i m d;refine D.flat (H':=[Le d m (.slice none 0 0),pe m [] 0,R]) rfl ?_;exact Xa [Le d m (.slice none 0 0),pe m [] 0] rfl rfl ⟨d,m,rfl,rfl⟩
def GG(hd:Od S d h)(k:Int):
  Ct prog 170 [d,k] [h] (λr H'=>r= .int .i64 (S.size k:Int)/\H'=[h]):=by
 obtain⟨m,c,lv,fs,lh,hd,rfl⟩:=hd
 cases hk:S.find k with
 |none=>
  obtain⟨_,hv⟩:=hd.no hk;refine Ct.pack (pre:=[Le d m lv,pe m fs c,lh,Dd fs]) (post:=λr H'=>r= .int .i64 0/\H'=[Le d m lv,pe m fs c,lh,Dd fs]) ?_ (by simp) (λr H' p=>⟨[Le d m lv++(pe m fs c++(lh++Dd fs))],by rw[p.2];simp,by rw[p.1,Be.size,hk];rfl,rfl⟩);refine Tk func170 λg R=>?_;refine WX.lookup rfl rfl rfl ?_;rw[hv];try refine run ?_
  exact Wi [Le d m lv,pe m fs c,lh,Dd fs]
 |some x=>
  obtain⟨f,pre,post,rfl,rfl,hn,hok,h1,h2,hv⟩:=hd.has hk;have hr:=ia.rs hok;refine Ct.pack (pre:=[Le d m lv,pe m (pre++f::post) c,lh,Dd pre,Yq f.blk (.slice f.p f.l f.c) f.s,f.h,Dd post]) (post:=λr H'=>r= .int .i64 (f.b.length:Int)/\H'=[Le d m lv,pe m (pre++f::post) c,lh,Dd pre,Yq f.blk (.slice f.p f.l f.c) f.s,f.h,Dd post]) ?_ (by rw[Qd];simp) (λr H' p=>⟨[Le d m lv++(pe m (pre++f::post) c++(lh++Dd (pre++f::post)))],by rw[p.2,Qd];simp,by rw[p.1,Be.size,hk];rfl,rfl⟩);refine Tk func170 λg R=>?_;refine WX.lookup rfl rfl rfl ?_;rw[hv];try refine run ?_
  exact Wi [Le d m lv,pe m (pre++f::post) c,lh,Dd pre,Yq f.blk (.slice f.p f.l f.c) f.s,f.h,Dd post]
def GO(hd:Od S d h)(k:Int):
  Ct prog 207 [d,k] [h] (λr H'=>r= .int .i64 (S.synced k:Int)/\H'=[h]):=by
 obtain⟨m,c,lv,fs,lh,hd,rfl⟩:=hd
 cases hk:S.find k with
 |none=>
  obtain⟨_,hv⟩:=hd.no hk;refine Ct.pack (pre:=[Le d m lv,pe m fs c,lh,Dd fs]) (post:=λr H'=>r= .int .i64 0/\H'=[Le d m lv,pe m fs c,lh,Dd fs]) ?_ (by simp) (λr H' p=>⟨[Le d m lv++(pe m fs c++(lh++Dd fs))],by rw[p.2];simp,by rw[p.1,Be.synced,hk];rfl,rfl⟩);refine Tk func207 λg R=>?_;refine WX.lookup rfl rfl rfl ?_;rw[hv];try refine run ?_
  exact Wi [Le d m lv,pe m fs c,lh,Dd fs]
 |some x=>
  obtain⟨f,pre,post,rfl,rfl,hn,hok,h1,h2,hv⟩:=hd.has hk;have hr:=ia.rs hok;refine Ct.pack (pre:=[Le d m lv,pe m (pre++f::post) c,lh,Dd pre,Yq f.blk (.slice f.p f.l f.c) f.s,f.h,Dd post]) (post:=λr H'=>r= .int .i64 (f.s:Int)/\H'=[Le d m lv,pe m (pre++f::post) c,lh,Dd pre,Yq f.blk (.slice f.p f.l f.c) f.s,f.h,Dd post]) ?_ (by rw[Qd];simp) (λr H' p=>⟨[Le d m lv++(pe m (pre++f::post) c++(lh++Dd (pre++f::post)))],by rw[p.2,Qd];simp,by rw[p.1,Be.synced,hk];rfl,rfl⟩);refine Tk func207 λg R=>?_;refine WX.lookup rfl rfl rfl ?_;rw[hv];try refine run ?_
  exact Wi [Le d m lv,pe m (pre++f::post) c,lh,Dd pre,Yq f.blk (.slice f.p f.l f.c) f.s,f.h,Dd post]
def oR{xs:List UInt8}{v:Value}(hs:Rs xs v h)(hl:xs.length<=1099511627776):
  Ct prog 231 [v] [h] (λr H'=>∃h',ia 5 xs r h'/\H'=[h',h]):=by
 obtain⟨p,c,rfl⟩:=hs.len;refine ce func231 λg R=>?_;simp only[can]
 cases p with
 |none=>
  have hx:xs=[]:=by
   obtain⟨a,c',e,_,f⟩:=hs;cases e
   cases xs with
   |nil=>rfl
   |cons y r=>obtain⟨b,off,e,_⟩:=f 0 y rfl;cases e
  subst hx;repeat' first|refine run ?_|refine WX.uO rfl rfl rfl ?_
  exact Xa [[],h] rfl rfl ⟨_,ia.nil _,rfl⟩
 |some a=>
  repeat' first|refine run ?_|refine WX.uO rfl rfl rfl ?_
  refine WX.lit (ys:=([]:List UInt8)) (vs:=[]) rfl rfl rfl rfl rfl rfl (by decide) rfl (λv1 h1 hs1=>?_);try refine run ?_
  refine Jt (zb:=by simp only[td];omega) hs1 hs (λv2 h2 Sa=>?_);rw[nil_append] at Sa;try refine run ?_
  exact Xa [h2,h] rfl rfl ⟨_,Sa,rfl⟩
def Be.Xt(S:Be)(k:Int):List UInt8:=match S.find k with
 |none=>[]
 |some f=>f.b
def gV(hd:Od S d h)(k:Int)(hl:(S.Xt k).length<=1099511627776):
  Ct prog 167 [d,k] [h] (λr H'=>∃u hb,r= .tuple #[u,.int .i64 (S.Av k)]/\H'=[h,hb]/\ia 5 (S.Xt k) u hb):=by
 obtain⟨m,c,lv,fs,lh,hd,rfl⟩:=hd;unfold Be.Xt at hl⊢
 cases hk:S.find k with
 |none=>
  obtain⟨_,hv⟩:=hd.no hk;refine Ct.pack (pre:=[Le d m lv,pe m fs c,lh,Dd fs]) (post:=λr H'=>r= .tuple #[.slice none 0 0,.int .i64 50]/\H'=[Le d m lv,pe m fs c,lh,Dd fs]) ?_ (by simp) (λr H' p=>⟨[Le d m lv++(pe m fs c++(lh++Dd fs)),[]],by rw[p.2];simp,_,[],by rw[p.1,Be.Av,hk];rfl,rfl,ia.nil _⟩);refine Tk func167 λg R=>?_;refine WX.lookup rfl rfl rfl ?_;rw[hv];try refine run ?_
  exact D.Vb [Le d m lv,pe m fs c,lh,Dd fs] _ rfl rfl rfl ⟨rfl,rfl⟩
 |some x=>
  obtain⟨f,pre,post,rfl,rfl,hn,hok,h1,h2,hv⟩:=hd.has hk;have hr:=ia.rs hok;rw[hk] at hl;have hl:f.b.length<=1099511627776:=hl
  refine Ct.pack (pre:=[Le d m lv,pe m (pre++f::post) c,lh,Dd pre,Yq f.blk (.slice f.p f.l f.c) f.s,f.h,Dd post]) (post:=λr H'=>∃u hb,r= .tuple #[u,.int .i64 0]/\H'=[Le d m lv,pe m (pre++f::post) c,lh,Dd pre,Yq f.blk (.slice f.p f.l f.c) f.s,f.h,Dd post]++[hb]/\ia 5 f.b u hb) ?_ (by rw[Qd];simp)
   (λr H' ⟨u,hb,e1,e2,e3⟩=>⟨[Le d m lv++(pe m (pre++f::post) c++(lh++Dd (pre++f::post))),hb],by rw[e2,Qd];simp,u,hb,by rw[e1,Be.Av,hk];rfl,rfl,e3⟩)
  refine Tk func167 λg R=>?_;refine WX.lookup rfl rfl rfl ?_;rw[hv];try refine run ?_
  refine ck (oR hr hl) ?_;rintro u _ ⟨hb,vI,rfl⟩;refine rn ?_;exact D.Vb [Le d m lv,pe m (pre++f::post) c,lh,Dd pre,Yq f.blk (.slice f.p f.l f.c) f.s,f.h,Dd post,hb] _ rfl rfl rfl ⟨_,_,rfl,rfl,vI⟩
def rF(fs vis:List Fl):Prop:=∃rest,(vis++rest).Perm fs
def rF.start(fs:List Fl):rF fs []:=⟨fs,List.Perm.refl _⟩
def rF.mem(h:rF fs vis):∀z∈vis.map Fl.me,z∈fs.map Fl.me:=by
 obtain⟨rest,hp⟩:=h;intro z hz;obtain⟨f,hf,rfl⟩:=mem_map.1 hz;exact mem_map.2 ⟨f,hp.mem_iff.1 (mem_append_left _ hf),rfl⟩
def rF.le(h:rF fs vis):vis.length<=fs.length:=by
 obtain⟨rest,hp⟩:=h;have:=hp.length_eq;rw[Eb] at this;omega
def rF.done{c:Nat}(h:rF fs vis)(mp:Vr (fs.map Fl.me) c)(ha:∀z∈fs.map Fl.me,z∈vis.map Fl.me):vis.Perm fs:=by
 obtain⟨rest,hp⟩:=h
 have hn:((vis++rest).map (λf=>f.me.k)).Nodup:=by
  have h1:=mp.ks;rw[map_map] at h1;exact(hp.map _).nodup_iff.2 h1
 cases rest with
 |nil=>simpa using hp
 |cons f r=>
  have hf:f.me∈vis.map Fl.me:=ha _ (mem_map.2 ⟨f,hp.mem_iff.1 (by simp),rfl⟩);obtain⟨f',hf',he⟩:=mem_map.1 hf;rw[He,nodup_append] at hn;exact absurd (congrArg Me.k he) (hn.2.2 _ (mem_map.2 ⟨f',hf',rfl⟩) _ (mem_map.2 ⟨f,by simp,rfl⟩))
def rF.step{f:Fl}(h:rF fs vis)(hf:f∈fs)(hv:f.me∉vis.map Fl.me):rF fs (vis++[f])/\vis.length<fs.length:=by
 obtain⟨rest,hp⟩:=h
 have h1:f∈rest:=by
  rcases mem_append.1 (hp.mem_iff.2 hf) with h|h
  .exact absurd (mem_map.2 ⟨f,h,rfl⟩) hv
  .exact h
 obtain⟨a,b,rfl⟩:=append_of_mem h1;refine⟨⟨a++b,?_⟩,?_⟩
 .refine List.Perm.trans ?_ hp;rw[Sc];exact List.Perm.append_left _ (by simpa using(perm_middle (a:=f) (l₁:=a) (l₂:=b)).symm)
 .have:=hp.length_eq;simp at this;omega
def EE(h:rF fs vis):(vis.map (·.b.length)).sum<=(fs.map (·.b.length)).sum:=by
 obtain⟨rest,hp⟩:=h;rw[<-(hp.map (·.b.length)).sum_nat,He,sum_append_nat];omega
def SM(hd:Od S d h)(hu:S.used<=1099511627776):
  Ct prog 203 [d] [h] (λr H'=>r= .int .i64 (S.used:Int)/\H'=[h]):=by
 obtain⟨m,c,lv,fs,lh,hd,rfl⟩:=hd;have Sn:S.used=(fs.map (·.b.length)).sum:=by unfold Be.used;rw[<-hd.fs,nR]
 refine Ct.pack (pre:=[Le d m lv,pe m fs c,lh,Dd fs]) (post:=λr H'=>r= .int .i64 (S.used:Int)/\H'=[Le d m lv,pe m fs c,lh,Dd fs]) ?_ (by simp) (λr H' p=>⟨[Le d m lv++(pe m fs c++(lh++Dd fs))],by rw[p.2];simp,p.1,rfl⟩);refine Tk func203 λg R=>?_;refine WX.range rfl rfl (λr=>?_);try refine run ?_
 refine W.loop (α:=List Fl) (λvis=>rF fs vis) (λvis=>[(3,.int .i64 ((vis.map (·.b.length)).sum:Nat)),(10,r)]) (λvis=>[[(r,Dj m c (vis.map Fl.me))],Le d m lv,pe m fs c,lh,Dd fs,R]) (λvis=>fs.length - vis.length) [] (rF.start fs) (by repeat(first|exact Aa.nil|refine Aa.cons rfl ?_)) (by show Ia _ [[(r,Dj m c [])],Le d m lv,pe m fs c,lh,Dd fs,R];exact(Ia.qa inferInstance)) ?_;intro vis hv;try refine run ?_
 refine WX.next rfl hd.mp hv.mem rfl (λha=>?_) (λz hz ZZ=>?_)
 .have hp:=hv.done hd.mp ha;try refine run ?_
  exact Xa [Le d m lv,pe m fs c,lh,Dd fs] rfl rfl ⟨by rw[Sn,(hp.map (·.b.length)).sum_nat],rfl⟩
 .obtain⟨f,hf,rfl⟩:=mem_map.1 hz;obtain⟨NM,hlt⟩:=hv.step hf ZZ;obtain⟨pre,post,TX⟩:=append_of_mem hf;have T5:Dd fs=Dd pre++(Yq f.blk (.slice f.p f.l f.c) f.s++(f.h++Dd post)):=by rw[TX,Qd]
  have hr:Rs f.b (.slice f.p f.l f.c) f.h:=(hd.ok f hf).rs;have Ue:=EE NM;rw[<-Sn] at Ue;have Iq:((vis++[f]).map (·.b.length)).sum=(vis.map (·.b.length)).sum+f.b.length:=by simp[sum_append_nat]
  refine WX.flat (H':=[[(r,Dj m c (vis.map Fl.me++[f.me]))],Le d m lv,pe m fs c,lh,Dd pre,Yq f.blk (.slice f.p f.l f.c) f.s,f.h,Dd post,R]) (by simp[T5]) ?_;try refine run ?_
  refine WX.entry (vis:=vis.map Fl.me) (z:=f.me) rfl hd.mp (mem_map.2 ⟨f,hf,rfl⟩) rfl ?_;try refine run ?_
  refine D.as 3 (.int .i64 (((vis++[f]).map (·.b.length)).sum:Nat)) rfl (by rw[Iq];congr 1) ?_;refine D.flat (H':=[[(r,Dj m c ((vis++[f]).map Fl.me))],Le d m lv,pe m fs c,lh,Dd fs,R]) (by simp[T5]) ?_;exact D.rd (vis++[f]) NM (by simp only[Eb,Ib,td];omega)
def gL{xs ys:List Int}(h:xs.Perm ys):Cm xs=Cm ys:=by
 have ht:∀a b c:Int,decide (a<=b)=true->decide (b<=c)=true->decide (a<=c)=true:=λa b c h1 h2=>by simp at*;omega
 have hto:∀a b:Int,(decide (a<=b)||decide (b<=a))=true:=λa b=>by simp;omega
 refine List.Perm.eq_of_pairwise (le:=λa b=>decide (a<=b)=true) ?_ (pairwise_mergeSort ht hto xs) (pairwise_mergeSort ht hto ys) ?_
 .intro a b _ _ h1 h2;simp at h1 h2;omega
 .exact(mergeSort_perm xs _).trans (h.trans (mergeSort_perm ys _).symm)
def Yt(hd:Od S d h)(hl:S.fs.length<=1099511627776):
  Ct prog 166 [d] [h] (λr H'=>∃hb,H'=[h,hb]/\ia 3 S.names r hb):=by
 obtain⟨m,c,lv,fs,lh,hd,rfl⟩:=hd;have hlen:=hd.len;refine Ct.pack (pre:=[Le d m lv,pe m fs c,lh,Dd fs]) (post:=λr H'=>∃hb,H'=[Le d m lv,pe m fs c,lh,Dd fs,hb]/\ia 3 S.names r hb) ?_ (by simp) (λr H' ⟨hb,e,p⟩=>⟨[Le d m lv++(pe m fs c++(lh++Dd fs)),hb],by rw[e];simp,hb,rfl,p⟩);refine Tk func166 λg R=>?_;refine WX.range rfl rfl (λr=>?_);try refine run ?_
 refine W.f0 [[(r,Dj m c [])],Le d m lv,pe m fs c,lh,Dd fs,[],R] ?_
 refine W.loop (α:=List Fl×Value×Hp) (λx=>rF fs x.1/\ia 3 (x.1.map (·.n)) x.2.1 x.2.2) (λx=>[(3,x.2.1),(9,r)]) (λx=>[[(r,Dj m c (x.1.map Fl.me))],Le d m lv,pe m fs c,lh,Dd fs,x.2.2,R]) (λx=>fs.length - x.1.length)
  ([],.slice none 0 0,[]) ⟨rF.start fs,ia.nil _⟩ (by repeat(first|exact Aa.nil|refine Aa.cons rfl ?_)) (by show Ia _ [[(r,Dj m c [])],Le d m lv,pe m fs c,lh,Dd fs,[],R];exact(Ia.qa inferInstance)) ?_
 rintro⟨vis,u,hu⟩ ⟨hv,hs⟩;simp only[] at hv hs⊢;have hvl:=hv.le;try refine run ?_
 refine WX.next rfl hd.mp hv.mem rfl (λha=>?_) (λz hz ZZ=>?_)
 .have hp:=hv.done hd.mp ha
  have hnm:Cm (vis.map (·.n))=S.names:=by
   unfold Be.names;rw[<-hd.fs,map_map];exact gL (hp.map _)
  try refine run ?_
  refine ck (iV hs (by rw[bf];omega)) ?_;rintro _ _ ⟨rfl,h',rfl,hs'⟩;rw[hnm] at hs';refine rn ?_;exact Xa [Le d m lv,pe m fs c,lh,Dd fs,h'] rfl rfl ⟨_,rfl,hs'⟩
 .obtain⟨f,hf,rfl⟩:=mem_map.1 hz;obtain⟨NM,hlt⟩:=hv.step hf ZZ;try refine run ?_
  refine WX.entry (vis:=vis.map Fl.me) (z:=f.me) rfl hd.mp (mem_map.2 ⟨f,hf,rfl⟩) rfl ?_;try refine run ?_
  refine Up [f.n] (λv1 h1 hs1=>?_);refine Jt (zb:=by rw[bf];simp only[Ib,td];omega) hs hs1.rs (λv2 h2 Sa=>?_);try refine run ?_
  have dV:vis.map Fl.me++[f.me]=(vis++[f]).map Fl.me:=by simp
  rw[dV];refine D.rd (vis++[f],v2,h2) ⟨NM,by simpa using Sa⟩ (by simp only[Eb,Ib,td];omega)
abbrev Dn(nb:Nat)(k:Int):Hp:=[(nb,.cells (List.toArray [k]) 3 (0,0))]
def jV(nb:Nat):Value:= .func (.func 281) (List.toArray []) (List.toArray [nb])
def En(k:Int)(p:Pc):Bool:=decide (p.f≠k)
def sF(nb:Nat)(k:Int)(p:Pc):Ct prog 281 [.agg (Qb.enc p).toArray,nb] [Dn nb k] (λr H'=>r= .bool (decide (p.f=k))/\H'=[Dn nb k]):=by
 refine ce func281 λg R=>?_;repeat' first|refine rn ?_|refine Uc λ_=>?_
 exact Wi [Dn nb k]
def HO{ps:List Pc}{v:Value}(hs:Rs ps v h)(nb:Nat)(k:Int)(hl:ps.length<=1099511627776):
  Ct prog 318 [v,jV nb] [h,Dn nb k] (λr H'=>r=(match ps.findIdx? (λp=>decide (p.f=k)) with|none=> .int .i64 (-1)|some i=> .int .i64 (i:Int))/\H'=[h,Dn nb k]):=by
 refine Tk func318 λg R=>?_;refine W.lo (α:=Nat) (λj=>j<=ps.length/\∀i p,i<j->ps[i]? =some p-> ¬p.f=k) (λj=>[(0,v),(1,jV nb),(7,.int .i64 (ps.length:Int)),(8,.int .i64 (j:Int))]) (λ_=>[h,Dn nb k,R]) (λj=>ps.length - j) 0 ⟨di _,λi p h=>absurd h (by omega)⟩ ?_;rintro j ⟨hj,hall⟩;by_cases hlt:j<ps.length
 .obtain⟨p,hp⟩:=Lh hlt;try refine run ?_
  refine WX.Yp rfl rfl (sF nb k p) rfl ?_;rintro _ _ ⟨rfl,rfl⟩;by_cases hpk:p.f=k
  .simp only[ca,na];try refine run ?_
   have hf:ps.findIdx? (λp=>decide (p.f=k))=some j:=by
    rw[List.findIdx?_eq_some_iff_getElem];obtain⟨h1,h2⟩:=List.getElem?_eq_some_iff.1 hp;refine⟨h1,by rw[h2];simpa using hpk,λi hi=>?_⟩;have:=hall i _ hi (Wg (by omega));simpa using this
   exact Xa [h,Dn nb k] rfl rfl ⟨by rw[hf],rfl⟩
  .simp only[ca,na];try refine run ?_
   refine D.rd (j+1) ⟨by omega,λi p' hi jI=>?_⟩ (by omega);rcases Nat.lt_or_ge i j with h|h
   .exact hall i p' h jI
   .obtain rfl:i=j:=by omega
    rw[hp] at jI;cases jI;exact hpk
 .have hf:ps.findIdx? (λp=>decide (p.f=k))=none:=by
   rw[List.findIdx?_eq_none_iff];intro x hx;obtain⟨i,hi⟩:=mem_iff_getElem?.1 hx;have hlt:=(List.getElem?_eq_some_iff.1 hi).1;simpa using hall i x (by omega) hi
  try refine run ?_
  exact Xa [h,Dn nb k] rfl rfl ⟨by rw[hf],rfl⟩
def kept(k:Int)(ps:List Pc)(j:Nat):List Pc:=(ps.take j).filter (En k)
def tF{k:Int}{ps:List Pc}{j:Nat}{p:Pc}(h:ps[j]? =some p):kept k ps (j+1)=kept k ps j++(if p.f=k then[] else[p]):=by
 obtain⟨h1,h2⟩:=List.getElem?_eq_some_iff.1 h;unfold kept;rw[take_succ_eq_append_getElem h1,h2,filter_append];congr 1;by_cases hp:p.f=k
 .simp[En,hp]
 .simp[En,hp]
structure Y6(k:Int)(ps:List Pc)(j:Nat)(l:List Pc):Prop where
 len:l.length=ps.length
 lt:(kept k ps j).length<j
 pre:l.take (kept k ps j).length=kept k ps j
 post:∀i,j<=i->l[i]? =ps[i]?
def iL{ps:List Pc}{v:Value}(hs:ia 245 ps v h)(nb:Nat)(k:Int)(hl:ps.length<=1099511627776):
  Ct prog 280 [v,jV nb] [h,Dn nb k] (λr H'=>∃h',H'=[h',Dn nb k]/\ia 245 (ps.filter (En k)) r h'):=by
 have pR:=HO hs.rs nb k hl;have XH:=hs.rs
 cases hf:ps.findIdx? (λp=>decide (p.f=k)) with
 |none=>
  rw[hf] at pR
  have hall:ps.filter (En k)=ps:=by
   rw[filter_eq_self];rw[List.findIdx?_eq_none_iff] at hf;intro p hp;have:=hf p hp;simpa[En] using this
  rw[hall];refine Tk func280 λg R=>?_;refine cq pR ?_;try refine run ?_
  exact Xa [h,Dn nb k] rfl rfl ⟨_,rfl,hs⟩
 |some i0=>
  rw[hf] at pR;simp only[] at pR;rw[List.findIdx?_eq_some_iff_getElem] at hf;obtain⟨CQ,hik,hib⟩:=hf
  have G1:kept k ps i0=ps.take i0:=by
   unfold kept;rw[filter_eq_self];intro p hp;obtain⟨j,hj,he⟩:=mem_take_iff_getElem.1 hp;have:=hib j (by omega);rw[he] at this;simpa[En] using this
  have Om:kept k ps (i0+1)=ps.take i0:=by
   rw[tF (Wg CQ),G1,if_pos (by simpa using hik),append_nil]
  have Zt:(kept k ps (i0+1)).length=i0:=by rw[Om,Oe];omega
  refine Tk func280 λg R=>?_;refine cq pR ?_;try refine run ?_
  refine W.as 5 (.int .i64 ((kept k ps (i0+1)).length:Int)) rfl (by rw[Zt]) ?_;refine W.as 6 (.int .i64 ((i0+1:Nat):Int)) rfl (by congr 1) ?_
  refine W.lo (α:=Nat×List Pc×Hp) (λx=>x.1<=ps.length/\Y6 k ps x.1 x.2.1/\ia 245 x.2.1 v x.2.2) (λx=>[(0,v),(1,jV nb),(5,.int .i64 ((kept k ps x.1).length:Int)),(6,.int .i64 (x.1:Int))]) (λx=>[x.2.2,Dn nb k,R]) (λx=>ps.length - x.1)
   (i0+1,ps,h) ⟨by simp only[];omega,⟨rfl,by rw[Zt];omega,by rw[Zt,Om],λ_ _=>rfl⟩,hs⟩ ?_
  clear XH;rintro⟨j,l,h2⟩ ⟨hj,hI,Ue⟩;simp only[] at hj hI Ue⊢;have hrl:=Ue.rs;have tg:=hI.len;have hkj:=hI.lt;by_cases hlt:j<ps.length
  .obtain⟨p,hp⟩:=Lh hlt;have hlp:l[j]? =some p:=by rw[hI.post j (Nat.le_refl _),hp]
   have hks:=tF (k:=k) hp;repeat' first|refine run ?_|refine al λ_=>?_
   refine WX.Yp rfl rfl (sF nb k p) rfl ?_;rintro _ _ ⟨rfl,rfl⟩;by_cases hpk:p.f=k
   .rw[if_pos hpk,append_nil] at hks;refine rn ?_;refine D.as 5 (.int .i64 ((kept k ps (j+1)).length:Int)) rfl (by rw[hks]) ?_;refine D.rd (j+1,l,h2) ⟨by simp only[];omega,⟨tg,by rw[hks];omega,by rw[hks];exact hI.pre,λi hi=>hI.post i (by omega)⟩,Ue⟩ (by simp only[];omega)
   .rw[if_neg hpk] at hks;obtain⟨y,hy⟩:∃y,l[(kept k ps j).length]? =some y:=⟨_,Wg (by omega)⟩;refine rn ?_;refine WX.zo (y':=p) (vs:=Qb.enc p) rfl rfl rfl Ue hy rfl rfl rfl (Vh rfl) rfl (λh3 Cc=>?_);try refine run ?_
    refine D.as 5 (.int .i64 ((kept k ps (j+1)).length:Int)) rfl (by rw[hks,Eb];congr 1) ?_;refine D.rd (j+1,l.set (kept k ps j).length p,h3) ⟨by simp only[];omega,⟨by simp[tg],by rw[hks,Eb];simp only[Ib,td];omega,?_,λi hi=>?_⟩,Cc⟩ (by simp only[];omega)
    .rw[hks,Eb];simp only[Ib,td,Nat.zero_add];rw[take_succ_eq_append_getElem (by simp;omega),take_set_of_le (Nat.le_refl _),hI.pre];simp
    .simp only[] at hi;rw[List.getElem?_set_ne (by omega)];exact hI.post i (by omega)
  .obtain rfl:j=ps.length:=by omega
   have GU:kept k ps ps.length=ps.filter (En k):=by unfold kept;rw[take_length]
   obtain⟨b,cap,sp,fr,rfl,rfl,g1,g2,g3⟩:=Ue.ne (by omega);have hz:Qb.sz Pc=2:=rfl;have hpre:=hI.pre;clear hI;generalize hK:kept k ps ps.length=K at*
   have hcs:Jb l++sp=Jb K++(Jb (l.drop K.length)++sp):=by
    conv=>lhs;rw[<-take_append_drop K.length l,hpre,Hg,Sc]
   try refine run ?_
   refine WX.vi (lo:=K.length) rfl rfl (by omega) g1 rfl ?_;rw[au,if_neg (by omega)];simp only[Option.map_some,Xc,Nat.zero_add];have hel:(Jb K).length=K.length*2:=by rw[Ic,hz]
   have wI:(Jb (l.drop K.length)++sp).length=(cap - K.length)*2:=by
    rw[Eb,Ic,length_drop,g2,hz];omega
   have Ah:(Jb l++sp).length=cap*2:=by rw[hcs,Eb,hel,wI];omega
   refine WX.jL rfl (by rw[Ah];exact g3) (by omega) (by rw[Ah];simp only[Ib,td];omega) rfl ?_;rw[hcs,show K.length*2=(Jb K).length+0 by rw[hel];rfl,Yc];generalize hsp:setAt (Jb (List.drop K.length l)++sp) 0 _=sp';try refine run ?_
   refine Xa [[(b,.cells (List.toArray (Jb K++sp')) 245 fr)],Dn nb k] rfl rfl ⟨_,rfl,.inr ⟨b,cap,sp',fr,?_,?_,?_,?_,g3⟩⟩
   .rw[<-GU];rfl
   .rw[<-GU]
   .rw[<-GU];omega
   .rw[<-hsp,Jq,wI,<-GU,hz]
variable{post:List Fl}{f:Fl}{k:Int}
def uF{ps:List Pc}{lv:Value}{lh:Hp}(hs:ia 245 ps lv lh)(d m:Nat)(k:Int)(hl:ps.length<=1099511627776):
  Ct prog 235 [d,k] [Le d m lv,lh] (λr H'=>∃Ym Zm,r= .tuple #[]/\H'=[Le d m Ym,Zm]/\ia 245 (ps.filter (En k)) Ym Zm):=by
 refine ce func235 λg R=>?_;repeat' first|refine rn ?_|refine Uc λ_=>?_|(refine WX.makeFunc (first:=[]) rfl rfl rfl ?_)
 rename_i nb;refine ck (iL hs nb k hl) ?_;rintro r _ ⟨h',rfl,hs'⟩;obtain⟨p',n',c',rfl⟩:=hs'.sh;refine rn ?_;exact D.fc [Le d m (.slice p' n' c'),h'] _ rfl ⟨_,_,rfl,rfl,hs'⟩
def HG{pre:List Fl}{f':Fl}{g:yd->yd}(h1:∀x∈pre,x.n≠k)(h2:∀x∈post,x.n≠k)(hn:f.n=k)(hg:g f.file=f'.file):
  ((pre++f::post).map Fl.file).map (λx=>if x.n=k then g x else x)=(pre++f'::post).map Fl.file:=by
 have hid:∀(l:List Fl),(∀x∈l,x.n≠k)->(l.map Fl.file).map (λx=>if x.n=k then g x else x)=l.map Fl.file:=by
  intro l hl;rw[map_map];apply map_congr_left;intro x hx;have: ¬x.file.n=k:=hl x hx;simp[this]
 rw[He,He,hid pre h1,map_cons,map_cons,hid post h2,He,map_cons];have:f.file.n=k:=hn;rw[if_pos this,hg]
def kV{pre:List Fl}(h1:∀x∈pre,x.n≠k)(h2:∀x∈post,x.n≠k)(hn:f.n=k):
  ((pre++f::post).map Fl.file).filter (λx=>decide (x.n≠k))=(pre++post).map Fl.file/\((pre++f::post).map Fl.me).filter (λx=>decide (x.k≠k))=(pre++post).map Fl.me:=by
 have e1:∀(l:List Fl),(∀x∈l,x.n≠k)->(l.map Fl.file).filter (λx=>decide (x.n≠k))=l.map Fl.file:=by
  intro l hl;rw[filter_eq_self];intro x hx;obtain⟨y,hy,rfl⟩:=mem_map.1 hx;exact Mi (hl y hy)
 have e2:∀(l:List Fl),(∀x∈l,x.n≠k)->(l.map Fl.me).filter (λx=>decide (x.k≠k))=l.map Fl.me:=by
  intro l hl;rw[filter_eq_self];intro x hx;obtain⟨y,hy,rfl⟩:=mem_map.1 hx;exact Mi (hl y hy)
 constructor
 .rw[He,filter_append,e1 pre h1,map_cons,filter_cons,if_neg (by simp[Fl.file,hn]),e1 post h2,He]
 .rw[He,filter_append,e2 pre h1,map_cons,filter_cons,if_neg (by simp[Fl.me,hn]),e2 post h2,He]
def xI(hd:Od S d h)(k:Int)(tg:S.loose.length<=1099511627776):
  Ct prog 206 [d,k] [h] (λr H'=>∃h',r= .int .i64 (S.Av k)/\H'=[h']/\Od (S.sync k) d h'):=by
 obtain⟨m,c,lv,fs,lh,hd,rfl⟩:=hd
 cases hk:S.find k with
 |none=>
  obtain⟨_,hv⟩:=hd.no hk;have hE:S.Av k=50:=by simp[Be.Av,hk]
  have hS:S.sync k=S:=by simp[Be.sync,hk]
  rw[hE,hS];refine Ct.pack (pre:=[Le d m lv,pe m fs c,lh,Dd fs]) (post:=λr H'=>r= .int .i64 50/\H'=[Le d m lv,pe m fs c,lh,Dd fs]) ?_ (by simp) (λr H' p=>⟨[Le d m lv++(pe m fs c++(lh++Dd fs))],by rw[p.2];simp,_,p.1,rfl,m,c,lv,fs,lh,hd,rfl⟩);refine Tk func206 λg R=>?_;refine WX.lookup rfl rfl rfl ?_;rw[hv];try refine run ?_
  exact Wi [Le d m lv,pe m fs c,lh,Dd fs]
 |some x=>
  obtain⟨f,pre,post,rfl,rfl,hn,hok,h1,h2,hv⟩:=hd.has hk;have hr:=ia.rs hok;have hE:S.Av k=0:=by simp[Be.Av,hk]
  obtain⟨f',hf'⟩:∃f':Fl,f'={f with s:=f.b.length}:=⟨_,rfl⟩
  have hS:S.sync k={fs:=(pre++f'::post).map Fl.file,loose:=S.loose.filter (En k)}:=by
   have:S.EO k (λf=>{f with s:=f.b.length})=(pre++f'::post).map Fl.file:=by
    unfold Be.EO;rw[<-hd.fs];exact HG h1 h2 hn (by rw[hf'];rfl)
   simp only[Be.sync,hk,Option.isNone_some,Bool.false_eq_true,if_false,this];rfl
  have hme:(pre++f'::post).map Fl.me=(pre++f::post).map Fl.me:=by rw[hf'];simp[Fl.me]
  have lV:pe m (pre++f'::post) c=pe m (pre++f::post) c:=by unfold pe;rw[hme]
  rw[hE,hS]
  refine Ct.pack (pre:=[Le d m lv,pe m (pre++f::post) c,lh,Dd pre,Yq f.blk (.slice f.p f.l f.c) f.s,f.h,Dd post]) (post:=λr H'=>∃Ym Zm,r= .int .i64 0/\H'=[Le d m Ym,pe m (pre++f::post) c,Zm,Dd pre,Yq f.blk (.slice f.p f.l f.c) f.b.length,f.h,Dd post]/\ia 245 (S.loose.filter (En k)) Ym Zm) ?_ (by rw[Qd];simp)
   (λr H' ⟨Ym,Zm,e1,e2,e3⟩=>⟨[Le d m Ym++(pe m (pre++f'::post) c++(Zm++Dd (pre++f'::post)))],by rw[e2,Qd,lV,hf'];simp,_,e1,rfl,m,c,Ym,_,Zm,⟨by rw[hme];exact hd.mp,λx hx=>?_,rfl,e3⟩,rfl⟩)
  .refine Tk func206 λg R=>?_;refine WX.lookup rfl rfl rfl ?_;rw[hv];try refine run ?_
   refine ck (uF hd.sl d m k tg) ?_;rintro _ _ ⟨Ym,Zm,rfl,rfl,hs'⟩;refine rn ?_;exact Xa [Le d m Ym,pe m (pre++f::post) c,Zm,Dd pre,Yq f.blk (.slice f.p f.l f.c) f.b.length,f.h,Dd post] rfl rfl ⟨_,_,rfl,rfl,hs'⟩
  .rcases mem_append.1 hx with hx|hx
   .exact hd.ok x (mem_append_left _ hx)
   .rcases mem_cons.1 hx with rfl|hx
    .rw[hf'];exact hok
    .exact hd.ok x (mem_append_right _ (Vn _ hx))
def gz(hd:Od S d h)(k:Int)(tg:S.loose.length<=1099511627776):
  Ct prog 171 [d,k] [h] (λr H'=>∃h',r= .int .i64 (S.Av k)/\H'=[h']/\Od (S.remove k) d h'):=by
 obtain⟨m,c,lv,fs,lh,hd,rfl⟩:=hd
 cases hk:S.find k with
 |none=>
  obtain⟨_,hv⟩:=hd.no hk;have hE:S.Av k=50:=by simp[Be.Av,hk]
  have hS:S.remove k=S:=by simp[Be.remove,hk]
  rw[hE,hS];refine Ct.pack (pre:=[Le d m lv,pe m fs c,lh,Dd fs]) (post:=λr H'=>r= .int .i64 50/\H'=[Le d m lv,pe m fs c,lh,Dd fs]) ?_ (by simp) (λr H' p=>⟨[Le d m lv++(pe m fs c++(lh++Dd fs))],by rw[p.2];simp,_,p.1,rfl,m,c,lv,fs,lh,hd,rfl⟩);refine Tk func171 λg R=>?_;refine WX.lookup rfl rfl rfl ?_;rw[hv];try refine run ?_
  exact Wi [Le d m lv,pe m fs c,lh,Dd fs]
 |some x=>
  obtain⟨f,pre,post,rfl,rfl,hn,hok,h1,h2,hv⟩:=hd.has hk;have hE:S.Av k=0:=by simp[Be.Av,hk]
  obtain⟨e1,e2⟩:=kV h1 h2 hn
  have hS:S.remove k={fs:=(pre++post).map Fl.file,loose:=S.loose.filter (En k)}:=by
   simp only[Be.remove,hk,Option.isNone_some,Bool.false_eq_true,if_false];rw[<-hd.fs,e1];rfl
  rw[hE,hS];refine Ct.yI (pre:=[Le d m lv,pe m (pre++f::post) c,lh,Dd (pre++f::post)]) (post:=λr H'=>∃Ym Zm,r= .int .i64 0/\H'=[Le d m Ym,pe m (pre++post) c,Zm,Dd (pre++f::post)]/\ia 245 (S.loose.filter (En k)) Ym Zm) ?_ (by simp) ?_
  .refine Tk func171 λg R=>?_;refine WX.lookup rfl rfl rfl ?_;rw[hv];try refine run ?_
   refine WX.UX rfl rfl hd.mp.ks ?_;rw[e2];try refine run ?_
   refine ck (uF hd.sl d m k tg) ?_;rintro _ _ ⟨Ym,Zm,rfl,rfl,hs'⟩;refine rn ?_;exact Xa [Le d m Ym,pe m (pre++post) c,Zm,Dd (pre++f::post)] rfl rfl ⟨_,_,rfl,rfl,hs'⟩
  .rintro r _ ⟨Ym,Zm,rfl,rfl,hs'⟩;refine⟨[Le d m Ym++(pe m (pre++post) c++(Zm++Dd (pre++post)))],f.hp,?_,_,rfl,rfl,m,c,Ym,pre++post,Zm,⟨by rw[<-e2];exact hd.mp.del _,λx hx=>hd.ok x ?_,rfl,hs'⟩,rfl⟩
   .simp only[Dd,He,map_cons,flatten_append,flatten_cons,flatten_nil,append_nil,cons_append,nil_append,Sc];refine List.Perm.cons _ (List.Perm.cons _ (List.Perm.append_left _ (List.Perm.append_left _ perm_append_comm)))
   .rcases mem_append.1 hx with hx|hx
    .exact mem_append_left _ hx
    .exact mem_append_right _ (Vn _ hx)
variable{n:Nat}
def Ed(n:Nat):List UInt8:=if n<128 then[UInt8.ofNat n] else UInt8.ofNat (128+n% 128)::Ed (n/128)
def mg(h:n<128):Ed n=[UInt8.ofNat n]:=by rw[Ed,if_pos h]
def Qo(h: ¬n<128):Ed n=UInt8.ofNat (128+n% 128)::Ed (n/128):=by rw[Ed,if_neg h]
def qU:∀(k:Nat) {n:Nat},n<128^(k+1)->(Ed n).length<=k+1:=by
 intro k
 induction k with
 |zero=>intro n h;rw[mg (by omega)];simp
 |succ k ih=>
  intro n h;by_cases h1:n<128
  .rw[mg h1];simp
  .rw[Qo h1,Ib]
   have:n/128<128^(k+1):=by
    rw[Nat.div_lt_iff_lt_mul (by decide)];rw[Nat.pow_succ] at h;exact h
   have:=ih this;omega
def Eu(n:Nat):0<(Ed n).length:=by
 by_cases h:n<128
 .rw[mg h];simp
 .rw[Qo h];simp
def kA(h:n<=4611686018427387904):(Ed n).length<=9:=qU 8 (by omega)
def Of(h:n<256):(UInt8.ofNat n).toNat=n:=by rw[UInt8.toNat_ofNat'];exact Nat.mod_eq_of_lt h
structure Cd where
 b:List UInt8:=[]
 p:Nat:=0
 rd:Bool:=false
 bad:Bool:=false
 arg:Bool:=false
 Bd:Bool:=false
abbrev dr(c:Nat)(v:Value)(p:Nat)(rd bad arg Bd:Bool):Hp:=[(c,.cells (List.toArray [v,.int .i64 (p:Int),.bool rd,.bool bad,.bool arg,.bool Bd]) 254 (0,0))]
abbrev Pr(c:Nat)(C:Cd)(v:Value):Hp:=dr c v C.p C.rd C.bad C.arg C.Bd
def Cd.num(C:Cd)(n:Int):Cd:=if n<0\/4611686018427387904<n then{C with arg:=true} else{C with b:=C.b++Ed n.toNat}
def QW{C:Cd}(hr:C.rd=false){v:Value}{h:Hp}(hs:ia 5 C.b v h){vs:List Value}{T:Nat}{fr:Nat×Nat}{o:Nat}{n:Int}(hn:vs[o]? =some (n))(hl:C.b.length<=1099511627776){c b:Nat}:
  Ct prog 277 [c,.pointer (some ⟨b,o,none⟩)] [Pr c C v,[(b,.cells vs.toArray T fr)],h] (λ_ H'=>∃v' h',H'=[Pr c (C.num n) v',[(b,.cells vs.toArray T fr)],h']/\ia 5 (C.num n).b v' h'):=by
 obtain⟨B,p,rd,bad,arg,Bd⟩:=C;simp only[] at hr hs hl⊢;subst hr;refine ce func277 λg R=>?_;simp only[can];by_cases h1:n<0
 .rw[show(Cd.num ⟨B,p,false,bad,arg,Bd⟩ n)=⟨B,p,false,bad,true,Bd⟩ from if_pos (.inl h1)];repeat' first|refine run ?_|refine WX.load rfl hn rfl ?_
  exact D.ri [Pr c ⟨B,p,false,bad,true,Bd⟩ v,[(b,.cells vs.toArray T fr)],h] _ rfl ⟨_,_,rfl,hs⟩
 by_cases h2:4611686018427387904<n
 .rw[show(Cd.num ⟨B,p,false,bad,arg,Bd⟩ n)=⟨B,p,false,bad,true,Bd⟩ from if_pos (.inr h2)];repeat' first|refine run ?_|refine WX.load rfl hn rfl ?_
  exact D.ri [Pr c ⟨B,p,false,bad,true,Bd⟩ v,[(b,.cells vs.toArray T fr)],h] _ rfl ⟨_,_,rfl,hs⟩
 rw[show(Cd.num ⟨B,p,false,bad,arg,Bd⟩ n)=⟨B++Ed n.toNat,p,false,bad,arg,Bd⟩ from if_neg (by omega)];obtain⟨m0,rfl⟩:∃m:Nat,n=(m:Int):=⟨n.toNat,by omega⟩;rw[Int.toNat_natCast];have h9:(Ed m0).length<=9:=kA (by omega);repeat' first|refine run ?_|refine WX.load rfl hn rfl ?_
 refine W.lo (α:=Nat×List UInt8×Value×Hp) (λx=>x.2.1++Ed x.1=Ed m0/\ia 5 (B++x.2.1) x.2.2.1 x.2.2.2/\x.1<=m0) (λx=>[(0,c),(4,.int .i64 (x.1:Int))])
  (λx=>[Pr c ⟨B,p,false,bad,arg,Bd⟩ x.2.2.1,[(b,.cells vs.toArray T fr)],x.2.2.2,R]) (λx=>x.1) (m0,[],v,h) ⟨rfl,by simpa using hs,Nat.le_refl _⟩ ?_
 rintro⟨m,dn,u,hu⟩ ⟨e1,hs1,hm⟩;simp only[] at e1 hs1 hm⊢;have hdl:dn.length<=9:=by rw[<-e1,Eb] at h9;omega
 by_cases hge:m<128
 .rw[mg hge] at e1;repeat' first|refine run ?_|refine WX.conv rfl rfl (IntWalk.u8_in _ (by omega)) ?_
  refine WX.as 48 (.int .u8 ((UInt8.ofNat m).toNat:Int)) rfl (by rw[Of (by omega)]) ?_;refine Up [UInt8.ofNat m] (λv1 h1 Sa=>?_);refine Jt (zb:=by simp only[Eb,Ib,td];omega) hs1 Sa.rs (λv2 h2 Cc=>?_);rw[Sc,e1] at Cc;obtain⟨p1,n1,c1,rfl⟩:=Cc.sh;try refine run ?_
  exact D.fc [Pr c ⟨B++Ed m0,p,false,bad,arg,Bd⟩ (.slice p1 n1 c1),[(b,.cells vs.toArray T fr)],h2] _ rfl ⟨_,_,rfl,Cc⟩
 .rw[Qo hge] at e1;repeat' first|refine run ?_|refine WX.rem rfl rfl rfl (by decide) ?_
  refine WX.as 35 (.int .i64 ((m% 128:Nat):Int)) rfl (by rw[Int.ofNat_tmod];rfl) ?_;repeat' first|refine run ?_|refine WX.conv rfl rfl (IntWalk.u8_in _ (by omega)) ?_
  refine WX.as 37 (.int .u8 ((UInt8.ofNat (128+m% 128)).toNat:Int)) rfl (by rw[Of (by omega)];congr 1) ?_;refine Up [UInt8.ofNat (128+m% 128)] (λv1 h1 Sa=>?_);refine Jt (zb:=by simp only[Eb,Ib,td];omega) hs1 Sa.rs (λv2 h2 Cc=>?_);rw[Sc] at Cc;obtain⟨p1,n1,c1,rfl⟩:=Cc.sh;repeat' first|refine run ?_|refine WX.quo rfl rfl rfl (by decide) ?_
  refine D.as 4 (.int .i64 ((m/128:Nat):Int)) rfl (by rw[IntWalk.i64_quo _ _ (by omega)];rfl) ?_;exact D.rd (m/128,dn++[UInt8.ofNat (128+m% 128)],.slice p1 n1 c1,h2) ⟨by simp only[];rw[Sc];exact e1,Cc,by simp only[];omega⟩ (by simp only[];omega)
variable{r s:Nat}
def Mh(x:UInt8):x.toNat<256:=x.toNat_lt
def yH(r:Nat):Nat:=if r &&& 1=1 then(r/2^1)^^^3988292384 else r/2^1
def OJ:Nat->Nat->Nat
 |0,r=>r
 |k+1,r=>yH (OJ k r)
def Ss(r:Nat)(x:UInt8):Nat:=OJ 8 (r^^^x.toNat)
def NZ(s:Nat)(bs:List UInt8):Nat:=4294967295^^^bs.foldl Ss (4294967295^^^s)
def wg(bs:List UInt8):Nat:=NZ 0 bs
def Oo{a b:Nat}(ha:a<4294967296)(hb:b<4294967296):a^^^b<4294967296:=Nat.xor_lt_two_pow (n:=32) ha hb
def RW(h:r<4294967296):yH r<4294967296:=by
 unfold yH;split
 .exact Oo (by omega) (by decide)
 .omega
def SH{r:Nat}(h:r<4294967296):∀k,OJ k r<4294967296
 |0=>h
 |k+1=>RW (SH h k)
def SW(h:r<4294967296)(x:UInt8):Ss r x<4294967296:=SH (Oo h (by have:=Mh x;omega)) 8
def zH{bs:List UInt8}:∀{r:Nat},r<4294967296->bs.foldl Ss r<4294967296:=by
 induction bs with
 |nil=>intro r h;exact h
 |cons x t ih=>intro r h;exact ih (SW h x)
def TW(h:s<4294967296)(bs:List UInt8):NZ s bs<4294967296:=Oo (by decide) (zH (Oo (by decide) h))
def LN(bs:List UInt8):wg bs<4294967296:=TW (by decide) bs
def UW(hr:r<4294967296):Ct prog 326 [.int .u32 (r:Int)] [] (λv H'=>v= .int .u32 (yH r:Int)/\H'=[]):=by
 have h1:r &&& 1<4294967296:=Nat.lt_of_le_of_lt Nat.and_le_left hr;refine ce func326 λg R=>?_;simp only[can];by_cases h:r &&& 1=1
 .rw[show yH r=(r/2^1)^^^3988292384 from if_pos h];repeat' first|refine run ?_|refine WX.DN (b:=1) rfl rfl hr (by decide) rfl ?_|refine WX.Po (m:=1) rfl rfl (by decide) rfl ?_|refine WX.PJ (b:=3988292384) rfl rfl (by omega) (by decide) rfl ?_
  exact Wi []
 .rw[show yH r=r/2^1 from if_neg h];repeat' first|refine run ?_|refine WX.DN (b:=1) rfl rfl hr (by decide) rfl ?_|refine WX.Po (m:=1) rfl rfl (by decide) rfl ?_
  exact Wi []
def VW{bs:List UInt8}{v:Value}(hb:Rs bs v h)(hs:s<4294967296)(hl:bs.length<=1099511627776):
  Ct prog 311 [.int .u32 (s:Int),v] [h] (λr H'=>r= .int .u32 (NZ s bs:Int)/\H'=[h]):=by
 refine ce func311 λg R=>?_;repeat' first|refine rn ?_|refine WX.EN rfl hs rfl ?_
 refine W.lo (α:=Nat) (λk=>k<=bs.length) (λk=>[(5,.int .u32 (((bs.take k).foldl Ss (4294967295^^^s):Nat):Int)),(10,v),(11,.int .i64 (bs.length:Int)),(12,.int .i64 (k:Int))]) (λ_=>[h,R]) (λk=>bs.length - k) 0 (di _) ?_;intro k hk;have RJ:(bs.take k).foldl Ss (4294967295^^^s)<4294967296:=zH (Oo (by decide) hs);by_cases hlt:k<bs.length
 .obtain⟨x,hx⟩:=Lh hlt;obtain⟨h1,h2⟩:=List.getElem?_eq_some_iff.1 hx
  have Qe:(bs.take (k+1)).foldl Ss (4294967295^^^s)=OJ 8 ((bs.take k).foldl Ss (4294967295^^^s)^^^x.toNat):=by
   rw[take_succ_eq_append_getElem h1,h2,foldl_append];rfl
  have zy:=Mh x;generalize hr:(bs.take k).foldl Ss (4294967295^^^s)=r at*;have hrx:r^^^x.toNat<4294967296:=Oo RJ (by omega);repeat' first|refine run ?_|refine WX.conv rfl rfl (IntWalk.u32_in _ (by omega)) ?_|refine WX.PJ rfl rfl RJ (by omega) rfl ?_
  refine W.lo (α:=Nat) (λi=>i<=8) (λi=>[(5,.int .u32 ((OJ i (r^^^x.toNat):Nat):Int)),(10,v),(11,.int .i64 (bs.length:Int)),(12,.int .i64 (k:Int)),(20,.int .i64 (i:Int))]) (λ_=>[h,R]) (λi=>8 - i) 0 (di _) ?_;intro i hi;have o7:=SH hrx i;by_cases K8:i<8
  .try refine run ?_
   refine cq (UW o7) ?_;try refine run ?_
   exact D.re (i+1)
  .obtain rfl:i=8:=by omega
   try refine run ?_
   refine D.as 5 (.int .u32 (((bs.take (k+1)).foldl Ss (4294967295^^^s):Nat):Int)) rfl (by rw[Qe]) ?_;exact D.re (k+1)
 .obtain rfl:k=bs.length:=by omega
  rw[take_length] at RJ⊢;repeat' first|refine run ?_|refine WX.EN rfl RJ rfl ?_
  exact Wi [h]
structure Sv where
 p:Option Addr
 l:Nat
 c:Nat
abbrev Sv.v(s:Sv):Value:= .slice s.p s.l s.c
instance:Qb Sv:=⟨1,λs=>[s.v],λ_=>rfl,λ_=>rfl,by decide⟩
def rU{sv:Sv}{u:Value}{hu:Hp}(hp:Rs [sv] u hu){bs:List UInt8}(hb:Rs bs sv.v h)(hl:bs.length<=1099511627776):
  Ct prog 276 [u] [hu,h] (λr H'=>r= .int .u32 (wg bs:Int)/\H'=[hu,h]):=by
 have h0:([sv]:List Sv)[0]? =some sv:=rfl;have hm:=VW hb (s:=0) (by decide) hl;refine Tk func276 λg R=>?_;refine W.lo (α:=Nat) (λk=>k<=1) (λk=>[(3,.int .u32 ((if k=0 then 0 else wg bs:Nat):Int)),(6,u),(7,.int .i64 (([sv].length:Nat):Int)),(8,.int .i64 (k:Int))]) (λ_=>[hu,h,R]) (λk=>1 - k) 0 (di _) ?_;intro k hk;have tg:(([sv].length:Nat):Int)=1:=rfl;by_cases G1:k=0
 .subst G1;try refine run ?_
  refine cq hm ?_;try refine run ?_
  exact D.re 1
 .obtain rfl:k=1:=by omega
  try refine run ?_
  exact Wi [hu,h]
end Go.Proofs.YthebagfahkebiaaGreat
