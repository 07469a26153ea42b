/- A part. -/
import Derived.Test.YteppbhimdjmabaaGreatDoorG05
set_option linter.all false
open _root_.Go.Builtin renaming growBy->aK,nextslicecap->aO,zeroCells->aP
open _root_.Go.Instr renaming buildSlice->aL
open List renaming length_append->aE,take_of_length_le->aN,eq_nil_of_length_eq_zero->aR,replicate->aS
open Nat renaming add_mul->aF,mul_le_mul_right->aH
open _root_.Go.Value renaming int->aQ
open _root_ renaming Nat->J,List->Z
open _root_.Go renaming Value->aC,TypeId->aI,Program->aJ
open _root_.Go.Proofs.YteppbhimdjmabaaGreatDoor renaming Heap->aM
namespace Go.Proofs.YteppbhimdjmabaaGreatDoor
open Go
def Cv{P:aJ}{t e:aI}{z:aC}{size bytes:J}(s:SliceT P t e z size bytes){len:J}{parts:Array (J×aC)}(hlen:len*size<=16777216){cells:Array aC} (hfill:Instr.fill (fun i=>some (i*size,size)) (H9 z.cells len) parts.toList=some cells) {K:VP} {h:aM} (x:∀b,h b=none->K (.slice (some ⟨b,0,none⟩) len len) (h.put b (.cells cells e))):wpH P (aL t len parts) K h:=by obtain⟨i,f,k,d,j⟩:=s.parts;unfold aL;simp only[C8,F2 s.und,K4 f,d];rw[iN o];have a:H9 z.cells len=(Array.range (len*size)).map (z.cells[· % z.cells.size]!):=by{unfold H9;rw[s.cells]};by_cases c:len*size=0;{simp only[c,if_true];have g:(Array.range 0).map (fun x=>(#[]:Array aC)[x%(#[]:Array aC).size]!)=H9 z.cells len:=by{grind};rw[C8,I5,g];simp only[hfill,C8,As,I5];exact x};·simp only[c,if_false,C8,S4 f k,I5];rw[a]at hfill;simp only[hfill,C8,As,I5];exact x
def Qk{P:aJ}{h:aM}(a:Addr)(K:Array aC->aM->Prop):∀(cs:Z aC) (i:J) (acc:Array aC),(∀j v,cs[j]? = some v->h.cell? (a.add (i+j))=some v)->K (acc++cs.toArray) h->wpH P (loadCellsFrom a i cs.length acc) K h:=by
 intro cs
 induction cs with
 |nil=>intro i acc _ x;simpa[loadCellsFrom,I5]using x
 |cons c cs ih=>
  intro i acc b x;refine⟨c,by simpa using b 0 c rfl,?_⟩;refine ih (i+1) (acc.push c) (fun j v d=>?_) ?_
  ·have:=b (j+1) v (by assumption);grind
  simp_all
def Aa{P:aJ}{h:aM}{a:Addr}{K:Array aC->aM->Prop}{cs:Z aC}{n:J}(hn:n=cs.length)(hc:∀j v,cs[j]? = some v->h.cell? (a.add j)=some v)(x:K cs.toArray h):wpH P (loadCells a n) K h:=by subst hn;exact Qk a K cs 0 #[] (fun j v b=>gz0) gz0
def H8{P:aJ}{g:aM}{b:J}{e:aI}{K:Unit->aM->Prop}:∀(vs:Z aC) (off i:J) (arr:Z aC),off+i+vs.length<=arr.length->(∀v∈vs,Qj v=true)->
 K () (g.put b (.cells (J0 arr (off+i) vs).toArray e))->wpH P (storeCells ⟨b,off,none⟩ vs i) K (g.put b (.cells arr.toArray e)):=by
 intro vs
 induction vs with
 |nil=>
  intro off i arr _ _ x;have:J0 arr (off+i) []=arr:=by simp[J0]
  rw[this]at x;exact x
 |cons v vs ih=>
  intro off i arr hl a x;simp only[List.length_cons]at hl;refine⟨a v (by simp),⟨arr[off+i]'o,?_⟩,?_,?_⟩;·rw[D9,E6];grind
  ·rw[D9];simp[Heap.frozen?,Heap.put]
  ·show wpH P (storeCells _ vs (i+1)) K _;rw[D9,Ik];have d:(arr.toArray.setIfInBounds (off+i) v)=(arr.set (off+i) v).toArray:=by simp
   rw[d];refine ih off (i+1) (arr.set (off+i) v) gz0 (fun u c=>a u (by simp[c])) ?_;rw[<- Nat.add_assoc,Yz arr (off+i) v vs o];exact x
def Priv(h g:aM)(e:aI)(s:J)(A:Option Addr)(n c:J)(xs:Z aC):Prop:=xs.length=n*s/\n<=c/\ ((c=0/\h=g)\/∃b arr,A=some ⟨b,0,none⟩/\g b=none/\h=g.put b (.cells (List.toArray arr) e)/\arr.length=c*s/\arr.take (n*s)=xs)
def Priv.le{h g:aM}{e:aI}{s:J}{A:Option Addr}{n c:J}{xs:Z aC}(p:Priv h g e s A n c xs):g.le h:=by rcases p.2.2 with⟨_,rfl⟩|⟨b,a,_,d,rfl,_⟩;{exact B8 _};·exact Heap.le_put _ d
def Priv.slV{h g:aM}{e:aI}{A:Option Addr}{n c:J}{xs:Z aC}(p:Priv h g e 1 A n c xs):SlV h A xs:=by rcases p.2.2 with⟨rfl,rfl⟩|⟨b,a,rfl,j,rfl,hl,f⟩;{left;have:=p.1;have:=p.2.1;grind};·right;refine⟨_,rfl,fun i v d=>?_⟩;rw[D9,E6];grind
def Priv.nil(h:aM)(e:aI)(s:J)(A:Option Addr):Priv h h e s A 0 0 []:=⟨by simp,Nat.le_refl _,.inl ⟨rfl,rfl⟩⟩
def Priv.put{h g:aM}{e:aI}{s:J}{A:Option Addr}{n c:J}{xs:Z aC}(p:Priv h g e s A n c xs){b:J}(hb:h b=none)(o:Obj):Priv (h.put b o) (g.put b o) e s A n c xs:=by refine⟨p.1,p.2.1,?_⟩;rcases p.2.2 with⟨f,rfl⟩|⟨i,d,f,j,rfl,k⟩;{grind};·have a:i≠b:=by{rintro rfl;rw[C3]at hb;cases hb};exact .inr ⟨i,d,f,by rw[C1 _ _ a];exact j,Heap.put_comm g _ _ a,k⟩
def N6{P:aJ}{h:aM}{A:Option Addr}{n c s:J}{cs:Z aC}(hl:cs.length=n*s)(hc:cs=[]\/∃a,A=some a/\∀j v,cs[j]? = some v->h.cell? (a.add j)=some v){K:Array aC->aM->Prop}(x:K cs.toArray h):
 wpH P (Builtin.firstCells s n (.slice A n c)) K h:=by
 cases A with
 |none=>
  rcases hc with rfl|⟨a,e,_⟩;·exact x
  ·cases e
 |some a=>
  show wpH P (loadCells a (n*s)) K h;rcases hc with rfl|⟨b,e,hc⟩;·exact Aa (cs:=[]) hl.symm (fun j v e=>by simp at e) x
  ·cases e;exact Aa hl.symm hc x
def Kf{P:aJ}{q:Question}(hq:q.forced=false){K:J->aM->Prop}{h:aM}(x:∀t,K (q.cut t) h):wpH P (choose q) K h:=by show if q.forced then _ else _;rw[hq];exact x
def A4l(new:J):∀(r c:J),c<=new->aK new r c<=new+(new+768)/4
 |0,c,h=>by simp only[aK];omega
 |r+1,c,h=>by
  simp only[aK];split;·omega
  ·by_cases h2:c+(c+768)/4<=new;·exact A4l new r _ h2
   ·have:∀r',aK new r' (c+(c+768)/4)=c+(c+768)/4:=by
     intro r'
     cases r' with
     |zero=>rfl
     |succ r'=>simp only[aK];grind
    grind
def Re{need c:J}(h:c<need):aO need c<=2*need+192:=by unfold aO;split;{omega};·split;{omega};·have:=A4l need 4 c o;omega
def Bz{P:aJ}{t e ty:aI}{z:aC}{size bytes:J}(st:SliceT P t e z size bytes){h g:aM}{A:Option Addr}{n c:J}{xs:Z aC}(p:Priv h g e size A n c xs)
 {B:Option Addr} {m d:J} {ys:Z aC} (hy:ys.length=m*size) (hc:ys=[]\/∃a,B=some a/\∀j v,ys[j]? = some v->h.cell? (a.add j)=some v) (h1:∀v∈ys,Qj v=true)
 (hb:(2*(n+m)+192)*bytes<=281474976710656) (hm:n+m<=9223372036854775807) {K:VP}
 (x:∀A' c' h' g',g.le g'->Priv h' g' e size A' (n+m) c' (xs++ys)->K (.slice A' (n+m) c') h'):
 wpH P (Builtin.append_ #[t,t] ty #[.slice A n c,.slice B m d]) K h:=by
 obtain⟨i,C,hz,S,y⟩:=st.parts;unfold Builtin.append_;simp only[List.getElem?_toArray,List.getElem?_cons_zero,List.getElem?_cons_succ,C8,F2 st.und,K4 C,I5,Bool.false_eq_true,if_false,Builtin.lenOf,S,Bool.not_false,if_true];by_cases f:n+m<=c
 ·simp only[f,if_true,C8];refine N6 hy hc ?_;rcases p.2.2 with⟨r,hg⟩|⟨b,k,R,E,V,G,s⟩
  ·
   have F:n=0:=o;have N:m=0:=o;subst F;subst N;subst hg;have Q:ys=[]:=aR o;have M:xs=[]:=aR (by simpa using p.1);subst Q;subst M;have fin:K (.slice A (0+0) c) h:=x A c h h (B8 _) ⟨by simp,o,.inl ⟨r,rfl⟩⟩
   cases A with
   |none=>exact fin
   |some a=>exact fin
  ·subst R;simp only[C8,D9,Nat.zero_add];rw[V];refine H8 ys.toArray.toList (n*size) 0 k ?_ (fun v hv=>h1 v o) ?_
   ·have:(n+m)*size<=c*size:=aH _ f;grind
   ·simp only[I5,Nat.add_zero];refine x _ c _ g (B8 _) ⟨by rw[aE,p.1,hy,aF],f,.inr ⟨b,_,rfl,E,rfl,?_,?_⟩⟩
    ·have:(n+m)*size<=c*size:=aH _ f;rw[aF]at this;simp only[J0,aE,List.length_take,List.length_drop,G,hy];omega
    ·have:(n+m)*size<=c*size:=aH _ f;have X:(k.take (n*size)).length=n*size:=gz0;unfold J0;have t1:(k.take (n*size)).take (n*size+m*size)=k.take (n*size):=aN o;have t2:ys.take (m*size)=ys:=aN o;rw[aF,List.append_assoc,List.take_append,X,Nat.add_sub_cancel_left,List.take_append,t1,t2,hy,Nat.sub_self,List.take_zero,List.append_nil,s]
 ·have L:c<n+m:=o;simp only[f,if_false,C8,J6 C,y];have T:=Re L;have aa:aO (n+m) c*bytes<=281474976710656:=Nat.le_trans (aH _ T) hb;rw[iN (by rintro⟨h',_⟩;simp only[IntKind.max,IntKind.signed,IntKind.bits]at h';omega)];simp only[C8,J6 C,y];rw[iN o];simp only[I5,C8];refine Kf rfl fun tt=>?_;simp only[Gt,J6 C]
  have w:xs=[]\/∃a,A=some a/\∀j v,xs[j]? = some v->h.cell? (a.add j)=some v:=by
   rcases p.2.2 with⟨r,hg⟩|⟨b,k,R,E,V,G,s⟩
   ·left;have F:n=0:=by have:=p.2.1;omega
    have:=p.1;simp_all
   ·right;refine⟨_,R,fun j v hj=>?_⟩;rw[D9,V,E6];grind
  refine N6 p.1 w ?_;refine N6 hy hc ?_;simp only[S4 C hz,As];intro b l;have D:∃q,(Question.appendCap (n+m) c e).cut tt=q/\n+m<=q:=⟨_,rfl,by simp only[Question.cut];omega⟩;obtain⟨q,W,H⟩:=D;rw[W];have u:=p.le;refine x _ q _ h u ⟨by rw[aE,p.1,hy,aF],H,.inr ⟨b,xs++ys++(aP z.cells (q-(n+m))).toList,rfl,l,?_,?_,?_⟩⟩;·congr 1;simp
  ·have O:(aP z.cells (q-(n+m))).toList.length=(q-(n+m))*size:=by simp[aP,st.cells]
   rw[aE,aE,p.1,hy,O,<- aF,<- aF];grind
  ·rw[List.take_append_of_le_length (by rw[aE,p.1,hy,aF];omega),aN (by rw[aE,p.1,hy,aF];omega)]
def Eh(z:aC)(n:J):H9 #[z] n=(aS n z).toArray:=by unfold H9;grind
def Po{α:Type}(f:α->aC)(z:aC)(zs:Z α)(k:J):Z aC:=(zs.take k).map f++aS (zs.length-k) z
def B0m{α:Type}(f:α->aC)(z:aC)(zs:Z α):Po f z zs 0=aS zs.length z:=by rfl
def A4u{α:Type}(f:α->aC)(z:aC)(zs:Z α):Po f z zs zs.length=zs.map f:=by simp[Po]
def B3u{α:Type}(f:α->aC)(z:aC)(zs:Z α){k:J}(hk:k<zs.length):(Po f z zs k).set k (f zs[k])=Po f z zs (k+1):=by have hl:((zs.take k).map f).length=k:=gz0;have e:zs.length-k=(zs.length-(k+1))+1:=o;unfold Po;rw[e,List.replicate_succ,List.set_append_right _ _ o,hl,Nat.sub_self,List.set_cons_zero,List.take_succ_eq_append_getElem hk,List.map_append,List.append_assoc];rfl
def Uv{P:aJ}{t:aI}(one:P.cellsOf t=1/\(P.info? t).isSome=true){k:IntKind}{n i:Int}{g:aM}{b:J}{c:Array aC}{e:aI}(hi:i.toNat<c.size){K:Unit->aM->Prop} (x:K () (g.put b (.cells (c.setIfInBounds i.toNat (.int k n)) e))):wpH P (Instr.storeAt t (.pointer (some (Addr.add ⟨b,0,none⟩ (i.toNat*1)))) (.int k n)) K (g.put b (.cells c e)):=by rw[D9,Nat.mul_one,Nat.zero_add];exact Bu one.1 one.2 rfl rfl hi x
def A38{P:aJ}{t:aI}(one:P.cellsOf t=1/\(P.info? t).isSome=true){k:IntKind}{n:Int}{i:J}{g:aM}{b:J}{e:aI}{zs:Z Int}(hi:i<zs.length)(hn:n=zs[i]){K:Unit->aM->Prop} (x:K () (g.put b (.cells (Po (aQ k) (.int k 0) zs (i+1)).toArray e))):wpH P (Instr.storeAt t (.pointer (some (Addr.add ⟨b,0,none⟩ ((i:Int).toNat*1)))) (.int k n)) K (g.put b (.cells (Po (aQ k) (.int k 0) zs i).toArray e)):=by refine Uv one (by simp[Po];omega) ?_;have:(Po (aQ k) (.int k 0) zs i).toArray.setIfInBounds (i:Int).toNat (.int k n)=(Po (aQ k) (.int k 0) zs (i+1)).toArray:=by{rw[<- B3u (aQ k) (.int k 0) zs hi,hn];simp};grind
def T6{P:aJ}{t e:aI}{z:aC}{bytes:J}(s:SliceT P t e z 1 bytes){v:aC}(hv:v.cells=#[v]){K:VP}{h:aM} (x:∀b,h b=none->K (.slice (some ⟨b,0,none⟩) 1 1) (h.put b (.cells #[v] e))):wpH P (aL t 1 #[(0,v)]) K h:=by refine Cv s o (cells:=#[v]) ?_ x;have a:(H9 z.cells 1).size=1:=by{simp[H9,s.cells]};have:H9 z.cells 1=#[(H9 z.cells 1)[0]'o]:=by{grind};rw[this];simp[Instr.fill,hv]
def Fd{P:aJ}{t e:aI}{z:aC}{size bytes:J}(s:SliceT P t e z size bytes){K:VP}{h:aM} (x:∀b,h b=none->K (.slice (some ⟨b,0,none⟩) 0 0) (h.put b (.cells #[] e))):wpH P (aL t 0 #[]) K h:=by refine Cv s o (cells:=#[]) ?_ x;have:H9 z.cells 0=#[]:=by{simp[H9]};rw[this];rfl
