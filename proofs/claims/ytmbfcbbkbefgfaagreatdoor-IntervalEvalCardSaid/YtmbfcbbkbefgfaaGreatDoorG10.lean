/- A part. -/
import Derived.Test.YtmbfcbbkbefgfaaGreatDoorG07
import Derived.Test.YtmbfcbbkbefgfaaGreatDoorG09
open Go.Proofs.Tryz
set_option linter.all false
open _root_.Go.Addr renaming add->aH
open _root_.Go.Instr renaming storeAt->aK
open Int renaming toNat_natCast->aC
open List renaming take_of_length_le->aD,getD->aG,drop_eq_getElem_cons->aJ,getElem?_cons_zero->aL
open _root_.Go renaming IntKind->aE,Addr->aI
open _root_.Go.Proofs.YtmbfcbbkbefgfaaGreatDoor renaming Heap->aF
namespace Go.Proofs.YtmbfcbbkbefgfaaGreatDoor
set_option maxRecDepth 20000
open Go
def blk(k:aE)(e:TypeId)(g:aF)(b:Nat)(zs:List Int):aF:=g.put b (.cells (zs.map (Value.int k)).toArray e)
def S3{k:aE}{e:TypeId}{g:aF}{b:Nat}(hb:g b=none)(zs:List Int):g.le (blk k e g b zs):=Heap.le_put _ hb
def Cd(k:aE)(e:TypeId)(g:aF)(b:Nat)(zs:List Int):SlI k (blk k e g b zs) (some ⟨b,0,none⟩) zs:=SlI.new g b zs e _
def I3{P:Program}{k:aE}{t e:TypeId}{bytes:Nat}(s:SliceT P t e (.int k 0) 1 bytes){n:Int}(h0:0<=n)(h2:n*bytes<=281474976710656)(h3:n<=9223372036854775807){K:VP}{h:aF}
 (x:∀ b,h b=none->K (.slice (some ⟨b,0,none⟩) n.toNat n.toNat) (blk k e h b (List.replicate n.toNat 0))):wpH P (Instr.makeSlice t (I n) (I n)) K h:=by
 refine A9e s h0 (Int.le_refl n) h2 h3 ?_
 intro b a
 have:=x b a
 unfold blk at this
 rw [List.map_replicate] at this
 rw [show (Value.int k 0).cells=#[.int k 0] from rfl,A0s]
 exact this
def N7{P:Program}{t:TypeId}(one:P.cellsOf t=1/\(P.info? t).isSome=true){k:aE}{n i:Int}{g:aF}{b:Nat}{e:TypeId}{zs:List Int}(hi:i.toNat<zs.length){K:Unit->aF->Prop}
 (x:K () (blk k e g b (zs.set i.toNat n))):wpH P (aK t (.pointer (some (aH ⟨b,0,none⟩ (i.toNat*1)))) (.int k n)) K (blk k e g b zs):=by
 refine A8n one (by simpa using hi) ?_
 unfold blk at x
 rw [List.map_set] at x
 simpa using x
def Mag(k:aE)(B:Int)(h:aF)(A:Option aI)(len:Nat)(n:Int):Prop:=∃ xs:List Int,len=xs.length/\SlI k h A xs/\Dig B xs/\Norm xs/\val B xs=n
def Mag.mono{k:aE}{B:Int}{h h':aF}(hl:h.le h'){A:Option aI}{len:Nat}{n:Int}(m:Mag k B h A len n):Mag k B h' A len n:=by
 obtain ⟨b,c,a,d⟩:=m;exact ⟨b,c,a.mono hl,d⟩
def Mag.zero{k:aE}{B:Int}{h:aF}{A:Option aI}:Mag k B h A 0 0:=⟨[],rfl,SlI.nil,Dig.nil,Norm.nil,rfl⟩
def Mag.nonneg{k:aE}{B:Int}(hB:0<B){h:aF}{A:Option aI}{len:Nat}{n:Int}(m:Mag k B h A len n):0<=n:=by
 obtain ⟨b,_,_,a,_,rfl⟩:=m;exact C5 hB a
def Mag.len_zero{k:aE}{B:Int}(hB:0<B){h:aF}{A:Option aI}{len:Nat}{n:Int}(m:Mag k B h A len n):n=0↔len=0:=by
 obtain ⟨c,rfl,_,b,a,rfl⟩:=m;exact A2t hB b a
def Mag.lt{k:aE}{B:Int}(hB:0<B){h:aF}{A:Option aI}{len:Nat}{n:Int}(m:Mag k B h A len n):n<B^len:=by
 obtain ⟨b,rfl,_,a,_,rfl⟩:=m;exact I5 hB a
def Mag.ge{k:aE}{B:Int}(hB:0<B){h:aF}{A:Option aI}{len:Nat}{n:Int}(m:Mag k B h A len n)(hl:len≠0):B^(len-1)<=n:=by
 obtain ⟨c,rfl,_,b,a,rfl⟩:=m;exact A86 hB b a hl
def Mag.len_le{k:aE}{B:Int}(hB:1<B){h:aF}{A:Option aI}{len:Nat}{n:Int}(m:Mag k B h A len n){j:Nat}(hn:n<B^j):len<=j:=by
 by_cases b:len=0
 ·omega
 ·have c:=m.ge (by omega) b
  by_cases a:len<=j
  ·exact a
  ·have:=D5 (B:=B) (by omega) (show j<=len-1 by omega)
   omega
abbrev b32:Int:=4294967296
abbrev Mg(h:aF)(A:Option aI)(len:Nat)(n:Int):Prop:=Mag .u32 b32 h A len n
section
variable {h g:aF} {K:VP} {A B:Option aI} {ac bc:Nat}
def A08{xs:List Int}(s:SlI .u32 h A xs)(hc:xs.length<=ac)(hl:xs.length<=1000000000)(hK:∀ m,m<=xs.length->Norm (xs.take m)->val b32 (xs.take m)=val b32 xs->K (.slice A m ac) h):FCall prog Q1 #[.slice A xs.length ac] h K:=by
 refine B4i _ _ _ ?_
 unfold C09
 refine ⟨fun l q=>∃ m:Nat,l=[.slice A m ac]/\m<=xs.length/\q=h/\val b32 (xs.take m)=val b32 xs,fun l _=>match l with|[.slice _ m _]=>m|_=>0,⟨xs.length,rfl,Nat.le_refl _,rfl,by rw [List.take_length]⟩,?_⟩
 rintro A1 b c1 u ⟨m,d,o,rfl,n⟩
 obtain ⟨rfl,rfl,rfl⟩:A1=A/\b=m/\c1=ac:=by simpa using d
 refine B4 (fun r=>?_) (fun r=>?_)
 ·obtain ⟨j,rfl⟩:∃ j,b=j+1:=⟨b-1,by omega⟩
  have e:B5 (((j+1:Nat):Int)-1)=(j:Int):=by rw [B6 (by omega) (by omega)];omega
  rw [e]
  obtain ⟨a,p,c⟩:=SlV.at s (i:=j) (by simp;omega)
  have k:=K8 b32 (xs:=xs) (i:=j) (by omega)
  refine ⟨a,p,by omega,by omega,xs.getD j 0,by rw [aC,Nat.mul_one,c];simp [aG,show j<xs.length by omega],?_⟩
  refine D9 (fun g=>?_) (fun g=>?_)
  ·refine ⟨⟨by omega,by omega⟩,⟨j,?_,by omega,rfl,?_⟩,?_⟩
   ·simp [H1]
   ·rw [g] at k;omega
   ·simp
  ·refine hK (j+1) o ?_ n
   rw [Fo (by omega)];exact A0z g
 ·have:b=0:=by omega
  subst this
  exact hK 0 (by omega) Norm.nil n
def U8{xs:List Int}(s:SlI .u32 h A xs)(hd:Dig b32 xs)(hc:xs.length<=ac)(hl:xs.length<=1000000000)(hK:∀ m,m<=xs.length->Mg h A m (val b32 xs)->K (.slice A m ac) h):FCall prog Q1 #[.slice A xs.length ac] h K:=by
 refine A08 s hc hl ?_
 intro m a b d
 refine hK m a ⟨xs.take m,by simp;omega,?_,hd.take m,b,d⟩
 have:=s.cut (c:=ac) (l:=0) (m:=m) (by omega) a hc
 simpa [H1] using this
def Sr{x y:Int}{an bn:Nat}(ma:Mg h A an x)(mb:Mg h B bn y)(hl:an<=1000000000)(hK:K (I (if x<y then -1 else if x>y then 1 else 0)) h):FCall prog Ky #[.slice A an ac,.slice B bn bc] h K:=by
 obtain ⟨a,rfl,r,g,w,rfl⟩:=ma
 obtain ⟨m,rfl,q,d,D,rfl⟩:=mb
 refine A7o _ _ _ _ _ _ ?_
 unfold B1u
 refine N8 (fun C=>B4 (fun o=>?_) (fun o=>?_)) (fun C=>?_)
 ·have:=Hh (by decide) g d D (by omega)
  rw [iP this] at hK;exact hK
 ·have:=Hh (by decide) d g w (by omega)
  rw [iN (by omega),iP (by omega)] at hK;exact hK
 ·have b:a.length=m.length:=by omega
  refine ⟨fun l z=>∃ k:Nat,l=[I ((k:Int)-1)]/\k<=a.length/\z=h/\a.drop k=m.drop k,fun l _=>(iAt l 0+1).toNat,⟨a.length,?_,Nat.le_refl _,rfl,?_⟩,?_⟩
  ·rw [B6 (by omega) (by omega)]
  ·rw [List.drop_length,b,List.drop_length]
  rintro i F ⟨k,n,E,rfl,c⟩
  obtain rfl:i=(k:Int)-1:=by simpa using n
  refine B4 (fun o=>?_) (fun o=>?_)
  ·obtain ⟨j,rfl⟩:∃ j,k=j+1:=⟨k-1,by omega⟩
   have e:((j+1:Nat):Int)-1=(j:Int):=by omega
   rw [e]
   refine r.load rfl (by omega) (by omega) ?_
   refine q.load rfl (by omega) (by omega) ?_
   rw [aC]
   refine N8 (fun u=>?_) (fun u=>?_)
   ·refine r.load rfl (by omega) (by omega) ?_
    refine q.load rfl (by omega) (by omega) ?_
    rw [aC]
    refine B4 (fun s=>?_) (fun s=>?_)
    ·have:=Hg (by decide) g d (i:=j) (by omega) (by omega) c s
     rw [iP this] at hK;exact hK
    ·have:=Hg (by decide) d g (i:=j) (by omega) (by omega) c.symm (by omega)
     rw [iN (by omega),iP (by omega)] at hK;exact hK
   ·rw [B6 (by omega) (by omega)]
    refine ⟨⟨j,rfl,by omega,rfl,?_⟩,by simp only [iAt,aL];omega⟩
    rw [aJ (show j<a.length by omega),aJ (show j<m.length by omega),c]
    congr 1
    simpa [aG,show j<a.length by omega,show j<m.length by omega] using u
  ·have p:k=0:=by omega
   subst p
   simp at c
   subst c
   rw [iN (by omega),iN (by omega)] at hK;exact hK
end
def C2(B:Int)(xs:List Int)(i:Nat):val B (xs.take (i+1))=val B (xs.take i)+B^i*xs.getD i 0:=by
 by_cases a:i<xs.length
 ·exact K8 B a
 ·rw [aD (by omega),aD (by omega)]
  simp [aG,List.getElem?_eq_none (Nat.le_of_not_lt a)]
def Tz{c:Int}:Int.fdiv c (2^(min ((32:Int)).toNat 64))=c/4294967296:=by
 rw [show (2:Int)^(min ((32:Int)).toNat 64)=4294967296 by decide];exact Int.fdiv_eq_ediv_of_nonneg c (by decide)
def Aj{xs:List Int}(d:Dig b32 xs)(i:Nat):0<=xs.getD i 0/\xs.getD i 0<4294967296:=d.getD (by decide) i
def A12(c:Int):0<=c%4294967296/\c%4294967296<b32:=⟨Int.emod_nonneg _ (by decide),Int.emod_lt_of_pos _ (by decide)⟩
def A35{xs:List Int}{i j:Nat}{v:Int}(h:i≠j):(xs.set i v).getD j 0=xs.getD j 0:=by
 simp [aG,List.getElem?_set_ne h]
def Ao{B P v c:Int}:v+P*(c%B)+c/B*(P*B)=v+P*c:=by
 have:=Int.emod_add_mul_ediv c B
 grind
section
variable {h g:aF} {K:VP} {A B:Option aI} {ac bc:Nat}
def A45{x y:Int}{an bn:Nat}(ma:Mg h A an x)(mb:Mg h B bn y)(hab:bn<=an)(hl:an<=100000000)(hK:∀ A' m c' h',h.le h'->m<=c'->Mg h' A' m (x+y)->K (.slice A' m c') h'):
 wpH prog (Instr.makeSlice A4p (I (B5 ((an:Int)+1))) (I (B5 ((an:Int)+1)))) (fun v hp1=>∃ (t18A:Option aI) (t18n:Nat) (t18c:Nat),v= .slice t18A t18n t18c/\∃ (Invv:LP) (muv:LN),Invv [U (0:Int),I (0:Int)] hp1/\
 ∀ (c:Int) (i:Int),∀ hp2,Invv [U c,I i] hp2->Br (decide (i<((an:Nat):Int))) (∃ a2,A=some a2/\0<=i/\i<((an:Nat):Int)/\∃ (t29:Int),Heap.cell? hp2 (aH a2 ((i).toNat*1))=some (U32 t29)/\∃ (Jv1:LP),(Br (decide (i<((bn:Nat):Int))) (∃ a3,B=some a3/\0<=i/\i<((bn:Nat):Int)/\∃ (t40:Int),Heap.cell? hp2 (aH a3 ((i).toNat*1))=some (U32 t40)/\Jv1 [U (B8 ((B8 (c+(B8 t29)))+(B8 t40)))] hp2)
 (Jv1 [U (B8 (c+(B8 t29)))] hp2))/\
 ∀ (c1:Int),∀ hp3,Jv1 [U c1] hp3->∃ a4,t18A=some a4/\0<=i/\i<((t18n:Nat):Int)/\wpH prog (aK C1 (.pointer (some (aH a4 ((i).toNat*1)))) (U32 (E9 c1))) (fun _ hp4=>Invv [U (Int.fdiv c1 (2^(min ((32:Int)).toNat 64))),I (B5 (i+(1:Int)))] hp4/\muv [U (Int.fdiv c1 (2^(min ((32:Int)).toNat 64))),I (B5 (i+(1:Int)))] hp4<muv [U c,I i] hp2) hp3)
 (∃ a5,t18A=some a5/\0<=((an:Nat):Int)/\((an:Nat):Int)<((t18n:Nat):Int)/\wpH prog (aK C1 (.pointer (some (aH a5 ((((an:Nat):Int)).toNat*1)))) (U32 (E9 c))) (fun _ hp5=>FCall prog Q1 #[.slice t18A t18n t18c] hp5 (fun r hp6=>∃ (t57A:Option aI) (t57n:Nat) (t57c:Nat),r= .slice t57A t57n t57c/\K (.slice t57A t57n t57c) hp6)) hp2)) h:=by
 obtain ⟨a,rfl,S,L,V,rfl⟩:=ma
 obtain ⟨g,rfl,M,F,ny,rfl⟩:=mb
 have E:B5 ((a.length:Int)+1)=(a.length:Int)+1:=B6 (by omega) (by omega)
 rw [E]
 refine I3 Mm (by omega) (by omega) (by omega) ?_
 intro b C
 have G:((a.length:Int)+1).toNat=a.length+1:=by omega
 rw [G]
 refine ⟨_,_,_,rfl,?_⟩
 refine ⟨fun l h'=>∃ (k:Nat) (c:Int) (zs:List Int),l=[U c,I k]/\k<=a.length/\zs.length=a.length+1/\Dig b32 zs/\(0<=c/\c<=1)/\h'=blk .u32 C1 h b zs/\val b32 (zs.take k)+c*b32^k=val b32 (a.take k)+val b32 (g.take k),fun l _=>a.length-(iAt l 1).toNat,⟨0,0,_,rfl,by omega,by simp,G4 (by decide) _,by omega,rfl,by simp [val]⟩,?_⟩
 rintro c i hp ⟨k,c',zs,u,Z,o,z,X,rfl,J⟩
 obtain ⟨rfl,rfl⟩:c=c'/\i=(k:Int):=by simpa using u
 have j:=S3 (k:=.u32) (e:=C1) C zs
 refine B4 (fun N=>?_) (fun N=>?_)
 ·have gx:=Aj L k
  have W:=Aj F k
  have T:=C2 b32 a k
  have D:=C2 b32 g k
  refine (S.mono j).load rfl (by omega) (by omega) ?_
  rw [aC]
  refine ⟨fun l h'=>l=[U (c+a.getD k 0+g.getD k 0)]/\h'=blk .u32 C1 h b zs,B4 (fun O=>?_) (fun O=>?_),?_⟩
  ·refine (M.mono j).load rfl (by omega) (by omega) ?_
   rw [aC]
   refine ⟨?_,rfl⟩
   rw [B9 (n:=a.getD k 0) (by omega) (by omega),B9 (n:=g.getD k 0) (by omega) (by omega),B9 (n:=c+a.getD k 0) (by omega) (by omega),B9 (by omega) (by omega)]
  ·refine ⟨?_,rfl⟩
   have H:g.getD k 0=0:=by simp [aG,List.getElem?_eq_none (show g.length<=k by omega)]
   rw [H,B9 (n:=a.getD k 0) (by omega) (by omega),B9 (by omega) (by omega)];simp
  ·rintro c1 hp3 ⟨s,rfl⟩
   obtain rfl:c1=c+a.getD k 0+g.getD k 0:=by simpa using s
   refine ⟨_,rfl,by omega,by omega,?_⟩
   refine N7 (k:=.u32) (zs:=zs) (i:=(k:Int)) H8 (by rw [aC];omega) ?_
   rw [aC,U7,Tz,B6 (n:=(k:Int)+1) (by omega) (by omega)]
   refine ⟨⟨k+1,_,zs.set k ((c+a.getD k 0+g.getD k 0)%4294967296),rfl,by omega,by simpa using o,z.set (A12 _),by omega,rfl,?_⟩,by simp only [iAt,aL,List.getElem?_cons_succ];omega⟩
   rw [C6 (by omega),E5,List.length_take,Nat.min_eq_left (by omega),Int.pow_succ,Ao,T,D]
   grind
 ·have q:k=a.length:=by omega
  subst q
  refine ⟨_,rfl,by omega,by omega,?_⟩
  refine N7 H8 (by rw [aC];omega) ?_
  rw [aC,K5 (by omega) (by omega)]
  have d:(zs.set a.length c).length=a.length+1:=by simpa using o
  have p:val b32 (zs.set a.length c)=val b32 a+val b32 g:=by
   have Q:zs.set a.length c=zs.take a.length++[c]:=by
    rw [<- C6 (by omega),aD (by rw [d];omega)]
   rw [Q,E5,List.length_take,Nat.min_eq_left (by omega)]
   rw [List.take_length,aD (show g.length<=a.length by omega)] at J
   grind
  rw [<- d]
  refine U8 (Cd _ _ _ _ _) (z.set ⟨by omega,by show c<4294967296;omega⟩) (Nat.le_refl _) (by rw [d];omega) ?_
  intro m R w
  rw [p] at w
  exact ⟨_,_,_,rfl,hK _ _ _ _ (S3 C _) R w⟩
def Tc{x y:Int}{an bn:Nat}(ma:Mg h A an x)(mb:Mg h B bn y)(hl:an<=100000000)(hl2:bn<=100000000)(hK:∀ A' m c' h',h.le h'->m<=c'->Mg h' A' m (x+y)->K (.slice A' m c') h'):FCall prog Kz #[.slice A an ac,.slice B bn bc] h K:=by
 refine A7p _ _ _ _ _ _ ?_
 unfold B1v
 refine ⟨fun l h'=>h'=h/\∃ (A1 B1:Option aI) (a b c1 c2:Nat) (g j:Int),l=[.slice A1 a c1,.slice B1 b c2]/\Mg h A1 a g/\Mg h B1 b j/\b<=a/\a<=100000000/\g+j=x+y,B4 (fun s=>?_) (fun s=>?_),?_⟩
 ·exact ⟨rfl,_,_,_,_,_,_,y,x,rfl,mb,ma,by omega,hl2,Int.add_comm _ _⟩
 ·exact ⟨rfl,_,_,_,_,_,_,x,y,rfl,ma,mb,by omega,hl,rfl⟩
 ·rintro A1 a c1 B1 b c2 u ⟨rfl,A1',B1',k,o,n,c,g,j,d,q,p,r,i,e⟩
  obtain ⟨⟨rfl,rfl,rfl⟩,rfl,rfl,rfl⟩:(A1=A1'/\a=k/\c1=n)/\B1=B1'/\b=o/\c2=c:=by simpa using d
  rw [<- e] at hK
  exact A45 q p r i hK
end
