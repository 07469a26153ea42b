/- A part. -/
import Derived.Test.YtmbfcbbkbefgfaaGreatDoorG11
set_option linter.all false
namespace Go.Proofs.YtmbfcbbkbefgfaaGreatDoor
open Go
def Heap.without(h:Heap)(b:Nat):Heap:=fun k=>if k=b then none else h k
def G1(h:Heap)(b:Nat):h.without b b=none:=by simp [Heap.without]
def Q8{h:Heap}{b:Nat}{o:Obj}(e:h b=some o):(h.without b).put b o=h:=by
 funext k;unfold Heap.put Heap.without
 by_cases a:k=b
 ·subst a;simp [e]
 ·simp [a]
def Tn{g h':Heap}{b:Nat}{o:Obj}(hb:g b=none)(hl:(g.put b o).le h'):∃ g',g.le g'/\g' b=none/\h'=g'.put b o:=by
 have e:h' b=some o:=hl b o (B8 g b o)
 refine ⟨h'.without b,fun k d c=>?_,G1 h' b,(Q8 e).symm⟩
 have a:k≠b:=by rintro rfl;rw [hb] at c;cases c
 unfold Heap.without
 rw [iN a]
 exact hl k d (by rw [B6 _ _ a];exact c)
def Priv.after{h g h':Heap}{e:TypeId}{s:Nat}{A:Option Addr}{n c:Nat}{xs:List Value}(p:Priv h g e s A n c xs)(hl:h.le h'):∃ g',g.le g'/\Priv h' g' e s A n c xs:=by
 obtain ⟨j,i,r⟩:=p
 rcases r with ⟨q,rfl⟩|⟨b,d,l,m,rfl,o,u⟩
 ·exact ⟨h',hl,j,i,.inl ⟨q,rfl⟩⟩
 ·obtain ⟨g',k,a,rfl⟩:=Tn m hl
  exact ⟨g',k,j,i,.inr ⟨b,d,l,a,rfl,o,u⟩⟩
def FCall.shrink{P:Program}{f:FuncId}{args:Array Value}{h:Heap}{K K':VP}(x:FCall P f args h K')(hk:∀ r h',K' r h'->∃ h1,h.le h1/\h1.le h'/\K r h1):FCall P f args h K:=
 fun W j=>(x W j).mono fun _ _ ⟨r,h',g,k,d⟩=>by
  obtain ⟨h1,_,c,l⟩:=hk r h' k
  refine ⟨r,h1,g,l,d.le c fun b i a=>?_⟩
  cases e:h1 b with
  | none=>exact absurd e a
  | some o=>exact d.new b o i (c b o e)
def FCall.pure{P:Program}{f:FuncId}{args:Array Value}{h:Heap}{K:VP}(x:FCall P f args h (fun r h'=>h.le h'/\K r h)):FCall P f args h K:=
 x.shrink fun _ _ a=>⟨h,B0 h,a.1,a.2⟩
def A24{x y:Int}(hx:0<=x/\x<18446744073709551616)(hy:0<=y/\y<18446744073709551616){x0 x1 y0 y1:Int}(ex:x=x1*4294967296+x0)(ey:y=y1*4294967296+y0)(hx0:0<=x0/\x0<4294967296)(hy0:0<=y0/\y0<4294967296):
 (0<=x0*y0/\x0*y0<=18446744065119617025)/\(0<=x1*y0/\x1*y0<=18446744065119617025)/\(0<=x0*y1/\x0*y1<=18446744065119617025)/\(0<=x1*y1/\x1*y1<=18446744065119617025)/\x*y=x1*y1*18446744073709551616+(x1*y0+x0*y1)*4294967296+x0*y0:=by
 have m:∀ {a b:Int},(0<=a/\a<4294967296)->(0<=b/\b<4294967296)->0<=a*b/\a*b<=18446744065119617025:=by
  intro a b d c
  refine ⟨Int.mul_nonneg d.1 c.1,?_⟩
  have:=Int.mul_le_mul (show a<=4294967295 by omega) (show b<=4294967295 by omega) c.1 (by decide)
  omega
 refine ⟨m hx0 hy0,m (by omega) hy0,m hx0 (by omega),m (by omega) (by omega),?_⟩
 rw [ex,ey];grind
