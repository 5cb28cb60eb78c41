import Derived.Test.YtjboagogechleaaGreatTH
namespace Go.Ab.M
open Go.Proofs
set_option linter.unusedVariables false
set_option linter.defProp false
set_option maxRecDepth 100000
def rW (s:List Int):Option (List Int):=bif decide (0<s.length) then bif decide (0+s.length<=2147483648) then some ([]++s) else none else none
theorem yO (s:List Int):∀r,rW s=some r->ak Tryz.prog 60 0 [SL (cI .i64) s] [] (SL (cI .i64) r) []:=
 ay 10 (.op 10002 (.ln (cI .i64) s) (.op 30004 (.ap (cI .i64) [] s 1 fun _=>⟨rfl,rfl⟩) (.ps 1000003 [.z 2] (.ret ([]++s))))) Tryz.func60
def bG (s:List Int):Option (List Int):=bif decide (s.length<=2147483648) then some s else none
theorem kU (s:List Int):∀r,bG s=some r->ak Tryz.prog 60 0 [SL (cI .i64) s] [] (SL (cI .i64) r) []:=fun r h=>by
 by_cases hl:s.length<=2147483648
 ·rw[show bG s=some s from by unfold bG;rw[zz hl];rfl] at h
  cases h
  cases s with
  | nil=>exact aaR
  | cons a t=>exact yO (a::t) (a::t) (by unfold rW;rw[zz (show 0<(a::t).length by simp),zz (show 0+(a::t).length<=2147483648 by omega)];rfl)
 ·rw[show bG s=none from by unfold bG;rw[zw hl];rfl] at h
  cases h
def Gy (g:Graph) (v:Int):Option Bool:=bif decide (v>=g.Ins) then bif inK .i64 (g.Ins+g.aS) then some (decide (v<(g.Ins+g.aS))) else none else some false
theorem Yw (g:Graph) (v:Int):∀r,Gy g v=some r->ak Tryz.prog 132 0 [AG Graph.D g,I v] [] (B r) []:=
 ay 10 (.br 10010 (.ret (decide (v<(g.Ins+g.aS)))) (.ret false)) Tryz.func132
def N9 (tA:Graph) (i:Nat):St:=⟨125,0,[(1,.ptr 10 0 0),(3,I ((i:Nat):Int))],[(10,BOX [I tA.Ins,I tA.aS,I tA.aF,SL Edge.D tA.ah,SL (cI .i64) tA.Gone])]⟩
def NG (tA:Graph):St:=⟨125,0,[(2,B false)],[]⟩
def Oh (tA:Graph):St:=⟨125,0,[(1,.ptr 10 0 0)],[(10,BOX [I tA.Ins,I tA.aS,I tA.aF,SL Edge.D tA.ah,SL (cI .i64) tA.Gone])]⟩
def fB (tA:Graph) (i:Nat):Option (Nat⊕(Unit⊕Unit)):=bif decide (((i:Nat):Int)<((tA.Gone.length:Nat):Int)) then bif decide (i<tA.Gone.length) then (Gy tA (nth tA.Gone i)).bind fun x0=>bif !x0 then some (.inr (.inl ())) else bif decide (((i:Nat):Int)>0) then bif inK .i64 (((i:Nat):Int)-1) then bif decide (0<=((i:Nat):Int)-1) then bif decide ((((i:Nat):Int)-1).toNat<tA.Gone.length) then bif decide (i<tA.Gone.length) then bif decide ((nth tA.Gone ((((i:Nat):Int)-1).toNat))>=(nth tA.Gone i)) then some (.inr (.inl ())) else bif inK .i64 (((i:Nat):Int)+1) then some (.inl (i+1)) else none else none else none else none else none else bif inK .i64 (((i:Nat):Int)+1) then some (.inl (i+1)) else none else none else some (.inr (.inr ()))
theorem MH (tA:Graph):∀σ:Nat,aJ Tryz.prog (nav [1,1,0,1,0,0] (aj Tryz.f73)) (fun (σ:Nat)=>N9 tA σ) (fun (y:Unit⊕Unit)=>aW y (fun _=>.ret) (fun _=>(.exit 0))) (fun (y:Unit⊕Unit)=>aW y (fun y=>NG tA) (fun y=>Oh tA)) σ (fB tA σ)
 | i=>aB 1010 (.op 40006 (.ln (cI .i64) tA.Gone) (.br 100000040 (.op 60008 (.el (cI .i64) tA.Gone (.up i)) (.call [] [] (Yw tA (nth tA.Gone i)) .no fun x0=>.br 70006 (.ps 1000003 [.k [2] []] (.ret (.inr (.inl ())))) (.br 70012 (.op 70020 (.el (cI .i64) tA.Gone .dn) (.op 70030 (.el (cI .i64) tA.Gone (.up i)) (.br 100000069 (.ps 1000003 [.k [2] []] (.ret (.inr (.inl ())))) (.ps 1000003 [.k [1,3] [10]] (.ret (.inl (i+1))))))) (.ps 1000003 [.k [1,3] [10]] (.ret (.inl (i+1))))))) (.ps 1000003 [.k [1] [10]] (.ret (.inr (.inr ()))))))
def Ac (tA:Graph) (i:Nat):Option (Unit⊕Unit):=aK (fun (σ:Nat)=>fB tA σ) FU i
def NW (tA:Graph) (i:Nat):=
 aP (MH tA) (fun y h=>by rcases y with y | y<;>cases h) FU i
def PS (g:Graph) (v:Int) (i:Nat):St:=⟨20,0,[(1,I v),(2,.ptr 10 0 0),(5,I ((i:Nat):Int))],[(10,BOX [I g.Ins,I g.aS,I g.aF,SL Edge.D g.ah,SL (cI .i64) g.Gone])]⟩
def QI (g:Graph) (v:Int):St:=⟨20,0,[(4,B true)],[]⟩
def QZ (g:Graph) (v:Int):St:=⟨20,0,[],[]⟩
def jK (g:Graph) (v:Int) (i:Nat):Option (Nat⊕(Unit⊕Unit)):=bif decide (((i:Nat):Int)<((g.Gone.length:Nat):Int)) then bif decide (i<g.Gone.length) then bif (nth g.Gone i)==v then some (.inr (.inl ())) else bif inK .i64 (((i:Nat):Int)+1) then some (.inl (i+1)) else none else none else some (.inr (.inr ()))
theorem Rl (g:Graph) (v:Int):∀σ:Nat,aJ Tryz.prog (nav [1,0,1,0,0] (aj Tryz.f177)) (fun (σ:Nat)=>PS g v σ) (fun (y:Unit⊕Unit)=>aW y (fun _=>.ret) (fun _=>(.exit 0))) (fun (y:Unit⊕Unit)=>aW y (fun y=>QI g v) (fun y=>QZ g v)) σ (jK g v σ)
 | i=>aB 1010 (.op 20006 (.ln (cI .i64) g.Gone) (.br 100000010 (.op 40006 (.el (cI .i64) g.Gone (.up i)) (.br 100000019 (.ps 1000003 [.k [4] []] (.ret (.inr (.inl ())))) (.ps 1000003 [.k [1,2,5] [10]] (.ret (.inl (i+1)))))) (.ps 1000003 [.k [] []] (.ret (.inr (.inr ()))))))
def Dv (g:Graph) (v:Int) (i:Nat):Option (Unit⊕Unit):=aK (fun (σ:Nat)=>jK g v σ) FU i
def Qy (g:Graph) (v:Int) (i:Nat):=
 aP (Rl g v) (fun y h=>by rcases y with y | y<;>cases h) FU i
def xQ (g:Graph) (v:Int):Option Bool:=(Dv g v 0).bind fun y_=>aW y_ (fun x0=>some true) (fun x1=>some false)
theorem Ho (g:Graph) (v:Int):∀r,xQ g v=some r->ak Tryz.prog 177 0 [AG Graph.D g,I v] [] (B r) []:=
 ay 10 (.ps 1000001 [.k [1,2,5] [10]] (.lp2 0 (Qy g v 0) (fun x0=>.ret true) (fun x1=>.ret false))) Tryz.func177
def DL (tA:Graph) (a:Edge):Option Bool:=bif decide (a.From<0) then some false else bif inK .i64 (tA.Ins+tA.aS) then bif decide (a.From>=(tA.Ins+tA.aS)) then some false else bif decide (a.To<tA.Ins) then some false else bif inK .i64 (tA.Ins+tA.aS) then bif inK .i64 ((tA.Ins+tA.aS)+tA.aF) then bif decide (a.To>=((tA.Ins+tA.aS)+tA.aF)) then some false else bif decide (a.To<=a.From) then some false else (xQ tA a.From).bind fun x0=>(xQ tA a.To).bind fun x1=>bif !x0 then bif !x1 then (uP a.W).bind fun x2=>some x2 else some false else some false else none else none else none
theorem Xo (tA:Graph) (a:Edge):∀r,DL tA a=some r->ak Tryz.prog 133 0 [AG Graph.D tA,AG Edge.D a] [] (B r) []:=
 ay 10 (.br 10008 (.ret false) (.br 10028 (.ret false) (.br 10042 (.ret false) (.br 10068 (.ret false) (.br 100000046 (.ret false) (.call [] [] (Ho tA a.From) .no fun x0=>.call [] [] (Ho tA a.To) .no fun x1=>.br 50006 (.br 50014 (.call [] [] (FC a.W) .no fun x2=>.ret x2) (.ret false)) (.ret false))))))) Tryz.func133
def IE (tA:Graph) (i:Nat):St:=⟨125,0,[(1,.ptr 10 0 0),(5,I ((i:Nat):Int))],[(10,BOX [I tA.Ins,I tA.aS,I tA.aF,SL Edge.D tA.ah,SL (cI .i64) tA.Gone])]⟩
def IJ (tA:Graph):St:=⟨125,0,[(2,B false)],[]⟩
def IL (tA:Graph):St:=⟨125,0,[],[]⟩
def dw (tA:Graph) (i:Nat):Option (Nat⊕(Unit⊕Unit)):=bif decide (((i:Nat):Int)<((tA.ah.length:Nat):Int)) then bif decide (i<tA.ah.length) then (DL tA (nth tA.ah i)).bind fun x2=>bif !x2 then some (.inr (.inl ())) else bif decide (((i:Nat):Int)>0) then bif inK .i64 (((i:Nat):Int)-1) then bif decide (0<=((i:Nat):Int)-1) then bif decide ((((i:Nat):Int)-1).toNat<tA.ah.length) then bif decide (((nth tA.ah ((((i:Nat):Int)-1).toNat)).From)>((nth tA.ah i).From)) then some (.inr (.inl ())) else bif inK .i64 (((i:Nat):Int)-1) then bif decide (0<=((i:Nat):Int)-1) then bif decide ((((i:Nat):Int)-1).toNat<tA.ah.length) then bif ((nth tA.ah ((((i:Nat):Int)-1).toNat)).From)==((nth tA.ah i).From) then bif inK .i64 (((i:Nat):Int)-1) then bif decide (0<=((i:Nat):Int)-1) then bif decide ((((i:Nat):Int)-1).toNat<tA.ah.length) then bif decide (((nth tA.ah ((((i:Nat):Int)-1).toNat)).To)>=((nth tA.ah i).To)) then some (.inr (.inl ())) else bif inK .i64 (((i:Nat):Int)+1) then some (.inl (i+1)) else none else none else none else none else bif inK .i64 (((i:Nat):Int)+1) then some (.inl (i+1)) else none else none else none else none else none else none else none else bif inK .i64 (((i:Nat):Int)+1) then some (.inl (i+1)) else none else none else some (.inr (.inr ()))
theorem II (tA:Graph):∀σ:Nat,aJ Tryz.prog (nav [1,1,1,0,1,0,0] (aj Tryz.f73)) (fun (σ:Nat)=>IE tA σ) (fun (y:Unit⊕Unit)=>aW y (fun _=>.ret) (fun _=>(.exit 2))) (fun (y:Unit⊕Unit)=>aW y (fun y=>IJ tA) (fun y=>IL tA)) σ (dw tA σ)
 | i=>aB 1010 (.op 100006 (.ln Edge.D tA.ah) (.br 100000074 (.op 120006 (.el Edge.D tA.ah (.up i)) (.call [] [] (Xo tA (nth tA.ah i)) .no fun x2=>.br 100000086 (.ps 1000003 [.k [2] []] (.ret (.inr (.inl ())))) (.br 160006 (.op 160014 (.el Edge.D tA.ah .dn) (.br 160028 (.ps 1000003 [.k [2] []] (.ret (.inr (.inl ())))) (.op 160036 (.el Edge.D tA.ah .dn) (.br 160050 (.op 160058 (.el Edge.D tA.ah .dn) (.br 100000124 (.ps 1000003 [.k [2] []] (.ret (.inr (.inl ())))) (.ps 1000003 [.k [1,5] [10]] (.ret (.inl (i+1)))))) (.ps 1000003 [.k [1,5] [10]] (.ret (.inl (i+1)))))))) (.ps 1000003 [.k [1,5] [10]] (.ret (.inl (i+1))))))) (.ps 1000003 [.k [] []] (.ret (.inr (.inr ()))))))
def vW (tA:Graph) (i:Nat):Option (Unit⊕Unit):=aK (fun (σ:Nat)=>dw tA σ) FU i
def Jo (tA:Graph) (i:Nat):=
 aP (II tA) (fun y h=>by rcases y with y | y<;>cases h) FU i
def zD (tA:Graph):Option Bool:=bif decide (tA.Ins<1) then some false else bif decide (tA.Ins>40) then some false else bif decide (tA.aF<1) then some false else bif decide (tA.aF>40) then some false else bif decide (tA.aS<0) then some false else bif decide (tA.aS>400) then some false else (Ac tA 0).bind fun y_=>aW y_ (fun x0=>some false) (fun x1=>(vW tA 0).bind fun y_=>aW y_ (fun x2=>some false) (fun x3=>some true))
theorem VW (tA:Graph):∀r,zD tA=some r->ak Tryz.prog 73 0 [AG Graph.D tA] [] (B r) []:=
 ay 10 (.br 10008 (.ret false) (.br 10018 (.ret false) (.br 10028 (.ret false) (.br 10038 (.ret false) (.br 10048 (.ret false) (.br 100000035 (.ret false) (.ps 1000001 [.k [1,3] [10]] (.lp2 0 (NW tA 0) (fun x0=>.ret false) (fun x1=>.ps 1000001 [.k [1,5] [10]] (.lp2 0 (Jo tA 0) (fun x2=>.ret false) (fun x3=>.ret true))))))))))) Tryz.func73
end Go.Ab.M
