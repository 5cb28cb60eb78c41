import Derived.Test.YtkfofbhimgepdaaGreatCL
namespace Go.Ab.M
open Go.Proofs
set_option linter.unusedVariables false
set_option linter.defProp false
set_option maxRecDepth 100000
def bZ:ByteArray:=⟨#[0,1,2,2,3,3,3,3,4,4,4,4,4,4,4,4,5,5,5,5,5,5,5,5,5,5,5,5,5,5,5,5,6,6,6,6,6,6,6,6,6,6,6,6,6,6,6,6,6,6,6,6,6,6,6,6,6,6,6,6,6,6,6,6,7,7,7,7,7,7,7,7,7,7,7,7,7,7,7,7,7,7,7,7,7,7,7,7,7,7,7,7,7,7,7,7,7,7,7,7,7,7,7,7,7,7,7,7,7,7,7,7,7,7,7,7,7,7,7,7,7,7,7,7,7,7,7,7,8,8,8,8,8,8,8,8,8,8,8,8,8,8,8,8,8,8,8,8,8,8,8,8,8,8,8,8,8,8,8,8,8,8,8,8,8,8,8,8,8,8,8,8,8,8,8,8,8,8,8,8,8,8,8,8,8,8,8,8,8,8,8,8,8,8,8,8,8,8,8,8,8,8,8,8,8,8,8,8,8,8,8,8,8,8,8,8,8,8,8,8,8,8,8,8,8,8,8,8,8,8,8,8,8,8,8,8,8,8,8,8,8,8,8,8,8,8,8,8,8,8,8,8,8,8,8,8]⟩
def EZ (x:Int):Option Int:=let y0:=bY .u64 x 32;let y7:=((bZ.get! ((IntKind.wrap .u8 y0).toNat)).toNat:Int);let y8:=((bZ.get! ((IntKind.wrap .u8 x).toNat)).toNat:Int);let y9:=bY .u64 y0 16;let y3:=((bZ.get! ((IntKind.wrap .u8 y9).toNat)).toNat:Int);let y10:=bY .u64 x 16;let y5:=((bZ.get! ((IntKind.wrap .u8 y10).toNat)).toNat:Int);let y12:=bY .u64 y10 8;let y2:=((bZ.get! ((IntKind.wrap .u8 y12).toNat)).toNat:Int);let y13:=((0+16)+8)+y2;let y14:=bY .u64 y9 8;let y1:=((bZ.get! ((IntKind.wrap .u8 y14).toNat)).toNat:Int);let y11:=((32+16)+8)+y1;let y15:=bY .u64 y0 8;let y4:=((bZ.get! ((IntKind.wrap .u8 y15).toNat)).toNat:Int);let y16:=bY .u64 x 8;let y6:=((bZ.get! ((IntKind.wrap .u8 y16).toNat)).toNat:Int);let y17:=(32+16)+y3;bif decide (x>=4294967296) then bif decide (y0>=65536) then bif decide (y9>=256) then G1 (0<=IntKind.wrap .u8 y14)<|G1 ((IntKind.wrap .u8 y14).toNat<bZ.size)<|G2 y1<|G2 y11<|some y11 else G1 (0<=IntKind.wrap .u8 y9)<|G1 ((IntKind.wrap .u8 y9).toNat<bZ.size)<|G2 y3<|G2 y17<|some y17 else bif decide (y0>=256) then G1 (0<=IntKind.wrap .u8 y15)<|G1 ((IntKind.wrap .u8 y15).toNat<bZ.size)<|G2 y4<|G2 ((32+8)+y4)<|some ((32+8)+y4) else G1 (0<=IntKind.wrap .u8 y0)<|G1 ((IntKind.wrap .u8 y0).toNat<bZ.size)<|G2 y7<|G2 (32+y7)<|some (32+y7) else bif decide (x>=65536) then bif decide (y10>=256) then G1 (0<=IntKind.wrap .u8 y12)<|G1 ((IntKind.wrap .u8 y12).toNat<bZ.size)<|G2 y2<|G2 y13<|some y13 else G1 (0<=IntKind.wrap .u8 y10)<|G1 ((IntKind.wrap .u8 y10).toNat<bZ.size)<|G2 y5<|G2 ((0+16)+y5)<|some ((0+16)+y5) else bif decide (x>=256) then G1 (0<=IntKind.wrap .u8 y16)<|G1 ((IntKind.wrap .u8 y16).toNat<bZ.size)<|G2 y6<|G2 ((0+8)+y6)<|some ((0+8)+y6) else G1 (0<=IntKind.wrap .u8 x)<|G1 ((IntKind.wrap .u8 x).toNat<bZ.size)<|G2 y8<|G2 (0+y8)<|some (0+y8)
theorem Le (x:Int):∀r,EZ x=some r->au Tryz.prog 112 0 [NI .u64 x] [] (I r) []:=
 let y0:=bY .u64 x 32;let y1:=bY .u64 y0 16;let y2:=bY .u64 x 16;aA 10 (.br 100000004 (.br 100000008 (.br 100000014 (.op 100004 .wr (.op 100006 (.ch bZ .dn) (.ret (((32+16)+8)+((bZ.get! ((IntKind.wrap .u8 (bY .u64 y1 8)).toNat)).toNat:Int))))) (.op 100004 .wr (.op 100006 (.ch bZ .dn) (.ret ((32+16)+((bZ.get! ((IntKind.wrap .u8 y1).toNat)).toNat:Int)))))) (.br 100000014 (.op 100004 .wr (.op 100006 (.ch bZ .dn) (.ret ((32+8)+((bZ.get! ((IntKind.wrap .u8 (bY .u64 y0 8)).toNat)).toNat:Int))))) (.op 100004 .wr (.op 100006 (.ch bZ .dn) (.ret (32+((bZ.get! ((IntKind.wrap .u8 y0).toNat)).toNat:Int))))))) (.br 100000008 (.br 100000014 (.op 100004 .wr (.op 100006 (.ch bZ .dn) (.ret (((0+16)+8)+((bZ.get! ((IntKind.wrap .u8 (bY .u64 y2 8)).toNat)).toNat:Int))))) (.op 100004 .wr (.op 100006 (.ch bZ .dn) (.ret ((0+16)+((bZ.get! ((IntKind.wrap .u8 y2).toNat)).toNat:Int)))))) (.br 100000014 (.op 100004 .wr (.op 100006 (.ch bZ .dn) (.ret ((0+8)+((bZ.get! ((IntKind.wrap .u8 (bY .u64 x 8)).toNat)).toNat:Int))))) (.op 100004 .wr (.op 100006 (.ch bZ .dn) (.ret (0+((bZ.get! ((IntKind.wrap .u8 x).toNat)).toNat:Int)))))))) Tryz.func112
def JX (x:Int):Option Int:=(EZ x).bind fun x0=>some x0
theorem Ot (x:Int):∀r,JX x=some r->au Tryz.prog 59 0 [NI .u64 x] [] (I r) []:=
 aA 10 (.call [] [] (Le x) .no fun x0=>.ret x0) Tryz.func59
def cmp_isNaN_int (x:Int):Option Bool:=some (x != x)
theorem pX (x:Int):∀r,cmp_isNaN_int x=some r->au Tryz.prog 113 0 [I x] [] (B r) []:=
 aA 10 (.ret (x != x)) Tryz.func113
def cmp_Less_int (x:Int) (y:Int):Option Bool:=(cmp_isNaN_int x).bind fun x0=>bif x0 then (cmp_isNaN_int y).bind fun x1=>bif !x1 then some true else some (decide (x<y)) else some (decide (x<y))
theorem RG (x:Int) (y:Int):∀r,cmp_Less_int x y=some r->au Tryz.prog 227 0 [I x,I y] [] (B r) []:=
 aA 10 (.call [] [] (pX x) .no fun x0=>.br 10006 (.call [] [] (pX y) .no fun x1=>.br 10016 (.ret true) (.ret (decide (x<y)))) (.ret (decide (x<y)))) Tryz.func227
def oG (a:Int) (b:Int) (i:Int) (j:Int) (dZ:List Int):St:=⟨49,1,[(0,.msl 0 0 none none),(1,I a),(2,I b),(6,I i),(7,I j)],[(0,ROW 1 K1 dZ 0)]⟩
def pz (a:Int) (b:Int) (i:Int) (dZ:List Int):St:=⟨49,1,[(0,.msl 0 0 none none),(1,I a),(2,I b),(6,I i)],[(0,ROW 1 K1 dZ 0)]⟩
def iO (a:Int) (b:Int) (i:Int) (j:Int) (dZ:List Int):Option ((Int×List Int)⊕(List Int)):=let y0:=j.toNat<dZ.length;let y2:=(j-1).toNat<dZ.length;let y4:=nth dZ j.toNat;let y5:=(j-1).toNat;let y1:=dZ.set j.toNat (nth dZ y5);let y3:=(j-1).toNat<y1.length;bif decide (j>a) then G1 (0<=j)<|G1 y0<|G1 y0<|G2 (j-1)<|G1 (0<=j-1)<|G1 y2<|G1 y2<|(cmp_Less_int y4 (nth dZ y5)).bind fun x0=>bif x0 then G2 (j-1)<|G2 (j-1)<|G1 (0<=j-1)<|G1 y2<|G1 y2<|G1 (0<=j)<|G1 y0<|G1 y0<|G1 (0<=j)<|G1 y0<|G1 y0<|G1 (0<=j-1)<|G1 y3<|G1 y3<|G2 (j-1)<|some (.inl (j-1,y1.set y5 y4)) else some (.inr dZ) else some (.inr dZ)
theorem oW (a:Int) (b:Int) (i:Int):∀σ:Int×List Int,aU Tryz.prog (nav [1,0,0,1,0,0,1,0,0] (aQ Tryz.f221)) (fun (σ:Int×List Int)=>oG a b i σ.1 σ.2) (fun (_:List Int)=>(.exit 2)) (fun (y:List Int)=>pz a b i y) σ (iO a b i σ.1 σ.2)
 | (j,dZ)=>let y0:=nth dZ ((j-1).toNat);let y1:=dZ.set j.toNat y0;let y2:=G3 [0,1,2,6] [0] (.ret (.inr dZ));let y3:=nth dZ j.toNat;aJ 2010 (.br 40008 (.op 40012 (.el K1 dZ .dn) (.op 40014 (.ld K1 dZ) (.op 40022 (.el K1 dZ .dn) (.op 40024 (.ld K1 dZ) (.call [] [] (RG y3 y0) .no fun x0=>.br 100000030 (.op 60016 (.el K1 dZ .dn) (.op 60018 (.ld K1 dZ) (.op 60024 (.el K1 dZ .dn) (.op 60026 (.ld K1 dZ) (.op 60028 (.el K1 dZ .dn) (.op 60030 (.st K1 dZ y0) (.op 60032 (.el K1 y1 .dn) (.op 60034 (.st K1 y1 y3) (G3 [0,1,2,6,7] [0] (.ret (.inl (j-1,y1.set ((j-1).toNat) y3)))))))))))) y2))))) y2)
def rJ (a:Int) (b:Int) (i:Int) (j:Int) (dZ:List Int):Option (List Int):=aT (fun (σ:Int×List Int)=>iO a b i σ.1 σ.2) FU (j,dZ)
def oH (a:Int) (b:Int) (i:Int) (j:Int) (dZ:List Int):=
 bf (oW a b i) (fun _ h=>by cases h) FU (j,dZ)
def nT (a:Int) (b:Int) (i:Int) (data:List Int):St:=⟨49,1,[(0,.msl 0 0 none none),(1,I a),(2,I b),(6,I i)],[(0,ROW 1 K1 data 0)]⟩
def nO (a:Int) (b:Int) (o:List Int):St:=⟨49,1,[],[(0,ROW 1 K1 o 0)]⟩
def iM (a:Int) (b:Int) (i:Int) (data:List Int):Option ((Int×List Int)⊕(List Int)):=bif decide (i<b) then (rJ a b i i data).bind fun x0=>G2 (i+1)<|some (.inl (i+1,x0)) else some (.inr data)
theorem nZ (a:Int) (b:Int):∀σ:Int×List Int,aU Tryz.prog (nav [1,0,0] (aQ Tryz.f221)) (fun (σ:Int×List Int)=>nT a b σ.1 σ.2) (fun (_:List Int)=>(.exit 0)) (fun (y:List Int)=>nO a b y) σ (iM a b σ.1 σ.2)
 | (i,data)=>aJ 1010 (.br 100000012 (G4 [0,1,2,6,7] [0] (.lp1 0 (oH a b i i data) fun x0=>G3 [0,1,2,6] [0] (.ret (.inl (i+1,x0))))) (G3 [] [0] (.ret (.inr data))))
def rM (a:Int) (b:Int) (i:Int) (data:List Int):Option (List Int):=aT (fun (σ:Int×List Int)=>iM a b σ.1 σ.2) FU (i,data)
def nY (a:Int) (b:Int) (i:Int) (data:List Int):=
 bf (nZ a b) (fun _ h=>by cases h) FU (i,data)
def jJ (o0:List Int) (a:Int) (b:Int):Option (List Int):=G2 (a+1)<|(rM a b (a+1) o0).bind fun x0=>some x0
theorem qN (o0:List Int) (a:Int) (b:Int):∀r,jJ o0 a b=some r->au Tryz.prog 221 1 [.msl 0 0 none none,I a,I b] [(0,ROW 1 K1 o0 0)] (.tup []) [(0,ROW 1 K1 r 0)]:=
 aA 10 (G4 [0,1,2,6] [0] (.lp1 0 (nY a b (a+1) o0) fun x0=>.ret x0)) Tryz.func221
def uZ (o0:List Int) (a:Int) (a1:Int) (a2:Int):St:=⟨134,1,[(0,.msl 0 0 none none),(1,I a),(2,I a1),(3,I a2),(8,B true),(9,B true)],[(0,ROW 1 K1 o0 0)]⟩
def uJ (o0:List Int) (a:Int) (a1:Int) (a2:Int) (o:List Int):St:=⟨134,1,[],[(0,ROW 1 K1 o 0)]⟩
def jV (o0:List Int) (a:Int) (a1:Int) (a2:Int):Option (Unit⊕(List Int)):=G2 (a1-a)<|bif decide ((a1-a)<=12) then (jJ o0 a a1).bind fun x0=>some (.inr x0) else bif a2==0 then none else none
theorem uT (o0:List Int) (a:Int) (a1:Int) (a2:Int):∀σ:Unit,aU Tryz.prog (nav [1,1,0,0] (aQ Tryz.f192)) (fun (σ:Unit)=>uZ o0 a a1 a2) (fun (_:List Int)=>.ret) (fun (y:List Int)=>uJ o0 a a1 a2 y) σ (jV o0 a a1 a2)
 | ()=>aJ 1010 (.br 100000023 (.call [0] [] (qN o0 a a1) .no fun x0=>G3 [] [0] (.ret (.inr x0))) (.br 100000029 .nil .nil))
def xq (o0:List Int) (a:Int) (a1:Int) (a2:Int):Option (List Int):=aT (fun (σ:Unit)=>jV o0 a a1 a2) FU ()
def vw (o0:List Int) (a:Int) (a1:Int) (a2:Int):=
 bf (uT o0 a a1 a2) (fun _ h=>by cases h) FU ()
def mM (o0:List Int) (a:Int) (a1:Int) (a2:Int):Option (List Int):=(xq o0 a a1 a2).bind fun x0=>some x0
theorem wC (o0:List Int) (a:Int) (a1:Int) (a2:Int):∀r,mM o0 a a1 a2=some r->au Tryz.prog 192 1 [.msl 0 0 none none,I a,I a1,I a2] [(0,ROW 1 K1 o0 0)] (.tup []) [(0,ROW 1 K1 r 0)]:=
 aA 10 (G4 [0,1,2,3,8,9] [0] (.lp1 0 (vw o0 a a1 a2) fun x0=>.ret x0)) Tryz.func192
def vW (o0:List Int):Option (List Int):=(JX (IntKind.wrap .u64 (o0.length:Int))).bind fun x0=>(mM o0 0 (o0.length:Int) x0).bind fun x1=>some x1
theorem BG (o0:List Int):∀r,vW o0=some r->au Tryz.prog 132 1 [.msl 0 0 none none] [(0,ROW 1 K1 o0 0)] (.tup []) [(0,ROW 1 K1 r 0)]:=
 aA 10 (.op 2 (.ln K1 o0) (.op 10006 .wr (.call [] [] (Ot (IntKind.wrap .u64 (o0.length:Int))) .no fun x0=>.call [0] [] (wC o0 0 (o0.length:Int) x0) .no fun x1=>.ret x1))) Tryz.func132
end Go.Ab.M
