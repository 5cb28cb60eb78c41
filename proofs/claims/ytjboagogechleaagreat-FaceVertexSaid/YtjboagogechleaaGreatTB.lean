import Derived.Test.YtjboagogechleaaGreatTA
namespace Go.Ab.M
open Go.Proofs
set_option linter.unusedVariables false
set_option linter.defProp false
set_option maxRecDepth 100000
def Zh (l:List Int) (n:Int):St:=⟨19,0,[(0,SL K5 l),(3,I n)],[]⟩
def ZJ (l:List Int) (n:Int):St:=⟨19,0,[(3,I n)],[]⟩
def sO (l:List Int) (n:Int):Option (Int⊕Int):=bif decide (n>0) then G3 (n-1)<|G1 (0<=n-1)<|G1 ((n-1).toNat<l.length)<|bif (nth l ((n-1).toNat))==0 then G3 (n-1)<|some (.inl (n-1)) else some (.inr n) else some (.inr n)
theorem ZG (l:List Int):∀σ:Int,aP Tryz.prog (nav [1,1,0,0,0] (aj Tryz.f179)) (fun (σ:Int)=>Zh l σ) (fun (_:Int)=>(.exit 0)) (fun (y:Int)=>ZJ l y) σ (sO l σ)
 | n=>aK 1010 (.br 20006 (.op 20012 (.el K5 l .dn) (.br 100000015 (G4 [0,3] [] (.ret (.inl (n-1)))) (G4 [3] [] (.ret (.inr n))))) (G4 [3] [] (.ret (.inr n))))
def V8 (l:List Int) (n:Int):Option Int:=aN (fun (σ:Int)=>sO l σ) FU n
def ZN (l:List Int) (n:Int):=
 aU (ZG l) (fun _ h=>by cases h) FU n
def sK (l:List Int):Option Int:=(V8 l (l.length:Int)).bind fun x0=>some x0
theorem pX (l:List Int):∀r,sK l=some r->ak Tryz.prog 179 0 [SL K5 l] [] (I r) []:=
 ay 10 (.op 10002 (.ln K5 l) (K3 [0,3] [] (.lp1 0 (ZN l (l.length:Int)) fun x0=>.ret x0))) Tryz.func179
def kS (x:Int):Option Int:=let y3:=((bQ.get! ((IntKind.wrap .u8 x).toNat)).toNat:Int);let y4:=bM .u32 x 16;let y1:=((bQ.get! ((IntKind.wrap .u8 y4).toNat)).toNat:Int);let y5:=bM .u32 y4 8;let y0:=((bQ.get! ((IntKind.wrap .u8 y5).toNat)).toNat:Int);let y6:=bM .u32 x 8;let y2:=((bQ.get! ((IntKind.wrap .u8 y6).toNat)).toNat:Int);bif decide (x>=65536) then bif decide (y4>=256) then G1 (0<=IntKind.wrap .u8 y5)<|G1 ((IntKind.wrap .u8 y5).toNat<bQ.size)<|G3 y0<|G3 ((16+8)+y0)<|some ((16+8)+y0) else G1 (0<=IntKind.wrap .u8 y4)<|G1 ((IntKind.wrap .u8 y4).toNat<bQ.size)<|G3 y1<|G3 (16+y1)<|some (16+y1) else bif decide (x>=256) then G1 (0<=IntKind.wrap .u8 y6)<|G1 ((IntKind.wrap .u8 y6).toNat<bQ.size)<|G3 y2<|G3 ((0+8)+y2)<|some ((0+8)+y2) else G1 (0<=IntKind.wrap .u8 x)<|G1 ((IntKind.wrap .u8 x).toNat<bQ.size)<|G3 y3<|G3 (0+y3)<|some (0+y3)
theorem MZ (x:Int):∀r,kS x=some r->ak Tryz.prog 192 0 [NI .u32 x] [] (I r) []:=
 let y0:=bM .u32 x 16;ay 10 (.br 100000004 (.br 100000008 (.op 70004 .wr (.op 70006 (.ch bQ .dn) (.ret ((16+8)+((bQ.get! ((IntKind.wrap .u8 (bM .u32 y0 8)).toNat)).toNat:Int))))) (.op 70004 .wr (.op 70006 (.ch bQ .dn) (.ret (16+((bQ.get! ((IntKind.wrap .u8 y0).toNat)).toNat:Int)))))) (.br 100000008 (.op 70004 .wr (.op 70006 (.ch bQ .dn) (.ret ((0+8)+((bQ.get! ((IntKind.wrap .u8 (bM .u32 x 8)).toNat)).toNat:Int))))) (.op 70004 .wr (.op 70006 (.ch bQ .dn) (.ret (0+((bQ.get! ((IntKind.wrap .u8 x).toNat)).toNat:Int))))))) Tryz.func192
def uI (a:Int):Option Int:=(kS a).bind fun x0=>some x0
theorem Py (a:Int):∀r,uI a=some r->ak Tryz.prog 246 0 [NI .u32 a] [] (I r) []:=
 ay 10 (.call [] [] (MZ a) .no fun x0=>.ret x0) Tryz.func246
def ql (a:List Int):Option Int:=(sK a).bind fun x0=>bif x0==0 then some 0 else G3 (x0-1)<|G3 (32*(x0-1))<|G3 (x0-1)<|G1 (0<=x0-1)<|G1 ((x0-1).toNat<a.length)<|(uI (nth a ((x0-1).toNat))).bind fun x1=>G3 ((32*(x0-1))+x1)<|some ((32*(x0-1))+x1)
theorem Hu (a:List Int):∀r,ql a=some r->ak Tryz.prog 213 0 [SL K5 a] [] (I r) []:=
 ay 10 (.call [] [] (pX a) .no fun x0=>.br 100000007 (.ret 0) (.op 40012 (.el K5 a .dn) (.call [] [] (Py (nth a ((x0-1).toNat))) .no fun x1=>.ret ((32*(x0-1))+x1)))) Tryz.func213
def iD (a:List Int):Option (List Int):=(sK a).bind fun x0=>bif x0==0 then some [] else G1 (0<=x0)<|G1 (x0.toNat<=2147483648)<|some (a.take (List.replicate x0.toNat 0:List Int).length++(List.replicate x0.toNat 0:List Int).drop a.length)
theorem ig (a:List Int):∀r,iD a=some r->ak Tryz.prog 166 0 [SL K5 a] [] (SL K5 r) []:=
 ay 10 (.call [] [] (pX a) .no fun x0=>.br 100000008 (.ps 1000003 [.n 2] (.ret [])) (.op 40002 (.mk K5 0 .dn) (.op 50004 (.ap K5 (List.replicate x0.toNat 0) a 1 fun _=>⟨rfl,rfl⟩) (.ps 1000003 [.z 2] (.ret (a.take (List.replicate x0.toNat 0:List Int).length++(List.replicate x0.toNat 0:List Int).drop a.length)))))) Tryz.func166
def Wh (l:List Int) (n:Int) (i:Nat):St:=⟨18,0,[(3,NI .u64 n),(6,SL K5 l),(7,I (l.length:Int)),(8,I (i:Int))],[]⟩
def XF (l:List Int) (n:Int):St:=⟨18,0,[(3,NI .u64 n)],[]⟩
def bC (l:List Int) (n:Int) (i:Nat):Option ((Int×Nat)⊕Int):=bif decide ((i:Int)<(l.length:Int)) then G1 (i<l.length)<|bif inK .u64 (nth l i) then G3 ((i:Int)+1)<|some (.inl (IntKind.wrap .u64 (n+(nth l i)),i+1)) else none else some (.inr n)
theorem WL (l:List Int):∀σ:Int×Nat,aP Tryz.prog (nav [1,1,0,1,0,0] (aj Tryz.f252)) (fun (σ:Int×Nat)=>Wh l σ.1 σ.2) (fun (_:Int)=>(.exit 0)) (fun (y:Int)=>XF l y) σ (bC l σ.1 σ.2)
 | (n,i)=>aK 1010 (.br 100000009 (.op 40000 (.el K5 l (.up i)) (G4 [3,6,7,8] [] (.ret (.inl (IntKind.wrap .u64 (n+(nth l i)),i+1))))) (G4 [3] [] (.ret (.inr n))))
def yh (l:List Int) (n:Int) (i:Nat):Option Int:=aN (fun (σ:Int×Nat)=>bC l σ.1 σ.2) FU (n,i)
def WM (l:List Int) (n:Int) (i:Nat):=
 aU (WL l) (fun _ h=>by cases h) FU (n,i)
def nC (l:List Int):Option Int:=(yh l 0 0).bind fun x0=>some x0
theorem zT (l:List Int):∀r,nC l=some r->ak Tryz.prog 252 0 [SL K5 l] [] (NI .u64 r) []:=
 ay 10 (.op 20002 (.ln K5 l) (K3 [3,6,7,8] [] (.lp1 0 (WM l 0 0) fun x0=>.ret x0))) Tryz.func252
def wR (n:Int):Option (Int×Int):=some (IntKind.wrap .u32 (bM .u64 n 32),IntKind.wrap .u32 n)
theorem DN (n:Int):∀r,wR n=some r->ak Tryz.prog 251 0 [NI .u64 n] [] (.tup [NI .u32 r.1,NI .u32 r.2]) []:=
 ay 10 (.op 10004 .wr (.op 10008 .wr (.ret (IntKind.wrap .u32 (bM .u64 n 32),IntKind.wrap .u32 n)))) Tryz.func251
def H8 (a:Int) (b:Int) (c:Int) (d:Int):Option (Int×Int):=bif inK .u64 a then bif inK .u64 b then (nC [c,d]).bind fun x0=>(wR (IntKind.wrap .u64 ((IntKind.wrap .u64 (a*b))+x0))).bind fun x1=>some (x1.1,x1.2) else none else none
theorem TN (a:Int) (b:Int) (c:Int) (d:Int):∀r,H8 a b c d=some r->ak Tryz.prog 215 0 [NI .u32 a,NI .u32 b,NI .u32 c,NI .u32 d] [] (.tup [NI .u32 r.1,NI .u32 r.2]) []:=
 ay 10 (.call [] [] (zT [c,d]) (.yes fun _=>⟨rfl,trivial⟩) fun x0=>.call [] [] (DN (IntKind.wrap .u64 ((IntKind.wrap .u64 (a*b))+x0))) .no fun x1=>.ret (x1.1,x1.2)) Tryz.func215
def UJ (fD:Nat) (a:List Int) (w:Int) (c1:Int) (i:Nat) (out:List Int):St:=⟨37,1,[(0,.msl 0 0 none (some fD)),(1,SL K5 a),(2,NI .u32 w),(3,NI .u32 c1),(10,SL K5 a),(11,I (a.length:Int)),(12,I (i:Int))],[(0,ROW 1 K5 out 0)]⟩
def TS (fD:Nat) (a:List Int) (w:Int) (c1:Int) (out:List Int):St:=⟨37,1,[(0,.msl 0 0 none (some fD)),(1,SL K5 a),(3,NI .u32 c1)],[(0,ROW 1 K5 out 0)]⟩
def tK (fD:Nat) (a:List Int) (w:Int) (c1:Int) (i:Nat) (out:List Int):Option ((Int×Nat×List Int)⊕(Int×List Int)):=let y0:=i<out.length;bif decide ((i:Int)<(a.length:Int)) then G1 (i<a.length)<|G1 y0<|G1 y0<|(H8 (nth a i) w (nth out i) c1).bind fun x0=>G1 y0<|G1 y0<|G3 ((i:Int)+1)<|some (.inl (x0.1,i+1,out.set i x0.2)) else some (.inr (c1,out))
theorem Uk (fD:Nat) (a:List Int) (w:Int):∀σ:Int×Nat×List Int,aP Tryz.prog (nav [0,1,0,0] (aj Tryz.f165)) (fun (σ:Int×Nat×List Int)=>UJ fD a w σ.1 σ.2.1 σ.2.2) (fun (_:Int×List Int)=>(.exit 0)) (fun (y:Int×List Int)=>TS fD a w y.1 y.2) σ (tK fD a w σ.1 σ.2.1 σ.2.2)
 | (c1,i,out)=>aK 1010 (.br 100000013 (.op 20002 (.el K5 a (.up i)) (.op 30012 (.el K5 out (.up i)) (.op 30014 (.ld K5 out) (.call [] [] (TN (nth a i) w (nth out i) c1) .no fun x0=>.op 30028 (.el K5 out (.up i)) (.op 30030 (.st K5 out x0.2) (G4 [0,1,2,3,10,11,12] [0] (.ret (.inl (x0.1,i+1,out.set i x0.2))))))))) (G4 [0,1,3] [0] (.ret (.inr (c1,out)))))
def NC (fD:Nat) (a:List Int) (w:Int) (c1:Int) (i:Nat) (out:List Int):Option (Int×List Int):=aN (fun (σ:Int×Nat×List Int)=>tK fD a w σ.1 σ.2.1 σ.2.2) FU (c1,i,out)
def Ux (fD:Nat) (a:List Int) (w:Int) (c1:Int) (i:Nat) (out:List Int):=
 aU (Uk fD a w) (fun _ h=>by cases h) FU (c1,i,out)
def FW (o0:List Int) (fD:Nat) (a:List Int) (w:Int) (c:Int):Option (List Int):=(NC fD a w c 0 o0).bind fun x0=>G1 (a.length<x0.2.length)<|G1 (a.length<x0.2.length)<|some (x0.2.set a.length x0.1)
theorem ZF (o0:List Int) (fD:Nat) (a:List Int) (w:Int) (c:Int):∀r,FW o0 fD a w c=some r->ak Tryz.prog 165 1 [.msl 0 0 none (some fD),SL K5 a,NI .u32 w,NI .u32 c] [(0,ROW 1 K5 o0 0)] (.tup []) [(0,ROW 1 K5 r 0)]:=
 ay 10 (.op 2 (.ln K5 a) (K3 [0,1,2,3,10,11,12] [0] (.lp1 0 (Ux fD a w c 0 o0) fun x0=>.op 50004 (.ln K5 a) (.op 50008 (.el K5 x0.2 (.up a.length)) (.op 50010 (.st K5 x0.2 x0.1) (.ret (x0.2.set a.length x0.1))))))) Tryz.func165
def EZ (a:List Int) (w:Int) (c:Int):Option (List Int):=G3 ((a.length:Int)+1)<|G1 (a.length+1<=2147483648)<|(FW (List.replicate (a.length+1) 0) (a.length+1) a w c).bind fun x0=>(iD x0).bind fun x1=>some x1
theorem Qj (a:List Int) (w:Int) (c:Int):∀r,EZ a w c=some r->ak Tryz.prog 265 0 [SL K5 a,NI .u32 w,NI .u32 c] [] (SL K5 r) []:=
 let y0:=a.length+1;ay 10 (.op 10002 (.ln K5 a) (.op 10006 (.mk K5 0 (.up y0)) (.call [10] [] (ZF (List.replicate y0 0) y0 a w c) .no fun x0=>.call [] [] (ig x0) .no fun x1=>.ret x1))) Tryz.func265
def xX (a:List Int) (n:Int):Option (List Int):=G1 (0<=mxI 0 (mnI n 100000))<|G1 (0<32)<|G1 (mxI 0 (mnI n 100000)<=Go.Ab.hi .i64)<|G1 (0<=(mxI 0 (mnI n 100000))/32)<|G1 (((mxI 0 (mnI n 100000))/32).toNat<=2147483648)<|G1 (0<=mxI 0 (mnI n 100000))<|G1 (0<32)<|G1 (0<=(mxI 0 (mnI n 100000))%32)<|(EZ a (O4 .u32 1 ((mxI 0 (mnI n 100000))%32)) 0).bind fun x0=>G1 ((List.replicate (((mxI 0 (mnI n 100000))/32).toNat) 0:List Int).length+x0.length<=2147483648)<|(iD ((List.replicate (((mxI 0 (mnI n 100000))/32).toNat) 0)++x0)).bind fun x1=>some x1
theorem Jf (a:List Int) (n:Int):∀r,xX a n=some r->ak Tryz.prog 247 0 [SL K5 a,I n] [] (SL K5 r) []:=
 let y0:=List.replicate (((mxI 0 (mnI n 100000))/32).toNat) 0;ay 10 (.op 20004 (.mk K5 0 .dn) (.call [] [] (Qj a (O4 .u32 1 ((mxI 0 (mnI n 100000))%32)) 0) .no fun x0=>.op 30012 (.ap K5 y0 x0 1 fun _=>⟨rfl,rfl⟩) (.call [] [] (ig (y0++x0)) .no fun x1=>.ret x1))) Tryz.func247
def vT (hi:Int) (lo:Int) (d:Int):Option (Int×Int×Bool):=let y0:=O4 .u64 hi 32;let y1:=0<=aaL .u64 y0 lo;let y2:=aaL .u64 y0 lo;bif decide (hi>=d) then some (0,0,false) else bif inK .u64 hi then bif inK .u64 lo then bif inK .u64 d then G1 y1<|G1 (0<d)<|G1 (aaL .u64 y0 lo<=Go.Ab.hi .u64)<|bif inK .u64 d then G1 y1<|G1 (0<d)<|some (IntKind.wrap .u32 (y2/d),IntKind.wrap .u32 (y2%d),true) else none else none else none else none
theorem IY (hi:Int) (lo:Int) (d:Int):∀r,vT hi lo d=some r->ak Tryz.prog 267 0 [NI .u32 hi,NI .u32 lo,NI .u32 d] [] (.tup [NI .u32 r.1,NI .u32 r.2.1,B r.2.2]) []:=
 let y0:=aaL .u64 (O4 .u64 hi 32) lo;ay 10 (.br 100000012 (.ret (0,0,false)) (.op 40008 .wr (.op 40018 .wr (.ret (IntKind.wrap .u32 (y0/d),IntKind.wrap .u32 (y0%d),true))))) Tryz.func267
def qG (rest:List Int) (b:List Int):Option Int:=let y0:=(b.length:Int);let y1:=(y0-1).toNat;let y2:=(y0-1).toNat<rest.length;let y3:=(y0-1).toNat<b.length;let y4:=(rest.length:Int);let y5:=nth rest y1;bif decide (y4<y0) then some 0 else bif decide (y4>y0) then G1 (b.length<rest.length)<|G3 (y0-1)<|G1 (0<=y0-1)<|G1 y2<|G3 (y0-1)<|G1 (0<=y0-1)<|G1 y3<|(vT (nth rest b.length) y5 (nth b y1)).bind fun x0=>bif !x0.2.2 then some 4294967295 else some x0.1 else G3 (y0-1)<|G1 (0<=y0-1)<|G1 y2<|G3 (y0-1)<|G1 (0<=y0-1)<|G1 y3<|(vT 0 y5 (nth b y1)).bind fun x0=>bif !x0.2.2 then some 4294967295 else some x0.1
theorem XH (rest:List Int) (b:List Int):∀r,qG rest b=some r->ak Tryz.prog 266 0 [SL K5 rest,SL K5 b] [] (NI .u32 r) []:=
 let y0:=((b.length:Int)-1).toNat;let y1:=nth rest y0;ay 10 (.op 10002 (.ln K5 b) (.op 20002 (.ln K5 rest) (.br 100000015 (.ret 0) (.op 50002 (.ln K5 rest) (.br 100000019 (.op 60004 (.el K5 rest (.up b.length)) (.op 70008 (.el K5 rest .dn) (.op 70018 (.el K5 b .dn) (.call [] [] (IY (nth rest b.length) y1 (nth b y0)) .no fun x0=>.br 100000041 (.ret 4294967295) (.ret x0.1))))) (.op 70008 (.el K5 rest .dn) (.op 70018 (.el K5 b .dn) (.call [] [] (IY 0 y1 (nth b y0)) .no fun x0=>.br 100000041 (.ret 4294967295) (.ret x0.1))))))))) Tryz.func266
def cmp_Compare_int (x:Int) (y:Int):Option Int:=(cmp_isNaN_int x).bind fun x0=>(cmp_isNaN_int y).bind fun x1=>bif x0 then bif x1 then some 0 else some (-1) else bif x1 then some 1 else bif decide (x<y) then some (-1) else bif decide (x>y) then some 1 else some 0
theorem jU (x:Int) (y:Int):∀r,cmp_Compare_int x y=some r->ak Tryz.prog 143 0 [I x,I y] [] (I r) []:=
 ay 10 (.call [] [] (qQ x) .no fun x0=>.call [] [] (qQ y) .no fun x1=>.br 100000011 (.br 100000012 (.ret 0) (.ret (-1))) (.br 100000013 (.ret 1) (.br 100000016 (.ret (-1)) (.br 100000019 (.ret 1) (.ret 0))))) Tryz.func143
def ru (x:Int):Option Bool:=some (x != x)
theorem zu (x:Int):∀r,ru x=some r->ak Tryz.prog 254 0 [NI .u32 x] [] (B r) []:=
 ay 10 (.ret (x != x)) Tryz.func254
def og (x:Int) (y:Int):Option Int:=(ru x).bind fun x0=>(ru y).bind fun x1=>bif x0 then bif x1 then some 0 else some (-1) else bif x1 then some 1 else bif decide (x<y) then some (-1) else bif decide (x>y) then some 1 else some 0
theorem Hg (x:Int) (y:Int):∀r,og x y=some r->ak Tryz.prog 220 0 [NI .u32 x,NI .u32 y] [] (I r) []:=
 ay 10 (.call [] [] (zu x) .no fun x0=>.call [] [] (zu y) .no fun x1=>.br 100000011 (.br 100000012 (.ret 0) (.ret (-1))) (.br 100000013 (.ret 1) (.br 100000016 (.ret (-1)) (.br 100000019 (.ret 1) (.ret 0))))) Tryz.func220
def aaX (a:List Int) (b:List Int) (x0:Int) (i:Nat):St:=⟨41,0,[(0,SL K5 a),(1,SL K5 b),(5,I x0),(18,I x0),(19,I (i:Int))],[]⟩
def aaG (a:List Int) (b:List Int) (x0:Int) (i:Int):St:=⟨41,0,[(4,I i)],[]⟩
def abu (a:List Int) (b:List Int) (x0:Int):St:=⟨41,0,[],[]⟩
def jG (a:List Int) (b:List Int) (x0:Int) (i:Nat):Option (Nat⊕(Int⊕Unit)):=let y0:=(x0-1)-(i:Int);let y1:=0<=(x0-1)-(i:Int);bif decide ((i:Int)<x0) then G3 (x0-1)<|G3 y0<|G1 y1<|G1 (y0.toNat<a.length)<|G3 (x0-1)<|G3 y0<|G1 y1<|G1 (y0.toNat<b.length)<|(og (nth a (y0.toNat)) (nth b (y0.toNat))).bind fun x3=>bif x3 != 0 then some (.inr (.inl x3)) else G3 ((i:Int)+1)<|some (.inl (i+1)) else some (.inr (.inr ()))
theorem aaT (a:List Int) (b:List Int) (x0:Int):∀σ:Nat,aP Tryz.prog (nav [1,1,1,0,1,0,0] (aj Tryz.f180)) (fun (σ:Nat)=>aaX a b x0 σ) (fun (y:Int⊕Unit)=>bf y (fun _=>.ret) (fun _=>(.exit 0))) (fun (y:Int⊕Unit)=>bf y (fun y=>aaG a b x0 y) (fun y=>abu a b x0)) σ (jG a b x0 σ)
 | i=>let y0:=((x0-1)-(i:Int)).toNat;aK 1010 (.br 100000020 (.op 80010 (.el K5 a .dn) (.op 80024 (.el K5 b .dn) (.call [] [] (Hg (nth a y0) (nth b y0)) .no fun x3=>.br 100000038 (G4 [4] [] (.ret (.inr (.inl x3)))) (G4 [0,1,5,18,19] [] (.ret (.inl (i+1))))))) (G4 [] [] (.ret (.inr (.inr ())))))
def RN (a:List Int) (b:List Int) (x0:Int) (i:Nat):Option (Int⊕Unit):=aN (fun (σ:Nat)=>jG a b x0 σ) FU i
def aa9 (a:List Int) (b:List Int) (x0:Int) (i:Nat):=
 aU (aaT a b x0) (fun y h=>by rcases y with y | y<;>cases h) FU i
def Og (a:List Int) (b:List Int):Option Int:=(sK a).bind fun x0=>(sK b).bind fun x1=>(cmp_Compare_int x0 x1).bind fun x2=>bif x2 != 0 then some x2 else (RN a b x0 0).bind fun y_=>bf y_ (fun x3=>some x3) (fun x4=>some 0)
theorem XL (a:List Int) (b:List Int):∀r,Og a b=some r->ak Tryz.prog 180 0 [SL K5 a,SL K5 b] [] (I r) []:=
 ay 10 (.call [] [] (pX a) .no fun x0=>.call [] [] (pX b) .no fun x1=>.call [] [] (jU x0 x1) .no fun x2=>.br 100000016 (.ret x2) (K3 [0,1,5,18,19] [] (.lp2 0 (aa9 a b x0 0) (fun x3=>.ret x3) (fun x4=>.ret 0)))) Tryz.func180
def MB (a:List Int) (i:Int):Option Int:=bif decide (i<(a.length:Int)) then G1 (0<=i)<|G1 (i.toNat<a.length)<|some (nth a i.toNat) else some 0
theorem QA (a:List Int) (i:Int):∀r,MB a i=some r->ak Tryz.prog 219 0 [SL K5 a,I i] [] (NI .u32 r) []:=
 ay 10 (.op 10004 (.ln K5 a) (.br 100000008 (.op 20004 (.el K5 a .dn) (.ret (nth a i.toNat))) (.ret 0))) Tryz.func219
def Qi (a:Int) (b:Int) (c:Int):Option (Int×Int):=(nC [b,c]).bind fun x0=>bif inK .u64 a then (nC [IntKind.wrap .u32 (IntKind.wrap .u64 (a-x0))]).bind fun x1=>(wR (IntKind.wrap .u64 (x1+x0))).bind fun x2=>some (IntKind.wrap .u32 (IntKind.wrap .u64 (a-x0)),x2.1) else none
theorem acK (a:Int) (b:Int) (c:Int):∀r,Qi a b c=some r->ak Tryz.prog 253 0 [NI .u32 a,NI .u32 b,NI .u32 c] [] (.tup [NI .u32 r.1,NI .u32 r.2]) []:=
 ay 10 (.call [] [] (zT [b,c]) (.yes fun _=>⟨rfl,trivial⟩) fun x0=>.op 20008 .wr (.call [] [] (zT [IntKind.wrap .u32 (IntKind.wrap .u64 (a-x0))]) (.yes fun _=>⟨rfl,trivial⟩) fun x1=>.call [] [] (DN (IntKind.wrap .u64 (x1+x0))) .no fun x2=>.ret (IntKind.wrap .u32 (IntKind.wrap .u64 (a-x0)),x2.1))) Tryz.func253
def aci (a:List Int) (b:List Int) (x1:Int) (borrow:Int) (i:Nat) (out:List Int):St:=⟨40,0,[(0,SL K5 a),(1,SL K5 b),(7,.msl 10 0 none (some x1.toNat)),(8,NI .u32 borrow),(18,I x1),(19,I (i:Int))],[(10,ROW 1 K5 out 0)]⟩
def abb (a:List Int) (b:List Int) (x1:Int) (out:List Int):St:=⟨40,0,[(7,.msl 10 0 none (some x1.toNat))],[(10,ROW 1 K5 out 0)]⟩
def vN (a:List Int) (b:List Int) (x1:Int) (borrow:Int) (i:Nat) (out:List Int):Option ((Int×Nat×List Int)⊕(List Int)):=let y0:=i<out.length;bif decide ((i:Int)<x1) then G1 (i<a.length)<|(MB b (i:Int)).bind fun x2=>(Qi (nth a i) x2 borrow).bind fun x3=>G1 y0<|G1 y0<|G3 ((i:Int)+1)<|some (.inl (x3.2,i+1,out.set i x3.1)) else some (.inr out)
theorem ab9 (a:List Int) (b:List Int) (x1:Int):∀σ:Int×Nat×List Int,aP Tryz.prog (nav [1,1,1,1,1,0,1,0,0] (aj Tryz.f216)) (fun (σ:Int×Nat×List Int)=>aci a b x1 σ.1 σ.2.1 σ.2.2) (fun (_:List Int)=>(.exit 0)) (fun (y:List Int)=>abb a b x1 y) σ (vN a b x1 σ.1 σ.2.1 σ.2.2)
 | (borrow,i,out)=>aK 1010 (.br 100000020 (.op 90008 (.el K5 a (.up i)) (.call [] [] (QA b (i:Int)) .no fun x2=>.call [] [] (acK (nth a i) x2 borrow) .no fun x3=>.op 90028 (.el K5 out (.up i)) (.op 90030 (.st K5 out x3.1) (G4 [0,1,7,8,18,19] [10] (.ret (.inl (x3.2,i+1,out.set i x3.1))))))) (G4 [7] [10] (.ret (.inr out))))
def RP (a:List Int) (b:List Int) (x1:Int) (borrow:Int) (i:Nat) (out:List Int):Option (List Int):=aN (fun (σ:Int×Nat×List Int)=>vN a b x1 σ.1 σ.2.1 σ.2.2) FU (borrow,i,out)
def abx (a:List Int) (b:List Int) (x1:Int) (borrow:Int) (i:Nat) (out:List Int):=
 aU (ab9 a b x1) (fun _ h=>by cases h) FU (borrow,i,out)
def JV (a:List Int) (b:List Int):Option (List Int×Bool):=(Og a b).bind fun x0=>bif decide (x0<0) then some ([],false) else (sK a).bind fun x1=>G1 (0<=x1)<|G1 (x1.toNat<=2147483648)<|(RP a b x1 0 0 (List.replicate x1.toNat 0)).bind fun x2=>(iD x2).bind fun x3=>some (x3,true)
theorem MR (a:List Int) (b:List Int):∀r,JV a b=some r->ak Tryz.prog 216 0 [SL K5 a,SL K5 b] [] (.tup [SL K5 r.1,B r.2]) []:=
 ay 10 (.call [] [] (XL a b) .no fun x0=>.br 100000013 (.ps 1000003 [.n 4] (.ret ([],false))) (.call [] [] (pX a) .no fun x1=>.op 40002 (.mk K5 0 .dn) (K3 [0,1,7,8,18,19] [10] (.lp1 0 (abx a b x1 0 0 (List.replicate x1.toNat 0)) fun x2=>.call [] [] (ig x2) .no fun x3=>.ret (x3,true))))) Tryz.func216
def RY (rest:List Int) (b:List Int) (q:Int):St:=⟨26,0,[(0,SL K5 rest),(1,SL K5 b),(6,NI .u32 q)],[]⟩
def Rt (rest:List Int) (b:List Int) (aob:List Int) (q:Int):St:=⟨26,0,[(0,SL K5 aob),(6,NI .u32 q)],[]⟩
def mP (rest:List Int) (b:List Int) (q:Int):Option (Int⊕(List Int×Int)):=(EZ b q 0).bind fun x1=>(JV rest x1).bind fun x2=>bif x2.2 then some (.inr (x2.1,q)) else some (.inl (IntKind.wrap .u32 (q-1)))
theorem QW (rest:List Int) (b:List Int):∀σ:Int,aP Tryz.prog (nav [1,0,1,1,0,0,0] (aj Tryz.f248)) (fun (σ:Int)=>RY rest b σ) (fun (_:List Int×Int)=>(.exit 0)) (fun (y:List Int×Int)=>Rt rest b y.1 y.2) σ (mP rest b σ)
 | q=>aK 1010 (.call [] [] (Qj b q 0) .no fun x1=>.call [] [] (MR rest x1) .no fun x2=>.br 100000020 (G4 [0,6] [] (.ret (.inr (x2.1,q)))) (G4 [0,1,6] [] (.ret (.inl (IntKind.wrap .u32 (q-1))))))
def DF (rest:List Int) (b:List Int) (q:Int):Option (List Int×Int):=aN (fun (σ:Int)=>mP rest b σ) FU q
def Q5 (rest:List Int) (b:List Int) (q:Int):=
 aU (QW rest b) (fun _ h=>by cases h) FU q
def yK (rest:List Int) (b:List Int):Option (Int×List Int):=(qG rest b).bind fun x0=>(DF rest b x0).bind fun x1=>some (x1.2,x1.1)
theorem Xx (rest:List Int) (b:List Int):∀r,yK rest b=some r->ak Tryz.prog 248 0 [SL K5 rest,SL K5 b] [] (.tup [NI .u32 r.1,SL K5 r.2]) []:=
 ay 10 (.call [] [] (XH rest b) .no fun x0=>K3 [0,1,6] [] (.lp1 0 (Q5 rest b x0) fun x1=>.ret (x1.2,x1.1))) Tryz.func248
def WS (x1:Int) (x2:List Int) (x3:List Int) (i:List Int) (i1:Int) (o:List Int):St:=⟨74,0,[(0,SL K5 x2),(1,SL K5 x3),(4,.msl 10 0 none (some x2.length)),(5,SL K5 i),(7,I (32-x1)),(8,I i1)],[(10,ROW 1 K5 o 0)]⟩
def Ya (x1:Int) (x2:List Int) (x3:List Int) (i:List Int) (o:List Int):St:=⟨74,0,[(4,.msl 10 0 none (some x2.length)),(5,SL K5 i),(7,I (32-x1))],[(10,ROW 1 K5 o 0)]⟩
def qw (x1:Int) (x2:List Int) (x3:List Int) (i:List Int) (i1:Int) (o:List Int):Option ((List Int×Int×List Int)⊕(List Int×List Int)):=let y0:=i1.toNat<o.length;bif decide (i1>=0) then G1 (0<=i1)<|G1 (i1.toNat<x2.length)<|G1 (1+i.length<=2147483648)<|(iD ([nth x2 i1.toNat]++i)).bind fun x4=>(yK x4 x3).bind fun x5=>G1 (0<=i1)<|G1 y0<|G1 y0<|G3 (i1-1)<|some (.inl (x5.2,i1-1,o.set i1.toNat x5.1)) else some (.inr (i,o))
theorem Xf (x1:Int) (x2:List Int) (x3:List Int):∀σ:List Int×Int×List Int,aP Tryz.prog (nav [1,1,1,1,1,1,0,1,0,0] (aj Tryz.f214)) (fun (σ:List Int×Int×List Int)=>WS x1 x2 x3 σ.1 σ.2.1 σ.2.2) (fun (_:List Int×List Int)=>(.exit 0)) (fun (y:List Int×List Int)=>Ya x1 x2 x3 y.1 y.2) σ (qw x1 x2 x3 σ.1 σ.2.1 σ.2.2)
 | (i,i1,o)=>aK 1010 (.br 100000037 (.op 100008 (.el K5 x2 .dn) (.op 100016 (.ap K5 [nth x2 i1.toNat] i 1 fun _=>⟨rfl,rfl⟩) (.call [] [] (ig ([nth x2 i1.toNat]++i)) .no fun x4=>.call [] [] (Xx x4 x3) .no fun x5=>.op 100030 (.el K5 o .dn) (.op 100032 (.st K5 o x5.1) (G4 [0,1,4,5,7,8] [10] (.ret (.inl (x5.2,i1-1,o.set i1.toNat x5.1)))))))) (G4 [4,5,7] [10] (.ret (.inr (i,o)))))
def Dh (x1:Int) (x2:List Int) (x3:List Int) (i:List Int) (i1:Int) (o:List Int):Option (List Int×List Int):=aN (fun (σ:List Int×Int×List Int)=>qw x1 x2 x3 σ.1 σ.2.1 σ.2.2) FU (i,i1,o)
def W9 (x1:Int) (x2:List Int) (x3:List Int) (i:List Int) (i1:Int) (o:List Int):=
 aU (Xf x1 x2 x3) (fun _ h=>by cases h) FU (i,i1,o)
def tN (n:Int):Option (List Int):=(iD [IntKind.wrap .u32 n,IntKind.wrap .u32 (bM .u64 n 32)]).bind fun x0=>some x0
theorem mG (n:Int):∀r,tN n=some r->ak Tryz.prog 136 0 [NI .u64 n] [] (SL K5 r) []:=
 ay 10 (.op 10002 .wr (.op 10008 .wr (.call [] [] (ig [IntKind.wrap .u32 n,IntKind.wrap .u32 (bM .u64 n 32)]) .no fun x0=>.ret x0))) Tryz.func136
def Pn (nK:Nat) (sG:Nat) (fD:Nat) (a:List Int) (w:Int) (c1:Int) (i:Nat) (out:List Int):St:=⟨37,1,[(0,.msl 0 nK (some sG) (some fD)),(1,SL K5 a),(2,NI .u32 w),(3,NI .u32 c1),(10,SL K5 a),(11,I (a.length:Int)),(12,I (i:Int))],[(0,ROW 1 K5 out 0)]⟩
def OY (nK:Nat) (sG:Nat) (fD:Nat) (a:List Int) (w:Int) (c1:Int) (out:List Int):St:=⟨37,1,[(0,.msl 0 nK (some sG) (some fD)),(1,SL K5 a),(3,NI .u32 c1)],[(0,ROW 1 K5 out 0)]⟩
def gW (nK:Nat) (sG:Nat) (fD:Nat) (a:List Int) (w:Int) (c1:Int) (i:Nat) (out:List Int):Option ((Int×Nat×List Int)⊕(Int×List Int)):=let y0:=plus nK i<out.length;bif decide ((i:Int)<(a.length:Int)) then G1 (i<a.length)<|G1 (i<sG)<|G1 y0<|(H8 (nth a i) w (nth out (plus nK i)) c1).bind fun x0=>G1 (i<sG)<|G1 y0<|G3 ((i:Int)+1)<|some (.inl (x0.1,i+1,out.set (plus nK i) x0.2)) else some (.inr (c1,out))
theorem NY (nK:Nat) (sG:Nat) (fD:Nat) (a:List Int) (w:Int):∀σ:Int×Nat×List Int,aP Tryz.prog (nav [0,1,0,0] (aj Tryz.f165)) (fun (σ:Int×Nat×List Int)=>Pn nK sG fD a w σ.1 σ.2.1 σ.2.2) (fun (_:Int×List Int)=>(.exit 0)) (fun (y:Int×List Int)=>OY nK sG fD a w y.1 y.2) σ (gW nK sG fD a w σ.1 σ.2.1 σ.2.2)
 | (c1,i,out)=>aK 1010 (.br 100000013 (.op 20002 (.el K5 a (.up i)) (.op 30012 (.el K5 out (.up i)) (.op 30014 (.ld K5 out) (.call [] [] (TN (nth a i) w (nth out (plus nK i)) c1) .no fun x0=>.op 30028 (.el K5 out (.up i)) (.op 30030 (.st K5 out x0.2) (G4 [0,1,2,3,10,11,12] [0] (.ret (.inl (x0.1,i+1,out.set (plus nK i) x0.2))))))))) (G4 [0,1,3] [0] (.ret (.inr (c1,out)))))
def HY (nK:Nat) (sG:Nat) (fD:Nat) (a:List Int) (w:Int) (c1:Int) (i:Nat) (out:List Int):Option (Int×List Int):=aN (fun (σ:Int×Nat×List Int)=>gW nK sG fD a w σ.1 σ.2.1 σ.2.2) FU (c1,i,out)
def Pj (nK:Nat) (sG:Nat) (fD:Nat) (a:List Int) (w:Int) (c1:Int) (i:Nat) (out:List Int):=
 aU (NY nK sG fD a w) (fun _ h=>by cases h) FU (c1,i,out)
def zB (o0:List Int) (nK:Nat) (sG:Nat) (fD:Nat) (a:List Int) (w:Int) (c:Int):Option (List Int):=(HY nK sG fD a w c 0 o0).bind fun x0=>G1 (a.length<sG)<|G1 (plus nK a.length<x0.2.length)<|some (x0.2.set (plus nK a.length) x0.1)
theorem Ue (o0:List Int) (nK:Nat) (sG:Nat) (fD:Nat) (a:List Int) (w:Int) (c:Int):∀r,zB o0 nK sG fD a w c=some r->ak Tryz.prog 165 1 [.msl 0 nK (some sG) (some fD),SL K5 a,NI .u32 w,NI .u32 c] [(0,ROW 1 K5 o0 0)] (.tup []) [(0,ROW 1 K5 r 0)]:=
 ay 10 (.op 2 (.ln K5 a) (K3 [0,1,2,3,10,11,12] [0] (.lp1 0 (Pj nK sG fD a w c 0 o0) fun x0=>.op 50004 (.ln K5 a) (.op 50008 (.el K5 x0.2 (.up a.length)) (.op 50010 (.st K5 x0.2 x0.1) (.ret (x0.2.set (plus nK a.length) x0.1))))))) Tryz.func165
def Ye (a:List Int) (b:List Int) (i:Nat) (out:List Int):St:=⟨39,0,[(0,SL K5 a),(5,.msl 10 0 none (some ((a.length+b.length)+1))),(16,SL K5 b),(17,I (b.length:Int)),(18,I (i:Int))],[(10,ROW 1 K5 out 0)]⟩
def Xg (a:List Int) (b:List Int) (out:List Int):St:=⟨39,0,[(5,.msl 10 0 none (some ((a.length+b.length)+1)))],[(10,ROW 1 K5 out 0)]⟩
def pY (a:List Int) (b:List Int) (i:Nat) (out:List Int):Option ((Nat×List Int)⊕(List Int)):=let y0:=i+a.length;let y1:=y0+1<=(a.length+b.length)+1;let y2:=(i:Int)+(a.length:Int);bif decide ((i:Int)<(b.length:Int)) then G1 (i<b.length)<|G3 y2<|G3 (y2+1)<|G1 (i<=y0+1)<|G1 (0+(y0+1)<=(out.map K5).length)<|G1 y1<|bif (decide (y0+1<=y0+1)&&decide y1) then (zB out i ((y0+1)-i) ((y0+1)-i) a (nth b i) 0).bind fun x0=>G3 ((i:Int)+1)<|some (.inl (i+1,x0)) else none else some (.inr out)
theorem VY (a:List Int) (b:List Int):∀σ:Nat×List Int,aP Tryz.prog (nav [1,1,0,1,0,0] (aj Tryz.f116)) (fun (σ:Nat×List Int)=>Ye a b σ.1 σ.2) (fun (_:List Int)=>(.exit 0)) (fun (y:List Int)=>Xg a b y) σ (pY a b σ.1 σ.2)
 | (i,out)=>let y0:=(i+a.length)+1;aK 1010 (.br 100000019 (.op 40002 (.el K5 b (.up i)) (.op 50004 (.ln K5 a) (.op 60008 (.sb (.up i) (.up y0) (.up y0)) (.call [10] [] (Ue out i (y0-i) (y0-i) a (nth b i) 0) .no fun x0=>G4 [0,5,16,17,18] [10] (.ret (.inl (i+1,x0))))))) (G4 [5] [10] (.ret (.inr out))))
def Ji (a:List Int) (b:List Int) (i:Nat) (out:List Int):Option (List Int):=aN (fun (σ:Nat×List Int)=>pY a b σ.1 σ.2) FU (i,out)
def YJ (a:List Int) (b:List Int) (i:Nat) (out:List Int):=
 aU (VY a b) (fun _ h=>by cases h) FU (i,out)
def oZ (a:List Int) (b:List Int):Option (List Int):=G3 ((a.length:Int)+(b.length:Int))<|G3 (((a.length:Int)+(b.length:Int))+1)<|G1 ((a.length+b.length)+1<=2147483648)<|(Ji a b 0 (List.replicate ((a.length+b.length)+1) 0)).bind fun x0=>(iD x0).bind fun x1=>some x1
theorem qZ (a:List Int) (b:List Int):∀r,oZ a b=some r->ak Tryz.prog 116 0 [SL K5 a,SL K5 b] [] (SL K5 r) []:=
 let y0:=(a.length+b.length)+1;ay 10 (.op 10002 (.ln K5 a) (.op 10006 (.ln K5 b) (.op 10012 (.mk K5 0 (.up y0)) (.op 20002 (.ln K5 b) (K3 [0,5,16,17,18] [10] (.lp1 0 (YJ a b 0 (List.replicate y0 0)) fun x0=>.call [] [] (ig x0) .no fun x1=>.ret x1)))))) Tryz.func116
def YS (a:List Int) (n:Int) (x0:Int) (out:List Int) (i:Nat):St:=⟨40,0,[(0,SL K5 a),(6,I x0),(8,SL K5 out),(30,I (mnI n 1)),(31,I (i:Int))],[]⟩
def Yf (a:List Int) (n:Int) (x0:Int) (out:List Int):St:=⟨40,0,[(8,SL K5 out)],[]⟩
def Ht (a:List Int) (n:Int) (x0:Int) (out:List Int) (i:Nat):Option ((List Int×Nat)⊕(List Int)):=bif decide ((i:Int)<(mnI n 1)) then G1 (0<=x0)<|G1 (0<=x0.toNat)<|G1 (x0.toNat<=a.length)<|(oZ out (a.take x0.toNat)).bind fun x3=>G3 ((i:Int)+1)<|some (.inl (x3,i+1)) else some (.inr out)
theorem Yl (a:List Int) (n:Int) (x0:Int):∀σ:List Int×Nat,aP Tryz.prog (nav [1,1,1,1,1,1,0,1,0,0] (aj Tryz.f249)) (fun (σ:List Int×Nat)=>YS a n x0 σ.1 σ.2) (fun (_:List Int)=>(.exit 0)) (fun (y:List Int)=>Yf a n x0 y) σ (Ht a n x0 σ.1 σ.2)
 | (out,i)=>aK 1010 (.br 100000032 (.op 100006 (.sl K5 a 1 (fun _=>rfl) (.up 0) .dn) (.call [] [] (qZ out (a.take x0.toNat)) .no fun x3=>G4 [0,6,8,30,31] [] (.ret (.inl (x3,i+1))))) (G4 [8] [] (.ret (.inr out))))
def SG (a:List Int) (n:Int) (x0:Int) (out:List Int) (i:Nat):Option (List Int):=aN (fun (σ:List Int×Nat)=>Ht a n x0 σ.1 σ.2) FU (out,i)
def IU (a:List Int) (n:Int) (x0:Int) (out:List Int) (i:Nat):=
 aU (Yl a n x0) (fun _ h=>by cases h) FU (out,i)
def QC (a:List Int) (n:Int) (x0:Int) (out:List Int) (i:Nat):St:=⟨40,0,[(0,SL K5 a),(6,I x0),(8,SL K5 out),(30,I n),(31,I (i:Int))],[]⟩
def Q8 (a:List Int) (n:Int) (x0:Int) (out:List Int):St:=⟨40,0,[(8,SL K5 out)],[]⟩
def nG (a:List Int) (n:Int) (x0:Int) (out:List Int) (i:Nat):Option ((List Int×Nat)⊕(List Int)):=bif decide ((i:Int)<n) then G1 (0<=x0)<|G1 (0<=x0.toNat)<|G1 (x0.toNat<=a.length)<|(oZ out (a.take x0.toNat)).bind fun x3=>G3 ((i:Int)+1)<|some (.inl (x3,i+1)) else some (.inr out)
theorem QJ (a:List Int) (n:Int) (x0:Int):∀σ:List Int×Nat,aP Tryz.prog (nav [1,1,1,1,1,1,0,1,0,0] (aj Tryz.f249)) (fun (σ:List Int×Nat)=>QC a n x0 σ.1 σ.2) (fun (_:List Int)=>(.exit 0)) (fun (y:List Int)=>Q8 a n x0 y) σ (nG a n x0 σ.1 σ.2)
 | (out,i)=>aK 1010 (.br 100000032 (.op 100006 (.sl K5 a 1 (fun _=>rfl) (.up 0) .dn) (.call [] [] (qZ out (a.take x0.toNat)) .no fun x3=>G4 [0,6,8,30,31] [] (.ret (.inl (x3,i+1))))) (G4 [8] [] (.ret (.inr out))))
def Dt (a:List Int) (n:Int) (x0:Int) (out:List Int) (i:Nat):Option (List Int):=aN (fun (σ:List Int×Nat)=>nG a n x0 σ.1 σ.2) FU (out,i)
def Ed (a:List Int) (n:Int) (x0:Int) (out:List Int) (i:Nat):=
 aU (QJ a n x0) (fun _ h=>by cases h) FU (out,i)
def JJ (a:List Int) (n:Int):Option (List Int×Bool):=(sK a).bind fun x0=>(ql a).bind fun x1=>bif decide (n<0) then some ([],false) else bif decide (x1>1) then G1 (0<=4096)<|G1 (0<x0)<|G1 (4096<=Go.Ab.hi .i64)<|bif decide (n>(4096/x0)) then some ([],false) else bif !(decide (x1>1)) then (tN 1).bind fun x2=>(SG a n x0 x2 0).bind fun x3=>some (x3,true) else (tN 1).bind fun x2=>(Dt a n x0 x2 0).bind fun x3=>some (x3,true) else bif !(decide (x1>1)) then (tN 1).bind fun x2=>(SG a n x0 x2 0).bind fun x3=>some (x3,true) else (tN 1).bind fun x2=>(Dt a n x0 x2 0).bind fun x3=>some (x3,true)
theorem acp (a:List Int) (n:Int):∀r,JJ a n=some r->ak Tryz.prog 249 0 [SL K5 a,I n] [] (.tup [SL K5 r.1,B r.2]) []:=
 ay 10 (.call [] [] (pX a) .no fun x0=>.call [] [] (Hu a) .no fun x1=>.br 30006 (.ps 1000003 [.n 4] (.ret ([],false))) (.br 30010 (.br 100000024 (.ps 1000003 [.n 4] (.ret ([],false))) (.br 100000026 (.call [] [] (mG 1) .no fun x2=>K3 [0,6,8,30,31] [] (.lp1 0 (IU a n x0 x2 0) fun x3=>.ret (x3,true))) (.call [] [] (mG 1) .no fun x2=>K3 [0,6,8,30,31] [] (.lp1 0 (Ed a n x0 x2 0) fun x3=>.ret (x3,true))))) (.br 100000026 (.call [] [] (mG 1) .no fun x2=>K3 [0,6,8,30,31] [] (.lp1 0 (IU a n x0 x2 0) fun x3=>.ret (x3,true))) (.call [] [] (mG 1) .no fun x2=>K3 [0,6,8,30,31] [] (.lp1 0 (Ed a n x0 x2 0) fun x3=>.ret (x3,true)))))) Tryz.func249
def Rz (a:List Int) (d:Int) (r:Int) (i:Int) (q:List Int):St:=⟨37,0,[(0,SL K5 a),(1,NI .u32 d),(4,.msl 10 0 none (some a.length)),(5,NI .u32 r),(7,I i)],[(10,ROW 1 K5 q 0)]⟩
def QK (a:List Int) (d:Int) (r:Int) (q:List Int):St:=⟨37,0,[(4,.msl 10 0 none (some a.length)),(5,NI .u32 r)],[(10,ROW 1 K5 q 0)]⟩
def mJ (a:List Int) (d:Int) (r:Int) (i:Int) (q:List Int):Option ((Int×Int×List Int)⊕(Int×List Int)):=let y0:=i.toNat<q.length;bif decide (i>=0) then G1 (0<=i)<|G1 (i.toNat<a.length)<|(vT r (nth a i.toNat) d).bind fun x0=>G1 (0<=i)<|G1 y0<|G1 y0<|G3 (i-1)<|some (.inl (x0.2.1,i-1,q.set i.toNat x0.1)) else some (.inr (r,q))
theorem Qx (a:List Int) (d:Int):∀σ:Int×Int×List Int,aP Tryz.prog (nav [1,1,1,0,1,0,0] (aj Tryz.f250)) (fun (σ:Int×Int×List Int)=>Rz a d σ.1 σ.2.1 σ.2.2) (fun (_:Int×List Int)=>(.exit 0)) (fun (y:Int×List Int)=>QK a d y.1 y.2) σ (mJ a d σ.1 σ.2.1 σ.2.2)
 | (r,i,q)=>aK 1010 (.br 100000017 (.op 70010 (.el K5 a .dn) (.call [] [] (IY r (nth a i.toNat) d) .no fun x0=>.op 70026 (.el K5 q .dn) (.op 70028 (.st K5 q x0.1) (G4 [0,1,4,5,7] [10] (.ret (.inl (x0.2.1,i-1,q.set i.toNat x0.1))))))) (G4 [4,5] [10] (.ret (.inr (r,q)))))
def DL (a:List Int) (d:Int) (r:Int) (i:Int) (q:List Int):Option (Int×List Int):=aN (fun (σ:Int×Int×List Int)=>mJ a d σ.1 σ.2.1 σ.2.2) FU (r,i,q)
def Rn (a:List Int) (d:Int) (r:Int) (i:Int) (q:List Int):=
 aU (Qx a d) (fun _ h=>by cases h) FU (r,i,q)
def BN (a:List Int) (d:Int):Option (List Int×Int×Bool):=let y0:=(a.length:Int)-1;bif d==0 then some ([],0,false) else G1 (a.length<=2147483648)<|G3 y0<|(DL a d 0 y0 (List.replicate a.length 0)).bind fun x0=>(iD x0.2).bind fun x1=>some (x1,x0.1,true)
theorem XY (a:List Int) (d:Int):∀r,BN a d=some r->ak Tryz.prog 250 0 [SL K5 a,NI .u32 d] [] (.tup [SL K5 r.1,NI .u32 r.2.1,B r.2.2]) []:=
 ay 10 (.br 100000009 (.ps 1000003 [.n 4] (.ret ([],0,false))) (.op 30002 (.ln K5 a) (.op 30004 (.mk K5 0 (.up a.length)) (.op 40002 (.ln K5 a) (K3 [0,1,4,5,7] [10] (.lp1 0 (Rn a d 0 ((a.length:Int)-1) (List.replicate a.length 0)) fun x0=>.call [] [] (ig x0.2) .no fun x1=>.ret (x1,x0.1,true))))))) Tryz.func250
def uy (tA:List Int) (a:List Int):Option (List Int×List Int×Bool):=(iD a).bind fun x0=>bif (x0.length:Int)==0 then some ([],[],false) else G3 ((x0.length:Int)-1)<|G1 (0<=(x0.length:Int)-1)<|G1 (((x0.length:Int)-1).toNat<x0.length)<|(uI (nth x0 (((x0.length:Int)-1).toNat))).bind fun x1=>G3 (32-x1)<|(xX tA (32-x1)).bind fun x2=>(xX x0 (32-x1)).bind fun x3=>G1 (x2.length<=2147483648)<|G3 ((x2.length:Int)-1)<|(Dh x1 x2 x3 [] ((x2.length:Int)-1) (List.replicate x2.length 0)).bind fun x4=>(JJ [2] (32-x1)).bind fun x5=>G1 (0<x5.1.length)<|(BN x4.1 (nth x5.1 0)).bind fun x6=>(iD x4.2).bind fun x7=>some (x7,x6.1,true)
theorem Fq (tA:List Int) (a:List Int):∀r,uy tA a=some r->ak Tryz.prog 214 0 [SL K5 tA,SL K5 a] [] (.tup [SL K5 r.1,SL K5 r.2.1,B r.2.2]) []:=
 ay 10 (.call [] [] (ig a) .no fun x0=>.op 20002 (.ln K5 x0) (.br 100000015 (.ps 1000003 [.n 4,.n 5] (.ret ([],[],false))) (.op 40004 (.ln K5 x0) (.op 40008 (.el K5 x0 .dn) (.call [] [] (Py (nth x0 (((x0.length:Int)-1).toNat))) .no fun x1=>.call [] [] (Jf tA (32-x1)) .no fun x2=>.call [] [] (Jf x0 (32-x1)) .no fun x3=>.op 60002 (.ln K5 x2) (.op 60004 (.mk K5 0 (.up x2.length)) (.op 70002 (.ln K5 x2) (.ps 1000001 [.n 5,.k [0,1,4,5,7,8] [10]] (.lp1 0 (W9 x1 x2 x3 [] ((x2.length:Int)-1) (List.replicate x2.length 0)) fun x4=>.call [] [] (acp [2] (32-x1)) .no fun x5=>.op 120004 (.el K5 x5.1 (.up 0)) (.call [] [] (XY x4.1 (nth x5.1 0)) .no fun x6=>.call [] [] (ig x4.2) .no fun x7=>.ret (x7,x6.1,true))))))))))) Tryz.func214
end Go.Ab.M
