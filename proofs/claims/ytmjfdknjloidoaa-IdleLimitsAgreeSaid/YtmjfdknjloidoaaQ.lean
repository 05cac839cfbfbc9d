/- The idle laws on the pure side, all of them. -/
import Derived.Test.YtmjfdknjloidoaaQ3
